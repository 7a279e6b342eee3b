/-
  SourceNumbers (vesperlaw13): the closed sentence holds: an example source is written and read as it should be, and the errors, kinds, parts and limits have their numbers. Conditions: none beyond the row's own; the listed tables are tied by the card. (part 2 of 6)
-/
import Derived.Test.YthnafgffanlnfaaDoorSN1
import Derived.Shelf.Strings.Builder1
import Derived.Shelf.Strings.Builder2
import Derived.Shelf.Strings.OnBuilder
import Derived.Shelf.Strings.Trim
import Derived.Shelf.Small.Utf8
import Derived.Shelf.Small.Strs
import Derived.Shelf.Small.Wraps
import Derived.Shelf.Strings.BuilderF
import Derived.Shelf.Strings.Search1
import Derived.Shelf.Strings.Search2
import Derived.Shelf.Strings.Search3
import Derived.Shelf.Strings.Cut
import Derived.Shelf.LaysM
import Derived.Shelf.Strings.Shaped
import Derived.Shelf.Strings.Prefix
import Derived.Shelf.Strings.AsciiSet
import Derived.Shelf.Unicode.DecodeSlow
import Derived.Shelf.Strings.FieldsFuncAny
import Derived.Test.YthnafgffanlnfaaDoorProg
import Derived.Below
import Derived.Test.YthnafgffanlnfaaDoorRows
import Derived.ProofKit
import Derived.LaidMore
import Derived.OpenShut
import Derived.Stop.Joined
import Derived.HandedShaped
import Derived.Lib.LaidU8T
import Derived.Deep.Draws
import Derived.Deep.AppendLies
import Derived.Maps.AppendAt
import Derived.OwnWalk
import Derived.Laws.BytesArg
import Derived.Laws.MakeOwn
import Derived.Laws.OwnMore
import Derived.Deep.OwnRows
import Derived.Tactics
import Derived.Lib.ConvBytes
import Derived.Laws.Slices
import Derived.WalkKit
import Derived.KernelRfl
import Derived.RowKit3
import Derived.Deep.LoopGhost
import Derived.Deep.QuietTactic
import Derived.BigQuiet
import Derived.WideLaws
import Derived.Deep.DeepCutAuto
import Derived.Deep.CutBlock
import Derived.Deep.RegionHeld3
import Derived.Laws.Rows
import Derived.Lib.AppendStr
import Derived.ArgAppend
import Derived.Laws.IdiomCopy
import Derived.OrdersHeld
import Derived.Laws.BitsLemmas
import Derived.RowKit
import Derived.Shelf.Strings.SlTrimAscii
namespace Go.Proofs
open Go.Shelf
def Tryd.lays170_ren : Go.Shelf.Ren := ⟨fun | 170 => 55 | n => n, fun | 70 => 92 | 3 => 3 | 0 => 0 | 72 => 94 | 37 => 33 | 5 => 5 | n => n, fun | n => n⟩
theorem Tryd.lays170 : Go.Proofs.Lays.n170 Tryd.prog Tryd.lays170_ren := {
  mixed := by kernel_rfl
  f170 := Tryd.func55.trans (congrArg some (by kernel_rfl))
  t0 := Tryd.underlying0
  a0 := Tryd.isAgg0
  z0 := Tryd.sizeOf0
  v0 := Tryd.zeroValue0
  t3 := Tryd.underlying3
  a3 := Tryd.isAgg3
  z3 := Tryd.sizeOf3
  v3 := Tryd.zeroValue3
  t37 := Tryd.underlying33
  a37 := Tryd.isAgg33
  z37 := Tryd.sizeOf33
  v37 := Tryd.zeroValue33
  t70 := Tryd.underlying92
  a70 := Tryd.isAgg92
  z70 := Tryd.sizeOf92
  v70 := Tryd.zeroValue92
  t72 := Tryd.underlying94
  a72 := Tryd.isAgg94
  z72 := Tryd.sizeOf94
  v72 := Tryd.zeroValue94 }
open Go.RowKit in
theorem Tryd.Builder_Len (B b : Nat) (bs : List Value) (w : World) (h : Lib.IsBuilder 94 5 B b bs w) :
    Calls Tryd.prog 55 #[.pointer (some ⟨b, 0, none⟩)] w fun e w' => e = .returned (.int .i64 bs.length) ∧ w' = w := Any.Builder_Len Tryd.lays170 B b bs w h
def Tryd.lays169_ren : Go.Shelf.Ren := ⟨fun | 169 => 56 | n => n, fun | 70 => 92 | 9 => 9 | 0 => 0 | 72 => 94 | 37 => 33 | 127 => 133 | 3 => 3 | 5 => 5 | n => n, fun | n => n⟩
theorem Tryd.lays169 : Go.Proofs.Lays.n169 Tryd.prog Tryd.lays169_ren := {
  mixed := by kernel_rfl
  f169 := Tryd.func56.trans (congrArg some (by kernel_rfl))
  t0 := Tryd.underlying0
  a0 := Tryd.isAgg0
  z0 := Tryd.sizeOf0
  v0 := Tryd.zeroValue0
  t3 := Tryd.underlying3
  a3 := Tryd.isAgg3
  z3 := Tryd.sizeOf3
  v3 := Tryd.zeroValue3
  t9 := Tryd.underlying9
  a9 := Tryd.isAgg9
  z9 := Tryd.sizeOf9
  v9 := Tryd.zeroValue9
  t37 := Tryd.underlying33
  a37 := Tryd.isAgg33
  z37 := Tryd.sizeOf33
  v37 := Tryd.zeroValue33
  t70 := Tryd.underlying92
  a70 := Tryd.isAgg92
  z70 := Tryd.sizeOf92
  v70 := Tryd.zeroValue92
  t72 := Tryd.underlying94
  a72 := Tryd.isAgg94
  z72 := Tryd.sizeOf94
  v72 := Tryd.zeroValue94
  t127 := Tryd.underlying133
  a127 := Tryd.isAgg133
  z127 := Tryd.sizeOf133
  v127 := Tryd.zeroValue133 }
theorem Tryd.Builder_Extra_169 : Builder.Extra Tryd.prog Tryd.lays169_ren := {
  sizeBuilder := by kernel_rfl
  liesBuilder := by kernel_rfl
  t5 := Tryd.underlying5
  a5 := Tryd.isAgg5
  z5 := Tryd.sizeOf5
  v5 := Tryd.zeroValue5
  infoByte := by kernel_rfl
  cellsByte := by kernel_rfl
  sizeByte := by kernel_rfl
  neB5 := by decide }
open Go.RowKit in
theorem Tryd.Builder_String_any (B b : Nat) (l : List UInt8) (w : World) (h : Lib.IsBuilder 94 5 B b (Lib.byteCells l) w) (hBw : B ≤ w.heap.size) :
    Calls Tryd.prog 56 #[.pointer (some ⟨b, 0, none⟩)] w fun e w' => e = .returned (.string ⟨l.toArray⟩) ∧ Below B w w' := Any.Builder_String_any Tryd.lays169 Tryd.Builder_Extra_169 B b l w h hBw
def Tryd.lays156_ren : Go.Shelf.Ren := ⟨fun | 156 => 122 | 165 => 156 | 166 => 53 | 169 => 56 | 240 => 85 | 241 => 170 | 276 => 114 | 277 => 182 | n => n, fun | 31 => 104 | 9 => 9 | 3 => 3 | 4 => 4 | 0 => 0 | 20 => 20 | 72 => 94 | 76 => 97 | 70 => 92 | 37 => 33 | 75 => 96 | 127 => 133 | 164 => 163 | 5 => 5 | 80 => 101 | n => n, fun | n => n⟩
theorem Tryd.lays156 : Go.Proofs.Lays.n156 Tryd.prog Tryd.lays156_ren := {
  mixed := by kernel_rfl
  f156 := Tryd.func122.trans (congrArg some (by kernel_rfl))
  f165 := Tryd.func156.trans (congrArg some (by kernel_rfl))
  f166 := Tryd.func53.trans (congrArg some (by kernel_rfl))
  f169 := Tryd.func56.trans (congrArg some (by kernel_rfl))
  f240 := Tryd.func85.trans (congrArg some (by kernel_rfl))
  f241 := Tryd.func170.trans (congrArg some (by kernel_rfl))
  f276 := Tryd.func114.trans (congrArg some (by kernel_rfl))
  f277 := Tryd.func182.trans (congrArg some (by kernel_rfl))
  t0 := Tryd.underlying0
  a0 := Tryd.isAgg0
  z0 := Tryd.sizeOf0
  v0 := Tryd.zeroValue0
  t3 := Tryd.underlying3
  a3 := Tryd.isAgg3
  z3 := Tryd.sizeOf3
  v3 := Tryd.zeroValue3
  t4 := Tryd.underlying4
  a4 := Tryd.isAgg4
  z4 := Tryd.sizeOf4
  v4 := Tryd.zeroValue4
  t9 := Tryd.underlying9
  a9 := Tryd.isAgg9
  z9 := Tryd.sizeOf9
  v9 := Tryd.zeroValue9
  t20 := Tryd.underlying20
  a20 := Tryd.isAgg20
  z20 := Tryd.sizeOf20
  v20 := Tryd.zeroValue20
  t31 := Tryd.underlying104
  a31 := Tryd.isAgg104
  z31 := Tryd.sizeOf104
  v31 := Tryd.zeroValue104
  t37 := Tryd.underlying33
  a37 := Tryd.isAgg33
  z37 := Tryd.sizeOf33
  v37 := Tryd.zeroValue33
  t70 := Tryd.underlying92
  a70 := Tryd.isAgg92
  z70 := Tryd.sizeOf92
  v70 := Tryd.zeroValue92
  t72 := Tryd.underlying94
  a72 := Tryd.isAgg94
  z72 := Tryd.sizeOf94
  v72 := Tryd.zeroValue94
  t75 := Tryd.underlying96
  a75 := Tryd.isAgg96
  z75 := Tryd.sizeOf96
  v75 := Tryd.zeroValue96
  t76 := Tryd.underlying97
  a76 := Tryd.isAgg97
  z76 := Tryd.sizeOf97
  v76 := Tryd.zeroValue97
  t127 := Tryd.underlying133
  a127 := Tryd.isAgg133
  z127 := Tryd.sizeOf133
  v127 := Tryd.zeroValue133
  t164 := Tryd.underlying163
  a164 := Tryd.isAgg163
  z164 := Tryd.sizeOf163
  v164 := Tryd.zeroValue163 }
theorem Tryd.Builder_Extra_156 : Builder.Extra Tryd.prog Tryd.lays156_ren := {
  sizeBuilder := by kernel_rfl
  liesBuilder := by kernel_rfl
  t5 := Tryd.underlying5
  a5 := Tryd.isAgg5
  z5 := Tryd.sizeOf5
  v5 := Tryd.zeroValue5
  infoByte := by kernel_rfl
  cellsByte := by kernel_rfl
  sizeByte := by kernel_rfl
  neB5 := by decide }
open Go.RowKit in
theorem Tryd.strings_Join (bk o c : Nat) (xs : List ByteArray) (sep : ByteArray) (w : World) (hcells : ∀ (j : Nat) x, xs[j]? = some x → w.cell? ⟨bk, o + j, none⟩ = some (.string x)) (hbk : bk < w.heap.size) (hN : xs.length ≤ 140737488355328) (hcap : xs.length ≤ c) (hlen : (Lib.join (xs.map (·.data.toList)) sep.data.toList).length ≤ 140737488355328) :
    Calls Tryd.prog 122 #[.slice (some ⟨bk, o, none⟩) xs.length c, .string sep] w fun e w' => e = .returned (.string ⟨(Lib.join (xs.map (·.data.toList)) sep.data.toList).toArray⟩) ∧ Below w.heap.size w w' := Any.strings_Join Tryd.lays156 Tryd.Builder_Extra_156 bk o c xs sep w hcells hbk hN hcap hlen
def Tryd.lays160_ren : Go.Shelf.Ren := ⟨fun | 160 => 112 | 232 => 145 | 231 => 144 | 227 => 146 | 234 => 148 | 233 => 147 | 236 => 150 | 235 => 149 | 228 => 163 | 271 => 166 | 151 => 165 | 197 => 164 | 120 => 180 | 152 => 179 | 260 => 178 | 137 => 190 | 119 => 191 | 224 => 153 | 225 => 152 | 217 => 151 | 266 => 167 | n => n, fun | 9 => 9 | 4 => 4 | 3 => 3 | 5 => 5 | 117 => 195 | 116 => 194 | 0 => 0 | 124 => 198 | 21 => 21 | 105 => 205 | 46 => 165 | 119 => 232 | 139 => 235 | 138 => 234 | n => n, fun | 3 => 10 | 4 => 11 | n => n⟩
theorem Tryd.lays160 : Go.Proofs.Lays.n160 Tryd.prog Tryd.lays160_ren := {
  mixed := by kernel_rfl
  f119 := Tryd.func191.trans (congrArg some (by kernel_rfl))
  f120 := Tryd.func180.trans (congrArg some (by kernel_rfl))
  f137 := Tryd.func190.trans (congrArg some (by kernel_rfl))
  f151 := Tryd.func165.trans (congrArg some (by kernel_rfl))
  f152 := Tryd.func179.trans (congrArg some (by kernel_rfl))
  f160 := Tryd.func112.trans (congrArg some (by kernel_rfl))
  f197 := Tryd.func164.trans (congrArg some (by kernel_rfl))
  f217 := Tryd.func151.trans (congrArg some (by kernel_rfl))
  f224 := Tryd.func153.trans (congrArg some (by kernel_rfl))
  f225 := Tryd.func152.trans (congrArg some (by kernel_rfl))
  f227 := Tryd.func146.trans (congrArg some (by kernel_rfl))
  f228 := Tryd.func163.trans (congrArg some (by kernel_rfl))
  f231 := Tryd.func144.trans (congrArg some (by kernel_rfl))
  f232 := Tryd.func145.trans (congrArg some (by kernel_rfl))
  f233 := Tryd.func147.trans (congrArg some (by kernel_rfl))
  f234 := Tryd.func148.trans (congrArg some (by kernel_rfl))
  f235 := Tryd.func149.trans (congrArg some (by kernel_rfl))
  f236 := Tryd.func150.trans (congrArg some (by kernel_rfl))
  f260 := Tryd.func178.trans (congrArg some (by kernel_rfl))
  f266 := Tryd.func167.trans (congrArg some (by kernel_rfl))
  f271 := Tryd.func166.trans (congrArg some (by kernel_rfl))
  t0 := Tryd.underlying0
  a0 := Tryd.isAgg0
  z0 := Tryd.sizeOf0
  v0 := Tryd.zeroValue0
  t3 := Tryd.underlying3
  a3 := Tryd.isAgg3
  z3 := Tryd.sizeOf3
  v3 := Tryd.zeroValue3
  t4 := Tryd.underlying4
  a4 := Tryd.isAgg4
  z4 := Tryd.sizeOf4
  v4 := Tryd.zeroValue4
  t5 := Tryd.underlying5
  a5 := Tryd.isAgg5
  z5 := Tryd.sizeOf5
  v5 := Tryd.zeroValue5
  t9 := Tryd.underlying9
  a9 := Tryd.isAgg9
  z9 := Tryd.sizeOf9
  v9 := Tryd.zeroValue9
  t21 := Tryd.underlying21
  a21 := Tryd.isAgg21
  z21 := Tryd.sizeOf21
  v21 := Tryd.zeroValue21
  t46 := Tryd.underlying165
  a46 := Tryd.isAgg165
  z46 := Tryd.sizeOf165
  v46 := Tryd.zeroValue165
  t105 := Tryd.underlying205
  a105 := Tryd.isAgg205
  z105 := Tryd.sizeOf205
  v105 := Tryd.zeroValue205
  t116 := Tryd.underlying194
  a116 := Tryd.isAgg194
  z116 := Tryd.sizeOf194
  t117 := Tryd.underlying195
  a117 := Tryd.isAgg195
  z117 := Tryd.sizeOf195
  v117 := Tryd.zeroValue195
  t119 := Tryd.underlying232
  a119 := Tryd.isAgg232
  z119 := Tryd.sizeOf232
  t124 := Tryd.underlying198
  a124 := Tryd.isAgg198
  z124 := Tryd.sizeOf198
  v124 := Tryd.zeroValue198
  t138 := Tryd.underlying234
  a138 := Tryd.isAgg234
  z138 := Tryd.sizeOf234
  v138 := Tryd.zeroValue234
  t139 := Tryd.underlying235
  a139 := Tryd.isAgg235
  z139 := Tryd.sizeOf235
  v139 := Tryd.zeroValue235
  g3 := by kernel_rfl
  g4 := by kernel_rfl }
def Tryd.lays106_ren : Go.Shelf.Ren := ⟨fun | 106 => 78 | 213 => 108 | 265 => 141 | n => n, fun | 9 => 9 | 3 => 3 | n => n, fun | n => n⟩
theorem Tryd.lays106 : Go.Proofs.Lays.n106 Tryd.prog Tryd.lays106_ren := {
  mixed := by kernel_rfl
  f106 := Tryd.func78.trans (congrArg some (by kernel_rfl))
  f213 := Tryd.func108.trans (congrArg some (by kernel_rfl))
  f265 := Tryd.func141.trans (congrArg some (by kernel_rfl))
  t3 := Tryd.underlying3
  a3 := Tryd.isAgg3
  z3 := Tryd.sizeOf3
  v3 := Tryd.zeroValue3
  t9 := Tryd.underlying9
  a9 := Tryd.isAgg9
  z9 := Tryd.sizeOf9
  v9 := Tryd.zeroValue9 }
open Go.RowKit in
theorem Tryd.strings_Compare (a b : ByteArray) (w : World) :
    Calls Tryd.prog 78 #[.string a, .string b] w fun e w' => e = .returned (.int .i64 (Lib.compareBytes a.data.toList b.data.toList)) ∧ w' = w := Any.strings_Compare Tryd.lays106 a b w
def Tryd.lays211_ren : Go.Shelf.Ren := ⟨fun | 211 => 120 | 207 => 135 | n => n, fun | 9 => 9 | 4 => 4 | 3 => 3 | n => n, fun | n => n⟩
theorem Tryd.lays211 : Go.Proofs.Lays.n211 Tryd.prog Tryd.lays211_ren := {
  mixed := by kernel_rfl
  f207 := Tryd.func135.trans (congrArg some (by kernel_rfl))
  f211 := Tryd.func120.trans (congrArg some (by kernel_rfl))
  t3 := Tryd.underlying3
  a3 := Tryd.isAgg3
  z3 := Tryd.sizeOf3
  v3 := Tryd.zeroValue3
  t4 := Tryd.underlying4
  a4 := Tryd.isAgg4
  z4 := Tryd.sizeOf4
  v4 := Tryd.zeroValue4
  t9 := Tryd.underlying9
  a9 := Tryd.isAgg9
  z9 := Tryd.sizeOf9
  v9 := Tryd.zeroValue9 }
open Go.RowKit in
theorem Tryd.stringslite_CutSuffix (s p : ByteArray) (w : World) (hs : s.size ≤ 9223372036854775807) :
    Calls Tryd.prog 120 #[.string s, .string p] w fun e w' => e = .returned (.tuple #[.string ⟨(Lib.trimSuffix s.data.toList p.data.toList).toArray⟩, .bool (Lib.hasSuffix s.data.toList p.data.toList)]) ∧ w' = w := Any.stringslite_CutSuffix Tryd.lays211 s p w hs
def Tryd.lays104_ren : Go.Shelf.Ren := ⟨fun | 104 => 94 | 211 => 120 | 207 => 135 | n => n, fun | 9 => 9 | 4 => 4 | 24 => 143 | 3 => 3 | n => n, fun | n => n⟩
theorem Tryd.lays104 : Go.Proofs.Lays.n104 Tryd.prog Tryd.lays104_ren := {
  mixed := by kernel_rfl
  f104 := Tryd.func94.trans (congrArg some (by kernel_rfl))
  f207 := Tryd.func135.trans (congrArg some (by kernel_rfl))
  f211 := Tryd.func120.trans (congrArg some (by kernel_rfl))
  t3 := Tryd.underlying3
  a3 := Tryd.isAgg3
  z3 := Tryd.sizeOf3
  v3 := Tryd.zeroValue3
  t4 := Tryd.underlying4
  a4 := Tryd.isAgg4
  z4 := Tryd.sizeOf4
  v4 := Tryd.zeroValue4
  t9 := Tryd.underlying9
  a9 := Tryd.isAgg9
  z9 := Tryd.sizeOf9
  v9 := Tryd.zeroValue9
  t24 := Tryd.underlying143
  a24 := Tryd.isAgg143
  z24 := Tryd.sizeOf143
  v24 := Tryd.zeroValue143 }
open Go.RowKit in
theorem Tryd.strings_CutSuffix (s p : ByteArray) (w : World) (hs : s.size ≤ 9223372036854775807) :
    Calls Tryd.prog 94 #[.string s, .string p] w fun e w' => e = .returned (.tuple #[.string ⟨(Lib.trimSuffix s.data.toList p.data.toList).toArray⟩, .bool (Lib.hasSuffix s.data.toList p.data.toList)]) ∧ w' = w := Any.strings_CutSuffix Tryd.lays104 s p w hs
def Tryd.lays144_ren : Go.Shelf.Ren := ⟨fun | 144 => 111 | 143 => 134 | 219 => 115 | 217 => 151 | 225 => 152 | 224 => 153 | 267 => 154 | 266 => 167 | 314 => 168 | n => n, fun | 9 => 9 | 4 => 4 | 3 => 3 | 5 => 5 | 46 => 165 | 146 => 209 | 51 => 208 | n => n, fun | 1 => 2 | n => n⟩
theorem Tryd.lays144 : Go.Proofs.Lays.n144 Tryd.prog Tryd.lays144_ren := {
  mixed := by kernel_rfl
  f143 := Tryd.func134.trans (congrArg some (by kernel_rfl))
  f144 := Tryd.func111.trans (congrArg some (by kernel_rfl))
  f217 := Tryd.func151.trans (congrArg some (by kernel_rfl))
  f219 := Tryd.func115.trans (congrArg some (by kernel_rfl))
  f224 := Tryd.func153.trans (congrArg some (by kernel_rfl))
  f225 := Tryd.func152.trans (congrArg some (by kernel_rfl))
  f266 := Tryd.func167.trans (congrArg some (by kernel_rfl))
  f267 := Tryd.func154.trans (congrArg some (by kernel_rfl))
  f314 := Tryd.func168.trans (congrArg some (by kernel_rfl))
  t3 := Tryd.underlying3
  a3 := Tryd.isAgg3
  z3 := Tryd.sizeOf3
  v3 := Tryd.zeroValue3
  t4 := Tryd.underlying4
  a4 := Tryd.isAgg4
  z4 := Tryd.sizeOf4
  v4 := Tryd.zeroValue4
  t5 := Tryd.underlying5
  a5 := Tryd.isAgg5
  z5 := Tryd.sizeOf5
  v5 := Tryd.zeroValue5
  t9 := Tryd.underlying9
  a9 := Tryd.isAgg9
  z9 := Tryd.sizeOf9
  v9 := Tryd.zeroValue9
  t46 := Tryd.underlying165
  a46 := Tryd.isAgg165
  z46 := Tryd.sizeOf165
  v46 := Tryd.zeroValue165
  t51 := Tryd.underlying208
  a51 := Tryd.isAgg208
  z51 := Tryd.sizeOf208
  v51 := Tryd.zeroValue208
  t146 := Tryd.underlying209
  a146 := Tryd.isAgg209
  z146 := Tryd.sizeOf209
  v146 := Tryd.zeroValue209
  g1 := by kernel_rfl }
open Go.RowKit Go.Lib in
theorem Tryd.strings_Contains (s sub : ByteArray) (m : Int) (w : World) (hs : s.size < 4294967281) (hm : w.cell? ⟨2, 0, none⟩ = some (.int .i64 m)) :
    Calls Tryd.prog 111 #[.string s, .string sub] w fun e w' => e = .returned (.bool (Lib.contains s.data.toList sub.data.toList)) ∧ w' = w := Any.strings_Contains Tryd.lays144 s sub m w hs hm
def Tryd.lays145_ren : Go.Shelf.Ren := ⟨fun | 145 => 57 | 220 => 89 | 219 => 115 | 217 => 151 | 225 => 152 | 224 => 153 | 267 => 154 | 266 => 167 | 314 => 168 | n => n, fun | 9 => 9 | 4 => 4 | 59 => 102 | 3 => 3 | 5 => 5 | 46 => 165 | 146 => 209 | 51 => 208 | n => n, fun | 1 => 2 | n => n⟩
theorem Tryd.lays145 : Go.Proofs.Lays.n145 Tryd.prog Tryd.lays145_ren := {
  mixed := by kernel_rfl
  f145 := Tryd.func57.trans (congrArg some (by kernel_rfl))
  f217 := Tryd.func151.trans (congrArg some (by kernel_rfl))
  f219 := Tryd.func115.trans (congrArg some (by kernel_rfl))
  f220 := Tryd.func89.trans (congrArg some (by kernel_rfl))
  f224 := Tryd.func153.trans (congrArg some (by kernel_rfl))
  f225 := Tryd.func152.trans (congrArg some (by kernel_rfl))
  f266 := Tryd.func167.trans (congrArg some (by kernel_rfl))
  f267 := Tryd.func154.trans (congrArg some (by kernel_rfl))
  f314 := Tryd.func168.trans (congrArg some (by kernel_rfl))
  t3 := Tryd.underlying3
  a3 := Tryd.isAgg3
  z3 := Tryd.sizeOf3
  v3 := Tryd.zeroValue3
  t4 := Tryd.underlying4
  a4 := Tryd.isAgg4
  z4 := Tryd.sizeOf4
  v4 := Tryd.zeroValue4
  t5 := Tryd.underlying5
  a5 := Tryd.isAgg5
  z5 := Tryd.sizeOf5
  v5 := Tryd.zeroValue5
  t9 := Tryd.underlying9
  a9 := Tryd.isAgg9
  z9 := Tryd.sizeOf9
  v9 := Tryd.zeroValue9
  t46 := Tryd.underlying165
  a46 := Tryd.isAgg165
  z46 := Tryd.sizeOf165
  v46 := Tryd.zeroValue165
  t51 := Tryd.underlying208
  a51 := Tryd.isAgg208
  z51 := Tryd.sizeOf208
  v51 := Tryd.zeroValue208
  t59 := Tryd.underlying102
  a59 := Tryd.isAgg102
  z59 := Tryd.sizeOf102
  v59 := Tryd.zeroValue102
  t146 := Tryd.underlying209
  a146 := Tryd.isAgg209
  z146 := Tryd.sizeOf209
  v146 := Tryd.zeroValue209
  g1 := by kernel_rfl }
open Go.RowKit Go.Lib in
theorem Tryd.strings_Cut (s sep : ByteArray) (m : Int) (w : World) (hs : s.size < 4294967281) (hm : w.cell? ⟨2, 0, none⟩ = some (.int .i64 m)) :
    Calls Tryd.prog 57 #[.string s, .string sep] w fun e w' => e = .returned (.tuple #[.string ⟨(Lib.cut s.data.toList sep.data.toList).1.toArray⟩, .string ⟨(Lib.cut s.data.toList sep.data.toList).2.1.toArray⟩, .bool (Lib.cut s.data.toList sep.data.toList).2.2]) ∧ ∃ n, w' = w.drewN n := Any.strings_Cut Tryd.lays145 s sep m w hs hm
def Tryd.lays206_ren : Go.Shelf.Ren := ⟨fun | 206 => 181 | n => n, fun | 9 => 9 | 4 => 4 | 3 => 3 | n => n, fun | n => n⟩
theorem Tryd.lays206 : Go.Proofs.Lays.n206 Tryd.prog Tryd.lays206_ren := {
  mixed := by kernel_rfl
  f206 := Tryd.func181.trans (congrArg some (by kernel_rfl))
  t3 := Tryd.underlying3
  a3 := Tryd.isAgg3
  z3 := Tryd.sizeOf3
  v3 := Tryd.zeroValue3
  t4 := Tryd.underlying4
  a4 := Tryd.isAgg4
  z4 := Tryd.sizeOf4
  v4 := Tryd.zeroValue4
  t9 := Tryd.underlying9
  a9 := Tryd.isAgg9
  z9 := Tryd.sizeOf9
  v9 := Tryd.zeroValue9 }
open Go.RowKit Go.Lib in
theorem Tryd.stringslite_HasPrefix (s p : ByteArray) (w : World) :
    Calls Tryd.prog 181 #[.string s, .string p] w fun e w' => e = .returned (.bool (Lib.hasPrefix s.data.toList p.data.toList)) ∧ w' = w := Any.stringslite_HasPrefix Tryd.lays206 s p w
def Tryd.lays207_ren : Go.Shelf.Ren := ⟨fun | 207 => 135 | n => n, fun | 9 => 9 | 4 => 4 | 3 => 3 | n => n, fun | n => n⟩
theorem Tryd.lays207 : Go.Proofs.Lays.n207 Tryd.prog Tryd.lays207_ren := {
  mixed := by kernel_rfl
  f207 := Tryd.func135.trans (congrArg some (by kernel_rfl))
  t3 := Tryd.underlying3
  a3 := Tryd.isAgg3
  z3 := Tryd.sizeOf3
  v3 := Tryd.zeroValue3
  t4 := Tryd.underlying4
  a4 := Tryd.isAgg4
  z4 := Tryd.sizeOf4
  v4 := Tryd.zeroValue4
  t9 := Tryd.underlying9
  a9 := Tryd.isAgg9
  z9 := Tryd.sizeOf9
  v9 := Tryd.zeroValue9 }
open Go.RowKit Go.Lib in
theorem Tryd.stringslite_HasSuffix (s p : ByteArray) (w : World) (hs : s.size ≤ 9223372036854775807) :
    Calls Tryd.prog 135 #[.string s, .string p] w fun e w' => e = .returned (.bool (Lib.hasSuffix s.data.toList p.data.toList)) ∧ w' = w := Any.stringslite_HasSuffix Tryd.lays207 s p w hs
def Tryd.lays208_ren : Go.Shelf.Ren := ⟨fun | 208 => 169 | 206 => 181 | n => n, fun | 9 => 9 | 4 => 4 | 3 => 3 | n => n, fun | n => n⟩
theorem Tryd.lays208 : Go.Proofs.Lays.n208 Tryd.prog Tryd.lays208_ren := {
  mixed := by kernel_rfl
  f206 := Tryd.func181.trans (congrArg some (by kernel_rfl))
  f208 := Tryd.func169.trans (congrArg some (by kernel_rfl))
  t3 := Tryd.underlying3
  a3 := Tryd.isAgg3
  z3 := Tryd.sizeOf3
  v3 := Tryd.zeroValue3
  t4 := Tryd.underlying4
  a4 := Tryd.isAgg4
  z4 := Tryd.sizeOf4
  v4 := Tryd.zeroValue4
  t9 := Tryd.underlying9
  a9 := Tryd.isAgg9
  z9 := Tryd.sizeOf9
  v9 := Tryd.zeroValue9 }
open Go.RowKit Go.Lib in
theorem Tryd.stringslite_TrimPrefix (s p : ByteArray) (w : World) :
    Calls Tryd.prog 169 #[.string s, .string p] w fun e w' => e = .returned (.string ⟨(Lib.trimPrefix s.data.toList p.data.toList).toArray⟩) ∧ w' = w := Any.stringslite_TrimPrefix Tryd.lays208 s p w
def Tryd.lays101_ren : Go.Shelf.Ren := ⟨fun | 101 => 155 | 208 => 169 | 206 => 181 | n => n, fun | 9 => 9 | 4 => 4 | 3 => 3 | n => n, fun | n => n⟩
theorem Tryd.lays101 : Go.Proofs.Lays.n101 Tryd.prog Tryd.lays101_ren := {
  mixed := by kernel_rfl
  f101 := Tryd.func155.trans (congrArg some (by kernel_rfl))
  f206 := Tryd.func181.trans (congrArg some (by kernel_rfl))
  f208 := Tryd.func169.trans (congrArg some (by kernel_rfl))
  t3 := Tryd.underlying3
  a3 := Tryd.isAgg3
  z3 := Tryd.sizeOf3
  v3 := Tryd.zeroValue3
  t4 := Tryd.underlying4
  a4 := Tryd.isAgg4
  z4 := Tryd.sizeOf4
  v4 := Tryd.zeroValue4
  t9 := Tryd.underlying9
  a9 := Tryd.isAgg9
  z9 := Tryd.sizeOf9
  v9 := Tryd.zeroValue9 }
open Go.RowKit Go.Lib in
theorem Tryd.strings_TrimPrefix (s p : ByteArray) (w : World) :
    Calls Tryd.prog 155 #[.string s, .string p] w fun e w' => e = .returned (.string ⟨(Lib.trimPrefix s.data.toList p.data.toList).toArray⟩) ∧ w' = w := Any.strings_TrimPrefix Tryd.lays101 s p w
def Tryd.lays229_ren : Go.Shelf.Ren := ⟨fun | 229 => 90 | n => n, fun | 9 => 9 | 40 => 135 | 31 => 104 | 152 => 168 | 3 => 3 | 0 => 0 | 4 => 4 | 21 => 21 | 154 => 170 | n => n, fun | n => n⟩
theorem Tryd.lays229 : Go.Proofs.Lays.n229 Tryd.prog Tryd.lays229_ren := {
  mixed := by kernel_rfl
  f229 := Tryd.func90.trans (congrArg some (by kernel_rfl))
  t0 := Tryd.underlying0
  a0 := Tryd.isAgg0
  z0 := Tryd.sizeOf0
  v0 := Tryd.zeroValue0
  t3 := Tryd.underlying3
  a3 := Tryd.isAgg3
  z3 := Tryd.sizeOf3
  v3 := Tryd.zeroValue3
  t4 := Tryd.underlying4
  a4 := Tryd.isAgg4
  z4 := Tryd.sizeOf4
  v4 := Tryd.zeroValue4
  t9 := Tryd.underlying9
  a9 := Tryd.isAgg9
  z9 := Tryd.sizeOf9
  v9 := Tryd.zeroValue9
  t21 := Tryd.underlying21
  a21 := Tryd.isAgg21
  z21 := Tryd.sizeOf21
  v21 := Tryd.zeroValue21
  t31 := Tryd.underlying104
  a31 := Tryd.isAgg104
  z31 := Tryd.sizeOf104
  v31 := Tryd.zeroValue104
  t40 := Tryd.underlying135
  a40 := Tryd.isAgg135
  z40 := Tryd.sizeOf135
  v40 := Tryd.zeroValue135
  t152 := Tryd.underlying168
  a152 := Tryd.isAgg168
  z152 := Tryd.sizeOf168
  v152 := Tryd.zeroValue168
  t154 := Tryd.underlying170
  a154 := Tryd.isAgg170
  z154 := Tryd.sizeOf170
  v154 := Tryd.zeroValue170 }
open Go.RowKit Go.Lib in
theorem Tryd.strings_FieldsFunc_runes (g : Nat) (lb : Array Value) (eg : ∀ args w, (callFunc g args).run Tryd.prog w = .ok (.enter g args) w) (p : Nat → Bool) (s : ByteArray) (w : World) (hs : s.size ≤ 4294967296) (hp : PredAtRunes Tryd.prog g lb p w) :
    Calls Tryd.prog 90 #[.string s, .func (.func g) #[] lb] w fun e w' => ∃ A, e = .returned (.slice (some ⟨A, 0, none⟩) (Lib.goFieldsP p s).length (Lib.goFieldsP p s).length) ∧ w.heap.size ≤ A ∧
      w'.ownsRow w.heap.size 9 1 (.slice (some ⟨A, 0, none⟩) (Lib.goFieldsP p s).length (Lib.goFieldsP p s).length) (Lib.goFieldsP p s).length ((Lib.goFieldsP p s).map Value.string) ∧ Below w.heap.size w w' := Any.strings_FieldsFunc_runes Tryd.lays229 g lb eg p s w hs hp (by kernel_rfl) (by kernel_rfl)
end Go.Proofs
namespace Go.Proofs.YthnafgffanlnfaaDoor.PSrc
open Go.RowKit Go.Proofs.YthnafgffanlnfaaDoorW.PrintWords
set_option linter.unusedVariables false
def rowsT : List ByteArray := [⟨#[]⟩, ⟨#[73, 78, 67]⟩, ⟨#[68, 69, 67]⟩, ⟨#[]⟩, ⟨#[76, 68, 65]⟩, ⟨#[83, 84, 82]⟩, ⟨#[]⟩, ⟨#[]⟩, ⟨#[71, 76, 79]⟩, ⟨#[71, 72, 73]⟩, ⟨#[80, 76, 79]⟩, ⟨#[80, 72, 73]⟩, ⟨#[]⟩, ⟨#[83, 69, 80]⟩, ⟨#[83, 69, 88]⟩, ⟨#[]⟩]
def threesT : List ByteArray := [⟨#[66, 82]⟩, ⟨#[66, 81]⟩, ⟨#[66, 90]⟩, ⟨#[66, 68, 70]⟩, ⟨#[66, 49]⟩, ⟨#[66, 50]⟩, ⟨#[66, 51]⟩, ⟨#[66, 52]⟩, ⟨#[83, 75, 80]⟩, ⟨#[66, 78, 81]⟩, ⟨#[66, 78, 90]⟩, ⟨#[66, 78, 70]⟩, ⟨#[66, 78, 49]⟩, ⟨#[66, 78, 50]⟩, ⟨#[66, 78, 51]⟩, ⟨#[66, 78, 52]⟩]
def sevensT : List ByteArray := [⟨#[82, 69, 84]⟩, ⟨#[68, 73, 83]⟩, ⟨#[76, 68, 88, 65]⟩, ⟨#[83, 84, 88, 68]⟩, ⟨#[65, 68, 67]⟩, ⟨#[83, 68, 66]⟩, ⟨#[83, 72, 82, 67]⟩, ⟨#[83, 77, 66]⟩, ⟨#[83, 65, 86]⟩, ⟨#[77, 65, 82, 75]⟩, ⟨#[82, 69, 81]⟩, ⟨#[83, 69, 81]⟩, ⟨#[65, 68, 67, 73]⟩, ⟨#[83, 68, 66, 73]⟩, ⟨#[83, 72, 76, 67]⟩, ⟨#[83, 77, 66, 73]⟩]
def twelvesT : List ByteArray := [⟨#[76, 66, 82]⟩, ⟨#[76, 66, 81]⟩, ⟨#[76, 66, 90]⟩, ⟨#[76, 66, 68, 70]⟩, ⟨#[78, 79, 80]⟩, ⟨#[76, 83, 78, 81]⟩, ⟨#[76, 83, 78, 90]⟩, ⟨#[76, 83, 78, 70]⟩, ⟨#[76, 83, 75, 80]⟩, ⟨#[76, 66, 78, 81]⟩, ⟨#[76, 66, 78, 90]⟩, ⟨#[76, 66, 78, 70]⟩, ⟨#[76, 83, 73, 69]⟩, ⟨#[76, 83, 81]⟩, ⟨#[76, 83, 90]⟩, ⟨#[76, 83, 68, 70]⟩]
def fifteensT : List ByteArray := [⟨#[76, 68, 88]⟩, ⟨#[79, 82]⟩, ⟨#[65, 78, 68]⟩, ⟨#[88, 79, 82]⟩, ⟨#[65, 68, 68]⟩, ⟨#[83, 68]⟩, ⟨#[83, 72, 82]⟩, ⟨#[83, 77]⟩, ⟨#[76, 68, 73]⟩, ⟨#[79, 82, 73]⟩, ⟨#[65, 78, 73]⟩, ⟨#[88, 82, 73]⟩, ⟨#[65, 68, 73]⟩, ⟨#[83, 68, 73]⟩, ⟨#[83, 72, 76]⟩, ⟨#[83, 77, 73]⟩]
def lengthsT : List Int := [0, 1, 1, 1, 2, 2, 3]
def digitsT : List Int := [0, 0, 1, 1, 2, 2, 4]
def StrTab (g : Nat) (l : List ByteArray) (n : Nat) (w : World) : Prop := ∀ i, i < n → w.cell? ⟨g, i, none⟩ = some (.string (l.getD i ByteArray.empty))
def IntTab (g : Nat) (l : List Int) (n : Nat) (w : World) : Prop := ∀ i, i < n → w.cell? ⟨g, i, none⟩ = some (.int .i64 (l.getD i 0))
structure Gl (w : World) : Prop where
  rows : StrTab 7 rowsT 16 w
  threes : StrTab 3 threesT 16 w
  sevens : StrTab 4 sevensT 16 w
  twelves : StrTab 5 twelvesT 16 w
  fifteens : StrTab 6 fifteensT 16 w
  lengths : IntTab 1 lengthsT 7 w
  mlen : ∃ m : Int, w.cell? ⟨2, 0, none⟩ = some (.int .i64 m)
  utf : Lib.Utf8Tabs 10 11 w
  digits : IntTab 0 digitsT 7 w
abbrev Gd (w : World) : Prop := Gl w
theorem Gl.gl {w : World} (h : Gl w) : Gl w := h
theorem block_of_cell {w : World} {p : Addr} {v : Value} (h : w.cell? p = some v) : p.block < w.heap.size := by
  apply Classical.byContradiction
  intro hn
  have e : w.heap[p.block]? = none := by rw [Array.getElem?_eq_none]; omega
  simp [World.cell?, e] at h
theorem cell_stays {w w' : World} {p : Addr} {v : Value} (h : w.cell? p = some v) (b : Below w.heap.size w w') : w'.cell? p = some v := by
  rw [b.cell (block_of_cell h), h]
theorem StrTab.below {g n : Nat} {l : List ByteArray} {w w' : World} (h : StrTab g l n w) (b : Below w.heap.size w w') : StrTab g l n w' := fun i hi => cell_stays (h i hi) b
theorem IntTab.below {g n : Nat} {l : List Int} {w w' : World} (h : IntTab g l n w) (b : Below w.heap.size w w') : IntTab g l n w' := fun i hi => cell_stays (h i hi) b
theorem utf_stays {g3 g4 : Nat} {w w' : World} (h : Lib.Utf8Tabs g3 g4 w) (b : Below w.heap.size w w') : Lib.Utf8Tabs g3 g4 w' := by
  obtain ⟨h1, h2⟩ := h
  refine ⟨fun c hc => cell_stays (h1 c hc) b, fun i hi => ?_⟩
  obtain ⟨a, c⟩ := h2 i hi
  exact ⟨cell_stays a b, cell_stays c b⟩
theorem Gl.below {w w' : World} (h : Gl w) (b : Below w.heap.size w w') : Gl w' :=
  ⟨h.rows.below b, h.threes.below b, h.sevens.below b, h.twelves.below b, h.fifteens.below b, h.lengths.below b, let ⟨m, hm⟩ := h.mlen; ⟨m, cell_stays hm b⟩, utf_stays h.utf b, h.digits.below b⟩
theorem utf_same {g3 g4 : Nat} {w w' : World} (h : Lib.Utf8Tabs g3 g4 w) (e : w'.heap = w.heap) : Lib.Utf8Tabs g3 g4 w' := by
  obtain ⟨h1, h2⟩ := h
  refine ⟨fun c hc => ?_, fun i hi => ?_⟩
  · have := h1 c hc
    simpa [World.cell?, e] using this
  · have := h2 i hi
    simpa [World.cell?, e] using this
theorem cell_same {w w' : World} {p : Addr} {v : Value} (h : w.cell? p = some v) (e : w'.heap = w.heap) : w'.cell? p = some v := by
  simpa [World.cell?, e] using h
theorem Gl.same {w w' : World} (h : Gl w) (e : w'.heap = w.heap) : Gl w' :=
  ⟨fun i hi => cell_same (h.rows i hi) e, fun i hi => cell_same (h.threes i hi) e, fun i hi => cell_same (h.sevens i hi) e, fun i hi => cell_same (h.twelves i hi) e, fun i hi => cell_same (h.fifteens i hi) e, fun i hi => cell_same (h.lengths i hi) e, let ⟨m, hm⟩ := h.mlen; ⟨m, cell_same hm e⟩, utf_same h.utf e, fun i hi => cell_same (h.digits i hi) e⟩
theorem kd_str {g n : Nat} {l : List ByteArray} {w : World} (hl : l.length = n) (hn : n ≤ 100) (h : StrTab g l n w) : Kd.string.C w (some ⟨g, 0, none⟩) n l :=
  Kd.C_of_reads (enc := Value.string) (d := ByteArray.empty) ⟨hl, by omega, fun _ => ⟨⟨g, 0, none⟩, rfl, fun j hj => by
    have e : (⟨g, 0, none⟩ : Addr).add j = ⟨g, j, none⟩ := by simp [Addr.add]; omega
    rw [e]; exact h j hj⟩⟩
theorem kd_int {g n : Nat} {l : List Int} {w : World} (hl : l.length = n) (hn : n ≤ 100) (h : IntTab g l n w) : (Kd.int .i64).C w (some ⟨g, 0, none⟩) n l :=
  Kd.C_of_reads (enc := Value.int .i64) (d := (0 : Int)) ⟨hl, by omega, fun _ => ⟨⟨g, 0, none⟩, rfl, fun j hj => by
    have e : (⟨g, 0, none⟩ : Addr).add j = ⟨g, j, none⟩ := by simp [Addr.add]; omega
    rw [e]; exact h j hj⟩⟩
theorem kd_rows {w : World} (h : Gl w) : Kd.string.C w (some ⟨7, 0, none⟩) 16 rowsT := kd_str rfl (by omega) h.rows
theorem kd_threes {w : World} (h : Gl w) : Kd.string.C w (some ⟨3, 0, none⟩) 16 threesT := kd_str rfl (by omega) h.threes
theorem kd_sevens {w : World} (h : Gl w) : Kd.string.C w (some ⟨4, 0, none⟩) 16 sevensT := kd_str rfl (by omega) h.sevens
theorem kd_twelves {w : World} (h : Gl w) : Kd.string.C w (some ⟨5, 0, none⟩) 16 twelvesT := kd_str rfl (by omega) h.twelves
theorem kd_fifteens {w : World} (h : Gl w) : Kd.string.C w (some ⟨6, 0, none⟩) 16 fifteensT := kd_str rfl (by omega) h.fifteens
theorem kd_lengths {w : World} (h : Gl w) : (Kd.int .i64).C w (some ⟨1, 0, none⟩) 7 lengthsT := kd_int rfl (by omega) h.lengths
theorem kd_digits {w : World} (h : Gd w) : (Kd.int .i64).C w (some ⟨0, 0, none⟩) 7 digitsT := kd_int rfl (by omega) h.digits
end Go.Proofs.YthnafgffanlnfaaDoor.PSrc
namespace Go.Proofs.YthnafgffanlnfaaDoor.PSrc
open Go.ChangeShapes Go.WideShapes Go.ChangeAt Go.RowKit
set_option linter.unusedVariables false
def laidL : List (String × DataW Unit) := [("unicode/utf8.acceptRanges", Rows.laid_unicode_utf8_acceptRanges), ("vesper/code.rows", Rows.laid_vesper_code_rows), ("vesper/code.threes", Rows.laid_vesper_code_threes), ("vesper/code.sevens", Rows.laid_vesper_code_sevens), ("vesper/code.twelves", Rows.laid_vesper_code_twelves), ("vesper/code.fifteens", Rows.laid_vesper_code_fifteens), ("vesper/code.lengths", Rows.laid_vesper_code_lengths), ("vesper/code.digits", Rows.laid_vesper_code_digits), ("unicode/utf8.first", Rows.laid_unicode_utf8_first)]
theorem laid_same : Rows.sourceNumbersRow.laid = laidL := rfl
section
variable {P : Program} {w : World}
theorem str_tab {name : String} {g t n : Nat} {l : List ByteArray} (hg : P.globalNamed name = some g) (hty : (P.globals[g]?).map (·.type) = some t) (e : Nat) (ht : P.underlying t = some (.array n e)) (he : P.underlying e = some .string) (hc : P.cellsOf e = 1) (hn : l.length = n) (h : Lib.VarReads P w name (.agg (l.map fun s => .lit (.string s.data.toList)))) : StrTab g l n w := by
  intro i hi
  obtain ⟨g', t', cs, fuel, p, hg', hty', hvar, hd⟩ := h
  obtain rfl := Option.some.inj (hg.symm.trans hg')
  obtain rfl := Option.some.inj (hty.symm.trans hty')
  obtain ⟨fuel', d, q, hdi, hx⟩ := Lib.array_elem ht hd i hi
  rw [hc] at hx
  obtain ⟨s, hcs, hs, _⟩ := DataW.trod_string he hx
  have hl : i < l.length := by omega
  rw [List.getElem?_map, List.getElem?_eq_getElem hl] at hdi
  have hs2 : (DataW.lit (.string l[i].data.toList) : DataW Unit) = .lit (.string s.data.toList) := (Option.some.inj hdi).trans (congrArg Prod.fst hs)
  have hs3 : l[i].data.toList = s.data.toList := by injection hs2 with h1; injection h1
  have hs4 : l[i] = s := by
    have : l[i].data = s.data := Array.ext' hs3
    rcases hi2 : l[i] with ⟨a⟩
    rw [hi2] at this
    rcases s with ⟨b⟩
    exact congrArg ByteArray.mk this
  rw [World.var?_cell hg hvar i, ← Array.getElem?_toList]
  have e0 := congrArg (·[0]?) hcs
  simp only [List.getElem?_take, List.getElem?_drop] at e0
  have e1 : l.getD i ByteArray.empty = s := by rw [List.getD_eq_getElem?_getD, List.getElem?_eq_getElem hl]; exact hs4
  rw [e1]
  simpa using e0
theorem int_tab {name : String} {g t n : Nat} {l : List Int} (hg : P.globalNamed name = some g) (hty : (P.globals[g]?).map (·.type) = some t) (e : Nat) (ht : P.underlying t = some (.array n e)) (he : P.underlying e = some (.int .i64)) (hc : P.cellsOf e = 1) (hn : l.length = n) (h : Lib.VarReads P w name (.agg (l.map fun s => .lit (.int .i64 s)))) : IntTab g l n w := by
  intro i hi
  obtain ⟨g', t', cs, fuel, p, hg', hty', hvar, hd⟩ := h
  obtain rfl := Option.some.inj (hg.symm.trans hg')
  obtain rfl := Option.some.inj (hty.symm.trans hty')
  obtain ⟨fuel', d, q, hdi, hx⟩ := Lib.array_elem ht hd i hi
  rw [hc] at hx
  obtain ⟨s, hcs, hs, _⟩ := DataW.trod_int he hx
  have hl : i < l.length := by omega
  rw [List.getElem?_map, List.getElem?_eq_getElem hl] at hdi
  have hs2 : (DataW.lit (.int .i64 l[i]) : DataW Unit) = .lit (.int .i64 s) := (Option.some.inj hdi).trans (congrArg Prod.fst hs)
  have hs4 : l[i] = s := by injection hs2 with h1; injection h1
  rw [World.var?_cell hg hvar i, ← Array.getElem?_toList]
  have e0 := congrArg (·[0]?) hcs
  simp only [List.getElem?_take, List.getElem?_drop] at e0
  have e1 : l.getD i 0 = s := by rw [List.getD_eq_getElem?_getD, List.getElem?_eq_getElem hl]; exact hs4
  rw [e1]
  simpa using e0
end
def u8ren : Go.Shelf.Ren := ⟨fun n => n, fun | 5 => 5 | 119 => 232 | 138 => 234 | 139 => 235 | n => n, fun | 3 => 10 | 4 => 11 | n => n⟩
theorem first_same : (Rows.laid_unicode_utf8_first : DataW Unit) = Lib.firstData := by kernel_rfl
theorem accept_same : (Rows.laid_unicode_utf8_acceptRanges : DataW Unit) = Lib.acceptData := by kernel_rfl
theorem gl_of_laid {W : World} (h : laidMet Tryd.prog laidL W) (hm : ∃ m : Int, W.cell? ⟨2, 0, none⟩ = some (.int .i64 m)) : Gl W where
  rows := str_tab (by kernel_rfl) (by kernel_rfl) 9 Tryd.underlying201 Tryd.underlying9 (by kernel_rfl) rfl (Lib.laidMet.reads h (.tail _ (.head _)))
  threes := str_tab (by kernel_rfl) (by kernel_rfl) 9 Tryd.underlying201 Tryd.underlying9 (by kernel_rfl) rfl (Lib.laidMet.reads h (.tail _ (.tail _ (.head _))))
  sevens := str_tab (by kernel_rfl) (by kernel_rfl) 9 Tryd.underlying201 Tryd.underlying9 (by kernel_rfl) rfl (Lib.laidMet.reads h (.tail _ (.tail _ (.tail _ (.head _)))))
  twelves := str_tab (by kernel_rfl) (by kernel_rfl) 9 Tryd.underlying201 Tryd.underlying9 (by kernel_rfl) rfl (Lib.laidMet.reads h (.tail _ (.tail _ (.tail _ (.tail _ (.head _))))))
  fifteens := str_tab (by kernel_rfl) (by kernel_rfl) 9 Tryd.underlying201 Tryd.underlying9 (by kernel_rfl) rfl (Lib.laidMet.reads h (.tail _ (.tail _ (.tail _ (.tail _ (.tail _ (.head _)))))))
  lengths := int_tab (by kernel_rfl) (by kernel_rfl) 3 Tryd.underlying167 Tryd.underlying3 (by kernel_rfl) rfl (Lib.laidMet.reads h (.tail _ (.tail _ (.tail _ (.tail _ (.tail _ (.tail _ (.head _))))))))
  mlen := hm
  utf := utf8Tabs_of_readsT (ρ := u8ren) ⟨by kernel_rfl, by kernel_rfl, by kernel_rfl, by kernel_rfl⟩ ⟨by kernel_rfl, by kernel_rfl, by kernel_rfl, by kernel_rfl, by kernel_rfl, by kernel_rfl, by kernel_rfl⟩ (first_same ▸ Lib.laidMet.reads h (n := "unicode/utf8.first") (d := Rows.laid_unicode_utf8_first) (.tail _ (.tail _ (.tail _ (.tail _ (.tail _ (.tail _ (.tail _ (.tail _ (.head _)))))))))) (accept_same ▸ Lib.laidMet.reads h (n := "unicode/utf8.acceptRanges") (d := Rows.laid_unicode_utf8_acceptRanges) (.head _))
  digits := int_tab (by kernel_rfl) (by kernel_rfl) 3 Tryd.underlying167 Tryd.underlying3 (by kernel_rfl) rfl (Lib.laidMet.reads h (.tail _ (.tail _ (.tail _ (.tail _ (.tail _ (.tail _ (.tail _ (.head _)))))))))
def putRow (h : Array Obj) (g : Nat) (cs : Array Value) : Array Obj := h.modify g fun
  | .cells _ t frozen => .cells cs t frozen
  | o => o
noncomputable def laidWorld (os : Os) : World :=
  let w0 := World.holding Tryd.prog os ⟨#[], #[], []⟩
  let h0 := putRow w0.heap 0 (digitsT.map fun z => Value.int .i64 z).toArray
  let h1 := putRow h0 1 (lengthsT.map fun z => Value.int .i64 z).toArray
  let h2 := putRow h1 3 (threesT.map Value.string).toArray
  let h3 := putRow h2 4 (sevensT.map Value.string).toArray
  let h4 := putRow h3 5 (twelvesT.map Value.string).toArray
  let h5 := putRow h4 6 (fifteensT.map Value.string).toArray
  let h6 := putRow h5 7 (rowsT.map Value.string).toArray
  let h7 := putRow h6 10 (Lib.firstTab.map fun z => Value.int .u8 z).toArray
  let h8 := putRow h7 11 ((List.range 16).flatMap fun i => [Value.int .u8 (Lib.accLo i), Value.int .u8 (Lib.accHi i)]).toArray
  { w0 with heap := h8 }
set_option maxRecDepth 1000000 in
theorem laid_met (os : Os) (args : Array Value) : laidMetH Tryd.prog laidL ((laidWorld os).forCall (fun _ _ => 0) ⟨#[], args, []⟩).memory := by
  rw [MakeChecks.laidMetH_plain _ _ _ (by kernel_rfl)]
  exact laidMet_of_run' 8 (by kernel_rfl) (by kernel_rfl)
theorem handed_laid {H : Type} {enc : TypeId × Value → H} {a : Assume} {C : Checked} {os : Os} {f : FuncId} {fn : Func} {s : ChangeSpec} {conds : List PathCond} {apart fresh handsOn again : Bool} {X : World → Array Value → Prop}
    (hX : ∀ (w w' : World) (args : Array Value), w.heap = w'.heap → X w args → X w' args)
    (own : ownKnob C.prog.godebug = none) (started : os.Started) (noInit : C.prog.inits.idxOf? f = none) (hfn : C.prog.funcs[f]? = some fn)
    (witness : ∃ (w : World) (tape : Tape) (i : Input), w.os = os ∧ (w.forCall tape i).Shaped C.prog ∧ i.vars = [] ∧ Input.okWide C.prog (w.forCall tape i) .any w.heap.size f i ∧
      ((s.pre enc C.prog fn conds apart (w.forCall tape i).memory i.args ∧ X (w.forCall tape i).memory i.args) ∧ sizedMet enc C.prog fn (OpenSpec.ofChange s) apart (w.forCall tape i).memory i.args) ∧ a.holds C.prog (lone (Frame.enter C.prog f i.args .normal) [] (w.forCall tape i)))
    (contract : ∀ (W : World) (base : Nat) (args : Array Value) (ds gs : List (DataW H)) (before : List MemPlace),
      (∀ (j : Nat) t v, fn.params[j]? = some t → args[j]? = some v → Value.okWide C.prog W .any base t v) →
      DataW.Whole enc C.prog fn.params.toList s.vars apart W args.toList ds gs before → X W args → W.ShapedOpen C.prog →
      Calls C.prog f args W fun e W' => ∃ v, e = .returned v ∧ s.post enc C.prog fn apart fresh handsOn again W args v W') :
    ReturnsInHanded a C os f .any (fun w args => (s.pre enc C.prog fn conds apart w args ∧ X w args) ∧ sizedMet enc C.prog fn (OpenSpec.ofChange s) apart w args) (s.post enc C.prog fn apart fresh handsOn again) := by
  refine returnsInHanded_of_calls own started noInit witness ?_
  intro w tape i _ hshape _ hok hpre _
  obtain ⟨_, _, _, fn', hfn', _, _, _, _, hval⟩ := hok
  obtain rfl : fn' = fn := Option.some.inj (hfn'.symm.trans hfn)
  obtain ⟨⟨⟨ds, gs, before, hwhole, _⟩, hx⟩, _⟩ := hpre
  refine (contract _ w.heap.size i.args ds gs before hval (DataW.Whole.of_heap (w' := w.forCall tape i) (by rfl) hwhole) (hX _ _ _ (by rfl) hx) hshape).mono ?_
  rintro e W' ⟨v, rfl, hp⟩
  exact ChangeSpec.post_blind hp
end Go.Proofs.YthnafgffanlnfaaDoor.PSrc
namespace Go.Proofs.YthnafgffanlnfaaDoor.PSrc
open Go.RowKit Go.Proofs.YthnafgffanlnfaaDoorW.PrintWords Go.Proofs.YthnafgffanlnfaaDoorW.PrintLast Go.Proofs.YthnafgffanlnfaaDoorW.PrintMore
attribute [local go_sem] max2_int min2_int max_two min_two max_three min_three max_four min_four   -- for this text's walks alone
set_option linter.unusedVariables false
set_option linter.unusedSimpArgs false
def errW : Option Int → Value
  | none => .nilIface
  | some c => .iface 0 (.int .i64 c)
theorem errW_none : errW none = .nilIface := rfl
theorem errW_some (c : Int) : errW (some c) = .iface 0 (.int .i64 c) := rfl
theorem info3 : (Tryd.prog.info? 3).map (fun i => (i.zero, i.size, i.bytes)) = some (some (.int .i64 0), 1, 8) := by kernel_rfl
theorem info5 : (Tryd.prog.info? 5).map (fun i => (i.zero, i.size, i.bytes)) = some (some (.int .u8 0), 1, 1) := by kernel_rfl
theorem info9 : (Tryd.prog.info? 9).map (fun i => (i.zero, i.size, i.bytes)) = some (some (.string ⟨#[]⟩), 1, 16) := by kernel_rfl
theorem info63 : (Tryd.prog.info? 63).map (fun i => (i.zero, i.size, i.bytes)) = some (some (.agg #[(.int .u8 0), (.string ⟨#[]⟩), (.int .i64 0), (.string ⟨#[]⟩), (.int .u8 0), (.slice none 0 0)]), 6, 80) := by kernel_rfl
def rd_L2 (xs : List (List Int)) (i : Int) : (List Int) := xs.getD i.toNat ([] : List Int)
theorem at_L2 {w : World} {A : Option Addr} {n : Nat} {xs : List (List Int)} (h : Kd.C (Kd.slice 5 (Kd.int .u8)) w A n xs) (i : Int) (h0 : 0 ≤ i) (h1 : i < n) : ∃ ad A0 c0, A = some ad ∧ w.cell? (ad.add i.toNat) = some (.slice A0 (rd_L2 xs i).length c0) ∧ (rd_L2 xs i).length ≤ c0 ∧ (Kd.int .u8).C w A0 (rd_L2 xs i).length (rd_L2 xs i) := by
  obtain ⟨ad, c, e, _, hK, hc0⟩ := Kd.C_get h ([] : List Int) i h0 h1
  have hc : ∀ j u, c[j]? = some u → w.cell? (ad.add (i.toNat * 1 + j)) = some u := hc0
  obtain ⟨A0, c0, rfl, l0, g0⟩ := hK
  exact ⟨ad, A0, c0, e, by have hq := hc 0 _ rfl; rwa [Nat.mul_one, Nat.add_zero] at hq, l0, g0⟩
structure S42 where
  f0 : Int
  f1 : (List Int)
def z42 : S42 := ⟨(0 : Int), ([] : List Int)⟩
def k42 : Kd S42 := Kd.iso (Kd.pair (Kd.int .i64) (Kd.slice 5 (Kd.int .u8))) (fun x : S42 => (x.f0, x.f1))
theorem k42_heap : Kd.Heap k42 := Kd.heap_iso _ (Kd.heap_pair (Kd.heap_int .i64) (Kd.heap_slice 5 (Kd.heap_int .u8)))
theorem k42_open {w : World} {x : S42} {cs : List Value} (h : k42.K w x cs) : ∃ A1 c1, cs = [.int .i64 x.f0, .slice A1 x.f1.length c1] ∧ x.f1.length ≤ c1 ∧ (Kd.int .u8).C w A1 x.f1.length x.f1 := by
  obtain ⟨_, _, rfl, rfl, ⟨A1, c1, rfl, l1, g1⟩⟩ := h
  exact ⟨A1, c1, rfl, l1, g1⟩
theorem k42_openM {w : World} {base : Nat} {ok : Nat → Prop} {x : S42} {cs : List Value} (h : k42.M w base ok x cs) : ∃ v1, cs = [.int .i64 x.f0, v1] ∧ (Kd.int .u8).R 5 w base ok v1 x.f1 := by
  obtain ⟨_, _, rfl, rfl, ⟨v1, rfl, g1⟩⟩ := h
  exact ⟨v1, rfl, g1⟩
theorem k42_mk (w : World) (x : S42) {A1 : Option Addr} {c1 : Nat} (l1 : x.f1.length ≤ c1) (g1 : (Kd.int .u8).C w A1 x.f1.length x.f1) : k42.K w x [.int .i64 x.f0, .slice A1 x.f1.length c1] := ⟨[.int .i64 x.f0], [.slice A1 x.f1.length c1], rfl, rfl, ⟨A1, c1, rfl, l1, g1⟩⟩
theorem k42_mkM (w : World) (base : Nat) (ok : Nat → Prop) (x : S42) {v1 : Value} (g1 : (Kd.int .u8).R 5 w base ok v1 x.f1) : k42.M w base ok x [.int .i64 x.f0, v1] := ⟨[.int .i64 x.f0], [v1], rfl, rfl, ⟨v1, rfl, g1⟩⟩
theorem k42_openF {W : World} {ok : Nat → Prop} {x : S42} {cs : List Value} (h : Kd.FK k42 W ok x cs) : ∃ A1 c1, cs = [.int .i64 x.f0, .slice A1 x.f1.length c1] ∧ x.f1.length ≤ c1 ∧ Kd.F (Kd.int .u8) W ok A1 x.f1.length x.f1 := by
  obtain ⟨A1, c1, rfl, l1, _⟩ := k42_open (Kd.FK_now h)
  exact ⟨A1, c1, rfl, l1, (fun W' hW => by obtain ⟨A1_, c1_, he, l1_, g1_⟩ := k42_open (h W' hW); injection (Option.some.inj (show some (Value.slice A1 x.f1.length c1) = some (Value.slice A1_ x.f1.length c1_) from congrArg (fun l => l[1]?) he)) with ha_ _ _; rw [ha_]; exact g1_)⟩
theorem k42_mkF (W : World) (ok : Nat → Prop) (x : S42) {A1 : Option Addr} {c1 : Nat} (l1 : x.f1.length ≤ c1) (g1 : Kd.F (Kd.int .u8) W ok A1 x.f1.length x.f1) : Kd.FK k42 W ok x [.int .i64 x.f0, .slice A1 x.f1.length c1] := fun W2 hW => k42_mk W2 x l1 (g1 W2 hW)
def rd_T42 (xs : List S42) (i : Int) : S42 := xs.getD i.toNat z42
theorem at_T42 {w : World} {A : Option Addr} {n : Nat} {xs : List S42} (h : Kd.C k42 w A n xs) (i : Int) (h0 : 0 ≤ i) (h1 : i < n) : ∃ ad A1 c1, A = some ad ∧ w.cell? (ad.add (i.toNat * 2)) = some (.int .i64 (rd_T42 xs i).f0) ∧ w.cell? ⟨(ad.add (i.toNat * 2)).block, (ad.add (i.toNat * 2)).off + 1, none⟩ = some (.slice A1 (rd_T42 xs i).f1.length c1) ∧ (rd_T42 xs i).f1.length ≤ c1 ∧ (Kd.int .u8).C w A1 (rd_T42 xs i).f1.length (rd_T42 xs i).f1 := by
  obtain ⟨ad, c, e, _, hK, hc0⟩ := Kd.C_get h z42 i h0 h1
  have hc : ∀ j u, c[j]? = some u → w.cell? (ad.add (i.toNat * 2 + j)) = some u := hc0
  obtain ⟨A1, c1, rfl, l1, g1⟩ := k42_open hK
  exact ⟨ad, A1, c1, e, hc 0 _ rfl, by rw [← add_field _ _ 1 (by omega)]; exact hc 1 _ rfl, l1, g1⟩
structure S88 where
  f0 : Int
  f1 : Int
  f2 : Bool
def z88 : S88 := ⟨(0 : Int), (0 : Int), false⟩
def k88 : Kd S88 := Kd.iso (Kd.pair (Kd.int .i64) (Kd.pair (Kd.int .i64) Kd.bool)) (fun x : S88 => (x.f0, x.f1, x.f2))
theorem k88_heap : Kd.Heap k88 := Kd.heap_iso _ (Kd.heap_pair (Kd.heap_int .i64) (Kd.heap_pair (Kd.heap_int .i64) Kd.heap_bool))
theorem k88_open {w : World} {x : S88} {cs : List Value} (h : k88.K w x cs) : cs = [.int .i64 x.f0, .int .i64 x.f1, .bool x.f2] := by
  obtain ⟨_, _, rfl, rfl, ⟨_, _, rfl, rfl, rfl⟩⟩ := h
  exact rfl
theorem k88_openM {w : World} {base : Nat} {ok : Nat → Prop} {x : S88} {cs : List Value} (h : k88.M w base ok x cs) : cs = [.int .i64 x.f0, .int .i64 x.f1, .bool x.f2] := by
  obtain ⟨_, _, rfl, rfl, ⟨_, _, rfl, rfl, rfl⟩⟩ := h
  exact rfl
theorem k88_mk (w : World) (x : S88)  : k88.K w x [.int .i64 x.f0, .int .i64 x.f1, .bool x.f2] := ⟨[.int .i64 x.f0], [.int .i64 x.f1, .bool x.f2], rfl, rfl, ⟨[.int .i64 x.f1], [.bool x.f2], rfl, rfl, rfl⟩⟩
theorem k88_mkM (w : World) (base : Nat) (ok : Nat → Prop) (x : S88)  : k88.M w base ok x [.int .i64 x.f0, .int .i64 x.f1, .bool x.f2] := ⟨[.int .i64 x.f0], [.int .i64 x.f1, .bool x.f2], rfl, rfl, ⟨[.int .i64 x.f1], [.bool x.f2], rfl, rfl, rfl⟩⟩
theorem k88_mkF (W : World) (ok : Nat → Prop) (x : S88) : Kd.FK k88 W ok x [.int .i64 x.f0, .int .i64 x.f1, .bool x.f2] := fun W2 _ => k88_mk W2 x
def rd_T88 (xs : List S88) (i : Int) : S88 := xs.getD i.toNat z88
theorem at_T88 {w : World} {A : Option Addr} {n : Nat} {xs : List S88} (h : Kd.C k88 w A n xs) (i : Int) (h0 : 0 ≤ i) (h1 : i < n) : ∃ ad , A = some ad ∧ w.cell? (ad.add (i.toNat * 3)) = some (.int .i64 (rd_T88 xs i).f0) ∧ w.cell? ⟨(ad.add (i.toNat * 3)).block, (ad.add (i.toNat * 3)).off + 1, none⟩ = some (.int .i64 (rd_T88 xs i).f1) ∧ w.cell? ⟨(ad.add (i.toNat * 3)).block, (ad.add (i.toNat * 3)).off + 2, none⟩ = some (.bool (rd_T88 xs i).f2) := by
  obtain ⟨ad, c, e, _, hK, hc0⟩ := Kd.C_get h z88 i h0 h1
  have hc : ∀ j u, c[j]? = some u → w.cell? (ad.add (i.toNat * 3 + j)) = some u := hc0
  obtain rfl := k88_open hK
  exact ⟨ad, e, hc 0 _ rfl, by rw [← add_field _ _ 1 (by omega)]; exact hc 1 _ rfl, by rw [← add_field _ _ 2 (by omega)]; exact hc 2 _ rfl⟩
structure S83 where
  f0 : ByteArray
  f1 : Int
def z83 : S83 := ⟨(⟨#[]⟩ : ByteArray), (0 : Int)⟩
def k83 : Kd S83 := Kd.iso (Kd.pair Kd.string (Kd.int .i64)) (fun x : S83 => (x.f0, x.f1))
theorem k83_heap : Kd.Heap k83 := Kd.heap_iso _ (Kd.heap_pair Kd.heap_string (Kd.heap_int .i64))
theorem k83_open {w : World} {x : S83} {cs : List Value} (h : k83.K w x cs) : cs = [.string x.f0, .int .i64 x.f1] := by
  obtain ⟨_, _, rfl, rfl, rfl⟩ := h
  exact rfl
theorem k83_openM {w : World} {base : Nat} {ok : Nat → Prop} {x : S83} {cs : List Value} (h : k83.M w base ok x cs) : cs = [.string x.f0, .int .i64 x.f1] := by
  obtain ⟨_, _, rfl, rfl, rfl⟩ := h
  exact rfl
theorem k83_mk (w : World) (x : S83)  : k83.K w x [.string x.f0, .int .i64 x.f1] := ⟨[.string x.f0], [.int .i64 x.f1], rfl, rfl, rfl⟩
theorem k83_mkM (w : World) (base : Nat) (ok : Nat → Prop) (x : S83)  : k83.M w base ok x [.string x.f0, .int .i64 x.f1] := ⟨[.string x.f0], [.int .i64 x.f1], rfl, rfl, rfl⟩
theorem k83_mkF (W : World) (ok : Nat → Prop) (x : S83) : Kd.FK k83 W ok x [.string x.f0, .int .i64 x.f1] := fun W2 _ => k83_mk W2 x
def rd_T83 (xs : List S83) (i : Int) : S83 := xs.getD i.toNat z83
theorem at_T83 {w : World} {A : Option Addr} {n : Nat} {xs : List S83} (h : Kd.C k83 w A n xs) (i : Int) (h0 : 0 ≤ i) (h1 : i < n) : ∃ ad , A = some ad ∧ w.cell? (ad.add (i.toNat * 2)) = some (.string (rd_T83 xs i).f0) ∧ w.cell? ⟨(ad.add (i.toNat * 2)).block, (ad.add (i.toNat * 2)).off + 1, none⟩ = some (.int .i64 (rd_T83 xs i).f1) := by
  obtain ⟨ad, c, e, _, hK, hc0⟩ := Kd.C_get h z83 i h0 h1
  have hc : ∀ j u, c[j]? = some u → w.cell? (ad.add (i.toNat * 2 + j)) = some u := hc0
  obtain rfl := k83_open hK
  exact ⟨ad, e, hc 0 _ rfl, by rw [← add_field _ _ 1 (by omega)]; exact hc 1 _ rfl⟩
structure S63 where
  f0 : Int
  f1 : ByteArray
  f2 : Int
  f3 : ByteArray
  f4 : Int
  f5 : (List Int)
def z63 : S63 := ⟨(0 : Int), (⟨#[]⟩ : ByteArray), (0 : Int), (⟨#[]⟩ : ByteArray), (0 : Int), ([] : List Int)⟩
def k63 : Kd S63 := Kd.iso (Kd.pair (Kd.int .u8) (Kd.pair Kd.string (Kd.pair (Kd.int .i64) (Kd.pair Kd.string (Kd.pair (Kd.int .u8) (Kd.slice 5 (Kd.int .u8))))))) (fun x : S63 => (x.f0, x.f1, x.f2, x.f3, x.f4, x.f5))
theorem k63_heap : Kd.Heap k63 := Kd.heap_iso _ (Kd.heap_pair (Kd.heap_int .u8) (Kd.heap_pair Kd.heap_string (Kd.heap_pair (Kd.heap_int .i64) (Kd.heap_pair Kd.heap_string (Kd.heap_pair (Kd.heap_int .u8) (Kd.heap_slice 5 (Kd.heap_int .u8)))))))
theorem k63_open {w : World} {x : S63} {cs : List Value} (h : k63.K w x cs) : ∃ A5 c5, cs = [.int .u8 x.f0, .string x.f1, .int .i64 x.f2, .string x.f3, .int .u8 x.f4, .slice A5 x.f5.length c5] ∧ x.f5.length ≤ c5 ∧ (Kd.int .u8).C w A5 x.f5.length x.f5 := by
  obtain ⟨_, _, rfl, rfl, ⟨_, _, rfl, rfl, ⟨_, _, rfl, rfl, ⟨_, _, rfl, rfl, ⟨_, _, rfl, rfl, ⟨A5, c5, rfl, l5, g5⟩⟩⟩⟩⟩⟩ := h
  exact ⟨A5, c5, rfl, l5, g5⟩
theorem k63_openM {w : World} {base : Nat} {ok : Nat → Prop} {x : S63} {cs : List Value} (h : k63.M w base ok x cs) : ∃ v5, cs = [.int .u8 x.f0, .string x.f1, .int .i64 x.f2, .string x.f3, .int .u8 x.f4, v5] ∧ (Kd.int .u8).R 5 w base ok v5 x.f5 := by
  obtain ⟨_, _, rfl, rfl, ⟨_, _, rfl, rfl, ⟨_, _, rfl, rfl, ⟨_, _, rfl, rfl, ⟨_, _, rfl, rfl, ⟨v5, rfl, g5⟩⟩⟩⟩⟩⟩ := h
  exact ⟨v5, rfl, g5⟩
theorem k63_mk (w : World) (x : S63) {A5 : Option Addr} {c5 : Nat} (l5 : x.f5.length ≤ c5) (g5 : (Kd.int .u8).C w A5 x.f5.length x.f5) : k63.K w x [.int .u8 x.f0, .string x.f1, .int .i64 x.f2, .string x.f3, .int .u8 x.f4, .slice A5 x.f5.length c5] := ⟨[.int .u8 x.f0], [.string x.f1, .int .i64 x.f2, .string x.f3, .int .u8 x.f4, .slice A5 x.f5.length c5], rfl, rfl, ⟨[.string x.f1], [.int .i64 x.f2, .string x.f3, .int .u8 x.f4, .slice A5 x.f5.length c5], rfl, rfl, ⟨[.int .i64 x.f2], [.string x.f3, .int .u8 x.f4, .slice A5 x.f5.length c5], rfl, rfl, ⟨[.string x.f3], [.int .u8 x.f4, .slice A5 x.f5.length c5], rfl, rfl, ⟨[.int .u8 x.f4], [.slice A5 x.f5.length c5], rfl, rfl, ⟨A5, c5, rfl, l5, g5⟩⟩⟩⟩⟩⟩
theorem k63_mkM (w : World) (base : Nat) (ok : Nat → Prop) (x : S63) {v5 : Value} (g5 : (Kd.int .u8).R 5 w base ok v5 x.f5) : k63.M w base ok x [.int .u8 x.f0, .string x.f1, .int .i64 x.f2, .string x.f3, .int .u8 x.f4, v5] := ⟨[.int .u8 x.f0], [.string x.f1, .int .i64 x.f2, .string x.f3, .int .u8 x.f4, v5], rfl, rfl, ⟨[.string x.f1], [.int .i64 x.f2, .string x.f3, .int .u8 x.f4, v5], rfl, rfl, ⟨[.int .i64 x.f2], [.string x.f3, .int .u8 x.f4, v5], rfl, rfl, ⟨[.string x.f3], [.int .u8 x.f4, v5], rfl, rfl, ⟨[.int .u8 x.f4], [v5], rfl, rfl, ⟨v5, rfl, g5⟩⟩⟩⟩⟩⟩
theorem k63_openF {W : World} {ok : Nat → Prop} {x : S63} {cs : List Value} (h : Kd.FK k63 W ok x cs) : ∃ A5 c5, cs = [.int .u8 x.f0, .string x.f1, .int .i64 x.f2, .string x.f3, .int .u8 x.f4, .slice A5 x.f5.length c5] ∧ x.f5.length ≤ c5 ∧ Kd.F (Kd.int .u8) W ok A5 x.f5.length x.f5 := by
  obtain ⟨A5, c5, rfl, l5, _⟩ := k63_open (Kd.FK_now h)
  exact ⟨A5, c5, rfl, l5, (fun W' hW => by obtain ⟨A5_, c5_, he, l5_, g5_⟩ := k63_open (h W' hW); injection (Option.some.inj (show some (Value.slice A5 x.f5.length c5) = some (Value.slice A5_ x.f5.length c5_) from congrArg (fun l => l[5]?) he)) with ha_ _ _; rw [ha_]; exact g5_)⟩
theorem k63_mkF (W : World) (ok : Nat → Prop) (x : S63) {A5 : Option Addr} {c5 : Nat} (l5 : x.f5.length ≤ c5) (g5 : Kd.F (Kd.int .u8) W ok A5 x.f5.length x.f5) : Kd.FK k63 W ok x [.int .u8 x.f0, .string x.f1, .int .i64 x.f2, .string x.f3, .int .u8 x.f4, .slice A5 x.f5.length c5] := fun W2 hW => k63_mk W2 x l5 (g5 W2 hW)
def rd_T63 (xs : List S63) (i : Int) : S63 := xs.getD i.toNat z63
theorem at_T63 {w : World} {A : Option Addr} {n : Nat} {xs : List S63} (h : Kd.C k63 w A n xs) (i : Int) (h0 : 0 ≤ i) (h1 : i < n) : ∃ ad A5 c5, A = some ad ∧ w.cell? (ad.add (i.toNat * 6)) = some (.int .u8 (rd_T63 xs i).f0) ∧ w.cell? ⟨(ad.add (i.toNat * 6)).block, (ad.add (i.toNat * 6)).off + 1, none⟩ = some (.string (rd_T63 xs i).f1) ∧ w.cell? ⟨(ad.add (i.toNat * 6)).block, (ad.add (i.toNat * 6)).off + 2, none⟩ = some (.int .i64 (rd_T63 xs i).f2) ∧ w.cell? ⟨(ad.add (i.toNat * 6)).block, (ad.add (i.toNat * 6)).off + 3, none⟩ = some (.string (rd_T63 xs i).f3) ∧ w.cell? ⟨(ad.add (i.toNat * 6)).block, (ad.add (i.toNat * 6)).off + 4, none⟩ = some (.int .u8 (rd_T63 xs i).f4) ∧ w.cell? ⟨(ad.add (i.toNat * 6)).block, (ad.add (i.toNat * 6)).off + 5, none⟩ = some (.slice A5 (rd_T63 xs i).f5.length c5) ∧ (rd_T63 xs i).f5.length ≤ c5 ∧ (Kd.int .u8).C w A5 (rd_T63 xs i).f5.length (rd_T63 xs i).f5 := by
  obtain ⟨ad, c, e, _, hK, hc0⟩ := Kd.C_get h z63 i h0 h1
  have hc : ∀ j u, c[j]? = some u → w.cell? (ad.add (i.toNat * 6 + j)) = some u := hc0
  obtain ⟨A5, c5, rfl, l5, g5⟩ := k63_open hK
  exact ⟨ad, A5, c5, e, hc 0 _ rfl, by rw [← add_field _ _ 1 (by omega)]; exact hc 1 _ rfl, by rw [← add_field _ _ 2 (by omega)]; exact hc 2 _ rfl, by rw [← add_field _ _ 3 (by omega)]; exact hc 3 _ rfl, by rw [← add_field _ _ 4 (by omega)]; exact hc 4 _ rfl, by rw [← add_field _ _ 5 (by omega)]; exact hc 5 _ rfl, l5, g5⟩
structure S110 where
  f0 : Int
  f1 : Bool
  f2 : ByteArray
def z110 : S110 := ⟨(0 : Int), false, (⟨#[]⟩ : ByteArray)⟩
def k110 : Kd S110 := Kd.iso (Kd.pair (Kd.int .i64) (Kd.pair Kd.bool Kd.string)) (fun x : S110 => (x.f0, x.f1, x.f2))
theorem k110_heap : Kd.Heap k110 := Kd.heap_iso _ (Kd.heap_pair (Kd.heap_int .i64) (Kd.heap_pair Kd.heap_bool Kd.heap_string))
theorem k110_open {w : World} {x : S110} {cs : List Value} (h : k110.K w x cs) : cs = [.int .i64 x.f0, .bool x.f1, .string x.f2] := by
  obtain ⟨_, _, rfl, rfl, ⟨_, _, rfl, rfl, rfl⟩⟩ := h
  exact rfl
theorem k110_openM {w : World} {base : Nat} {ok : Nat → Prop} {x : S110} {cs : List Value} (h : k110.M w base ok x cs) : cs = [.int .i64 x.f0, .bool x.f1, .string x.f2] := by
  obtain ⟨_, _, rfl, rfl, ⟨_, _, rfl, rfl, rfl⟩⟩ := h
  exact rfl
theorem k110_mk (w : World) (x : S110)  : k110.K w x [.int .i64 x.f0, .bool x.f1, .string x.f2] := ⟨[.int .i64 x.f0], [.bool x.f1, .string x.f2], rfl, rfl, ⟨[.bool x.f1], [.string x.f2], rfl, rfl, rfl⟩⟩
theorem k110_mkM (w : World) (base : Nat) (ok : Nat → Prop) (x : S110)  : k110.M w base ok x [.int .i64 x.f0, .bool x.f1, .string x.f2] := ⟨[.int .i64 x.f0], [.bool x.f1, .string x.f2], rfl, rfl, ⟨[.bool x.f1], [.string x.f2], rfl, rfl, rfl⟩⟩
theorem k110_mkF (W : World) (ok : Nat → Prop) (x : S110) : Kd.FK k110 W ok x [.int .i64 x.f0, .bool x.f1, .string x.f2] := fun W2 _ => k110_mk W2 x
def rd_T110 (xs : List S110) (i : Int) : S110 := xs.getD i.toNat z110
theorem at_T110 {w : World} {A : Option Addr} {n : Nat} {xs : List S110} (h : Kd.C k110 w A n xs) (i : Int) (h0 : 0 ≤ i) (h1 : i < n) : ∃ ad , A = some ad ∧ w.cell? (ad.add (i.toNat * 3)) = some (.int .i64 (rd_T110 xs i).f0) ∧ w.cell? ⟨(ad.add (i.toNat * 3)).block, (ad.add (i.toNat * 3)).off + 1, none⟩ = some (.bool (rd_T110 xs i).f1) ∧ w.cell? ⟨(ad.add (i.toNat * 3)).block, (ad.add (i.toNat * 3)).off + 2, none⟩ = some (.string (rd_T110 xs i).f2) := by
  obtain ⟨ad, c, e, _, hK, hc0⟩ := Kd.C_get h z110 i h0 h1
  have hc : ∀ j u, c[j]? = some u → w.cell? (ad.add (i.toNat * 3 + j)) = some u := hc0
  obtain rfl := k110_open hK
  exact ⟨ad, e, hc 0 _ rfl, by rw [← add_field _ _ 1 (by omega)]; exact hc 1 _ rfl, by rw [← add_field _ _ 2 (by omega)]; exact hc 2 _ rfl⟩
end Go.Proofs.YthnafgffanlnfaaDoor.PSrc
namespace Go.Proofs.YthnafgffanlnfaaDoor.PSrc
open Go.RowKit Go.Proofs.YthnafgffanlnfaaDoorW.PrintWords Go.Proofs.YthnafgffanlnfaaDoorW.PrintLast Go.Proofs.YthnafgffanlnfaaDoorW.PrintMore
attribute [local go_sem] max2_int min2_int max_two min_two max_three min_three max_four min_four   -- for this text's walks alone
set_option linter.unusedVariables false
set_option linter.unusedSimpArgs false
def code_name.f (a0 : Int) : Option (ByteArray) := if (a0 / 16) = 0 then (if (Go.bits .and .u8 a0 15) = 0 then (some (⟨#[73, 68, 76]⟩ : ByteArray)) else (some (⟨#[76, 68, 78]⟩ : ByteArray))) else (if (a0 / 16) = 3 then (if 0 ≤ (Go.bits .and .u8 a0 15) then (if (Go.bits .and .u8 a0 15) < 16 then (some (rdOf ByteArray.empty threesT (Go.bits .and .u8 a0 15))) else (none)) else (none)) else (if (a0 / 16) = 6 then (if (Go.bits .and .u8 a0 15) = 0 then (some (⟨#[73, 82, 88]⟩ : ByteArray)) else (if (Go.bits .and .u8 a0 15) = 8 then (some (⟨#[78, 85, 76]⟩ : ByteArray)) else (if (Go.bits .and .u8 a0 15) < 8 then (some (⟨#[79, 85, 84]⟩ : ByteArray)) else (some (⟨#[73, 78, 80]⟩ : ByteArray))))) else (if (a0 / 16) = 7 then (if 0 ≤ (Go.bits .and .u8 a0 15) then (if (Go.bits .and .u8 a0 15) < 16 then (some (rdOf ByteArray.empty sevensT (Go.bits .and .u8 a0 15))) else (none)) else (none)) else (if (a0 / 16) = 12 then (if 0 ≤ (Go.bits .and .u8 a0 15) then (if (Go.bits .and .u8 a0 15) < 16 then (some (rdOf ByteArray.empty twelvesT (Go.bits .and .u8 a0 15))) else (none)) else (none)) else (if (a0 / 16) = 15 then (if 0 ≤ (Go.bits .and .u8 a0 15) then (if (Go.bits .and .u8 a0 15) < 16 then (some (rdOf ByteArray.empty fifteensT (Go.bits .and .u8 a0 15))) else (none)) else (none)) else (if 0 ≤ (a0 / 16) then (if (a0 / 16) < 16 then (some (rdOf ByteArray.empty rowsT (a0 / 16))) else (none)) else (none)))))))
set_option maxHeartbeats 8000000 in
set_option maxRecDepth 100000 in
theorem code_name.calls (a0 : Int) (r : ByteArray) (w : World) (HG0 : Gl w) (h : code_name.f a0 = some r) :
    Calls Tryd.prog 123 #[.int .u8 a0] w fun e w' => e = .returned (.string r) ∧ Drawn0 w w' := by
  have HG := Aside0.mk HG0
  clear HG0
  have HRt3 := Aside0.mk (kd_threes HG.out)
  have HCt3 := Aside0.mk (Nat.le_refl 16)
  have HRt4 := Aside0.mk (kd_sevens HG.out)
  have HCt4 := Aside0.mk (Nat.le_refl 16)
  have HRt5 := Aside0.mk (kd_twelves HG.out)
  have HCt5 := Aside0.mk (Nat.le_refl 16)
  have HRt6 := Aside0.mk (kd_fifteens HG.out)
  have HCt6 := Aside0.mk (Nat.le_refl 16)
  have HRt7 := Aside0.mk (kd_rows HG.out)
  have HCt7 := Aside0.mk (Nat.le_refl 16)
  have H : (if (a0 / 16) = 0 then (if (Go.bits .and .u8 a0 15) = 0 then (some (⟨#[73, 68, 76]⟩ : ByteArray)) else (some (⟨#[76, 68, 78]⟩ : ByteArray))) else (if (a0 / 16) = 3 then (if 0 ≤ (Go.bits .and .u8 a0 15) then (if (Go.bits .and .u8 a0 15) < 16 then (some (rdOf ByteArray.empty threesT (Go.bits .and .u8 a0 15))) else (none)) else (none)) else (if (a0 / 16) = 6 then (if (Go.bits .and .u8 a0 15) = 0 then (some (⟨#[73, 82, 88]⟩ : ByteArray)) else (if (Go.bits .and .u8 a0 15) = 8 then (some (⟨#[78, 85, 76]⟩ : ByteArray)) else (if (Go.bits .and .u8 a0 15) < 8 then (some (⟨#[79, 85, 84]⟩ : ByteArray)) else (some (⟨#[73, 78, 80]⟩ : ByteArray))))) else (if (a0 / 16) = 7 then (if 0 ≤ (Go.bits .and .u8 a0 15) then (if (Go.bits .and .u8 a0 15) < 16 then (some (rdOf ByteArray.empty sevensT (Go.bits .and .u8 a0 15))) else (none)) else (none)) else (if (a0 / 16) = 12 then (if 0 ≤ (Go.bits .and .u8 a0 15) then (if (Go.bits .and .u8 a0 15) < 16 then (some (rdOf ByteArray.empty twelvesT (Go.bits .and .u8 a0 15))) else (none)) else (none)) else (if (a0 / 16) = 15 then (if 0 ≤ (Go.bits .and .u8 a0 15) then (if (Go.bits .and .u8 a0 15) < 16 then (some (rdOf ByteArray.empty fifteensT (Go.bits .and .u8 a0 15))) else (none)) else (none)) else (if 0 ≤ (a0 / 16) then (if (a0 / 16) < 16 then (some (rdOf ByteArray.empty rowsT (a0 / 16))) else (none)) else (none)))))))) = some r := h
  clear h
  obtain ⟨tTab3, hTab3⟩ : ∃ l_, l_ = threesT := ⟨_, rfl⟩
  (try simp only [← hTab3] at H)
  rw [← hTab3] at HRt3
  have HTab3 := Aside0.mk hTab3
  clear hTab3
  obtain ⟨tTab4, hTab4⟩ : ∃ l_, l_ = sevensT := ⟨_, rfl⟩
  (try simp only [← hTab4] at H)
  rw [← hTab4] at HRt4
  have HTab4 := Aside0.mk hTab4
  clear hTab4
  obtain ⟨tTab5, hTab5⟩ : ∃ l_, l_ = twelvesT := ⟨_, rfl⟩
  (try simp only [← hTab5] at H)
  rw [← hTab5] at HRt5
  have HTab5 := Aside0.mk hTab5
  clear hTab5
  obtain ⟨tTab6, hTab6⟩ : ∃ l_, l_ = fifteensT := ⟨_, rfl⟩
  (try simp only [← hTab6] at H)
  rw [← hTab6] at HRt6
  have HTab6 := Aside0.mk hTab6
  clear hTab6
  obtain ⟨tTab7, hTab7⟩ : ∃ l_, l_ = rowsT := ⟨_, rfl⟩
  (try simp only [← hTab7] at H)
  rw [← hTab7] at HRt7
  have HTab7 := Aside0.mk hTab7
  clear hTab7
  by_cases c2 : (a0 / 16) = 0
  · rw [if_pos c2] at H
    have c2b0 : ((a0 / 16) == 0) = true := beq_iff_eq.mpr c2
    have c2b1 : ((a0 / 16) != 0) = false := bne_eq_false_iff_eq.mpr c2
    clear c2
    by_cases c3 : (Go.bits .and .u8 a0 15) = 0
    · rw [if_pos c3] at H
      have c3b0 : ((Go.bits .and .u8 a0 15) == 0) = true := beq_iff_eq.mpr c3
      have c3b1 : ((Go.bits .and .u8 a0 15) != 0) = false := bne_eq_false_iff_eq.mpr c3
      clear c3
      obtain rfl := Option.some.inj H
      go_enter Tryd.func123, Tryd.ntmps123
      go_wp2
      go_ret
      exact ⟨by first | rfl | (simp; done) | (simp [*]; done), by repeat (first | exact Drawn0.refl _ | apply Drawn0.step)⟩
    · rw [if_neg c3] at H
      have c3b0 : ((Go.bits .and .u8 a0 15) == 0) = false := beq_eq_false_iff_ne.mpr c3
      have c3b1 : ((Go.bits .and .u8 a0 15) != 0) = true := bne_iff_ne.mpr c3
      obtain rfl := Option.some.inj H
      go_enter Tryd.func123, Tryd.ntmps123
      go_wp2
      go_ret
      exact ⟨by first | rfl | (simp; done) | (simp [*]; done), by repeat (first | exact Drawn0.refl _ | apply Drawn0.step)⟩
  · rw [if_neg c2] at H
    have c2b0 : ((a0 / 16) == 0) = false := beq_eq_false_iff_ne.mpr c2
    have c2b1 : ((a0 / 16) != 0) = true := bne_iff_ne.mpr c2
    by_cases c4 : (a0 / 16) = 3
    · rw [if_pos c4] at H
      have c4b0 : ((a0 / 16) == 3) = true := beq_iff_eq.mpr c4
      have c4b1 : ((a0 / 16) != 3) = false := bne_eq_false_iff_eq.mpr c4
      clear c4
      by_cases c5 : 0 ≤ (Go.bits .and .u8 a0 15)
      · rw [if_pos c5] at H
        have c5b0 : decide (0 ≤ (Go.bits .and .u8 a0 15)) = true := decide_eq_true c5
        clear c5
        by_cases c6 : (Go.bits .and .u8 a0 15) < 16
        · rw [if_pos c6] at H
          have c6b0 : decide ((Go.bits .and .u8 a0 15) < 16) = true := decide_eq_true c6
          clear c6
          obtain rfl := Option.some.inj H
          have p101 : 0 ≤ ((Go.bits .and .u8 a0 15) : Int) := of_decide_eq_true (by first | (with_reducible assumption) | assumption)
          have q101 : ((Go.bits .and .u8 a0 15) : Int) < 16 := of_decide_eq_true (by first | (with_reducible assumption) | assumption)
          obtain ⟨ad101, e101, hx101_0⟩ := Kd.at_string HRt3.out (Go.bits .and .u8 a0 15) p101 q101
          obtain rfl : (⟨3, 0, none⟩ : Addr) = ad101 := (by injection e101)
          (first | simp only [add_plain] at hx101_0 | simp only [add_at] at hx101_0 | simp only [Addr.add, Nat.zero_add] at hx101_0 | skip)
          replace p101 := eq_true p101
          replace q101 := eq_true q101
          go_enter Tryd.func123, Tryd.ntmps123
          go_wp2
          go_ret
          exact ⟨by first | rfl | (simp; done) | (simp [*]; done), by repeat (first | exact Drawn0.refl _ | apply Drawn0.step)⟩
        · rw [if_neg c6] at H
          exact absurd H (by simp)
      · rw [if_neg c5] at H
        exact absurd H (by simp)
    · rw [if_neg c4] at H
      have c4b0 : ((a0 / 16) == 3) = false := beq_eq_false_iff_ne.mpr c4
      have c4b1 : ((a0 / 16) != 3) = true := bne_iff_ne.mpr c4
      by_cases c7 : (a0 / 16) = 6
      · rw [if_pos c7] at H
        have c7b0 : ((a0 / 16) == 6) = true := beq_iff_eq.mpr c7
        have c7b1 : ((a0 / 16) != 6) = false := bne_eq_false_iff_eq.mpr c7
        clear c7
        by_cases c8 : (Go.bits .and .u8 a0 15) = 0
        · rw [if_pos c8] at H
          have c8b0 : ((Go.bits .and .u8 a0 15) == 0) = true := beq_iff_eq.mpr c8
          have c8b1 : ((Go.bits .and .u8 a0 15) != 0) = false := bne_eq_false_iff_eq.mpr c8
          clear c8
          obtain rfl := Option.some.inj H
          go_enter Tryd.func123, Tryd.ntmps123
          go_wp2
          go_ret
          exact ⟨by first | rfl | (simp; done) | (simp [*]; done), by repeat (first | exact Drawn0.refl _ | apply Drawn0.step)⟩
        · rw [if_neg c8] at H
          have c8b0 : ((Go.bits .and .u8 a0 15) == 0) = false := beq_eq_false_iff_ne.mpr c8
          have c8b1 : ((Go.bits .and .u8 a0 15) != 0) = true := bne_iff_ne.mpr c8
          by_cases c9 : (Go.bits .and .u8 a0 15) = 8
          · rw [if_pos c9] at H
            have c9b0 : ((Go.bits .and .u8 a0 15) == 8) = true := beq_iff_eq.mpr c9
            have c9b1 : ((Go.bits .and .u8 a0 15) != 8) = false := bne_eq_false_iff_eq.mpr c9
            clear c9
            obtain rfl := Option.some.inj H
            go_enter Tryd.func123, Tryd.ntmps123
            go_wp2
            go_ret
            exact ⟨by first | rfl | (simp; done) | (simp [*]; done), by repeat (first | exact Drawn0.refl _ | apply Drawn0.step)⟩
          · rw [if_neg c9] at H
            have c9b0 : ((Go.bits .and .u8 a0 15) == 8) = false := beq_eq_false_iff_ne.mpr c9
            have c9b1 : ((Go.bits .and .u8 a0 15) != 8) = true := bne_iff_ne.mpr c9
            by_cases c10 : (Go.bits .and .u8 a0 15) < 8
            · rw [if_pos c10] at H
              have c10b0 : decide ((Go.bits .and .u8 a0 15) < 8) = true := decide_eq_true c10
              clear c10
              obtain rfl := Option.some.inj H
              go_enter Tryd.func123, Tryd.ntmps123
              go_wp2
              go_ret
              exact ⟨by first | rfl | (simp; done) | (simp [*]; done), by repeat (first | exact Drawn0.refl _ | apply Drawn0.step)⟩
            · rw [if_neg c10] at H
              have c10b0 : decide ((Go.bits .and .u8 a0 15) < 8) = false := decide_eq_false c10
              clear c10
              obtain rfl := Option.some.inj H
              go_enter Tryd.func123, Tryd.ntmps123
              go_wp2
              go_ret
              exact ⟨by first | rfl | (simp; done) | (simp [*]; done), by repeat (first | exact Drawn0.refl _ | apply Drawn0.step)⟩
      · rw [if_neg c7] at H
        have c7b0 : ((a0 / 16) == 6) = false := beq_eq_false_iff_ne.mpr c7
        have c7b1 : ((a0 / 16) != 6) = true := bne_iff_ne.mpr c7
        by_cases c11 : (a0 / 16) = 7
        · rw [if_pos c11] at H
          have c11b0 : ((a0 / 16) == 7) = true := beq_iff_eq.mpr c11
          have c11b1 : ((a0 / 16) != 7) = false := bne_eq_false_iff_eq.mpr c11
          clear c11
          by_cases c12 : 0 ≤ (Go.bits .and .u8 a0 15)
          · rw [if_pos c12] at H
            have c12b0 : decide (0 ≤ (Go.bits .and .u8 a0 15)) = true := decide_eq_true c12
            clear c12
            by_cases c13 : (Go.bits .and .u8 a0 15) < 16
            · rw [if_pos c13] at H
              have c13b0 : decide ((Go.bits .and .u8 a0 15) < 16) = true := decide_eq_true c13
              clear c13
              obtain rfl := Option.some.inj H
              have p102 : 0 ≤ ((Go.bits .and .u8 a0 15) : Int) := of_decide_eq_true (by first | (with_reducible assumption) | assumption)
              have q102 : ((Go.bits .and .u8 a0 15) : Int) < 16 := of_decide_eq_true (by first | (with_reducible assumption) | assumption)
              obtain ⟨ad102, e102, hx102_0⟩ := Kd.at_string HRt4.out (Go.bits .and .u8 a0 15) p102 q102
              obtain rfl : (⟨4, 0, none⟩ : Addr) = ad102 := (by injection e102)
              (first | simp only [add_plain] at hx102_0 | simp only [add_at] at hx102_0 | simp only [Addr.add, Nat.zero_add] at hx102_0 | skip)
              replace p102 := eq_true p102
              replace q102 := eq_true q102
              go_enter Tryd.func123, Tryd.ntmps123
              go_wp2
              go_ret
              exact ⟨by first | rfl | (simp; done) | (simp [*]; done), by repeat (first | exact Drawn0.refl _ | apply Drawn0.step)⟩
            · rw [if_neg c13] at H
              exact absurd H (by simp)
          · rw [if_neg c12] at H
            exact absurd H (by simp)
        · rw [if_neg c11] at H
          have c11b0 : ((a0 / 16) == 7) = false := beq_eq_false_iff_ne.mpr c11
          have c11b1 : ((a0 / 16) != 7) = true := bne_iff_ne.mpr c11
          by_cases c14 : (a0 / 16) = 12
          · rw [if_pos c14] at H
            have c14b0 : ((a0 / 16) == 12) = true := beq_iff_eq.mpr c14
            have c14b1 : ((a0 / 16) != 12) = false := bne_eq_false_iff_eq.mpr c14
            clear c14
            by_cases c15 : 0 ≤ (Go.bits .and .u8 a0 15)
            · rw [if_pos c15] at H
              have c15b0 : decide (0 ≤ (Go.bits .and .u8 a0 15)) = true := decide_eq_true c15
              clear c15
              by_cases c16 : (Go.bits .and .u8 a0 15) < 16
              · rw [if_pos c16] at H
                have c16b0 : decide ((Go.bits .and .u8 a0 15) < 16) = true := decide_eq_true c16
                clear c16
                obtain rfl := Option.some.inj H
                have p103 : 0 ≤ ((Go.bits .and .u8 a0 15) : Int) := of_decide_eq_true (by first | (with_reducible assumption) | assumption)
                have q103 : ((Go.bits .and .u8 a0 15) : Int) < 16 := of_decide_eq_true (by first | (with_reducible assumption) | assumption)
                obtain ⟨ad103, e103, hx103_0⟩ := Kd.at_string HRt5.out (Go.bits .and .u8 a0 15) p103 q103
                obtain rfl : (⟨5, 0, none⟩ : Addr) = ad103 := (by injection e103)
                (first | simp only [add_plain] at hx103_0 | simp only [add_at] at hx103_0 | simp only [Addr.add, Nat.zero_add] at hx103_0 | skip)
                replace p103 := eq_true p103
                replace q103 := eq_true q103
                go_enter Tryd.func123, Tryd.ntmps123
                go_wp2
                go_ret
                exact ⟨by first | rfl | (simp; done) | (simp [*]; done), by repeat (first | exact Drawn0.refl _ | apply Drawn0.step)⟩
              · rw [if_neg c16] at H
                exact absurd H (by simp)
            · rw [if_neg c15] at H
              exact absurd H (by simp)
          · rw [if_neg c14] at H
            have c14b0 : ((a0 / 16) == 12) = false := beq_eq_false_iff_ne.mpr c14
            have c14b1 : ((a0 / 16) != 12) = true := bne_iff_ne.mpr c14
            by_cases c17 : (a0 / 16) = 15
            · rw [if_pos c17] at H
              have c17b0 : ((a0 / 16) == 15) = true := beq_iff_eq.mpr c17
              have c17b1 : ((a0 / 16) != 15) = false := bne_eq_false_iff_eq.mpr c17
              clear c17
              by_cases c18 : 0 ≤ (Go.bits .and .u8 a0 15)
              · rw [if_pos c18] at H
                have c18b0 : decide (0 ≤ (Go.bits .and .u8 a0 15)) = true := decide_eq_true c18
                clear c18
                by_cases c19 : (Go.bits .and .u8 a0 15) < 16
                · rw [if_pos c19] at H
                  have c19b0 : decide ((Go.bits .and .u8 a0 15) < 16) = true := decide_eq_true c19
                  clear c19
                  obtain rfl := Option.some.inj H
                  have p104 : 0 ≤ ((Go.bits .and .u8 a0 15) : Int) := of_decide_eq_true (by first | (with_reducible assumption) | assumption)
                  have q104 : ((Go.bits .and .u8 a0 15) : Int) < 16 := of_decide_eq_true (by first | (with_reducible assumption) | assumption)
                  obtain ⟨ad104, e104, hx104_0⟩ := Kd.at_string HRt6.out (Go.bits .and .u8 a0 15) p104 q104
                  obtain rfl : (⟨6, 0, none⟩ : Addr) = ad104 := (by injection e104)
                  (first | simp only [add_plain] at hx104_0 | simp only [add_at] at hx104_0 | simp only [Addr.add, Nat.zero_add] at hx104_0 | skip)
                  replace p104 := eq_true p104
                  replace q104 := eq_true q104
                  go_enter Tryd.func123, Tryd.ntmps123
                  go_wp2
                  go_ret
                  exact ⟨by first | rfl | (simp; done) | (simp [*]; done), by repeat (first | exact Drawn0.refl _ | apply Drawn0.step)⟩
                · rw [if_neg c19] at H
                  exact absurd H (by simp)
              · rw [if_neg c18] at H
                exact absurd H (by simp)
            · rw [if_neg c17] at H
              have c17b0 : ((a0 / 16) == 15) = false := beq_eq_false_iff_ne.mpr c17
              have c17b1 : ((a0 / 16) != 15) = true := bne_iff_ne.mpr c17
              obtain ⟨ji20, hji20⟩ : ∃ j_ : Int, (a0 / 16) = j_ := ⟨_, rfl⟩
              replace H : (if 0 ≤ (ji20) then (if (ji20) < 16 then (some (rdOf ByteArray.empty tTab7 (ji20))) else (none)) else (none)) = some r := by first | (rw [hji20] at H; exact H) | (simp only [hji20] at H ⊢; exact H)
              (try rw [hji20] at c2b0)
              (try rw [hji20] at c2b1)
              (try rw [hji20] at c4b0)
              (try rw [hji20] at c4b1)
              (try rw [hji20] at c7b0)
              (try rw [hji20] at c7b1)
              (try rw [hji20] at c11b0)
              (try rw [hji20] at c11b1)
              (try rw [hji20] at c14b0)
              (try rw [hji20] at c14b1)
              (try rw [hji20] at c17b0)
              (try rw [hji20] at c17b1)
              by_cases c21 : 0 ≤ (ji20)
              · rw [if_pos c21] at H
                have c21b0 : decide (0 ≤ (ji20)) = true := decide_eq_true c21
                clear c21
                by_cases c22 : (ji20) < 16
                · rw [if_pos c22] at H
                  have c22b0 : decide ((ji20) < 16) = true := decide_eq_true c22
                  clear c22
                  obtain rfl := Option.some.inj H
                  have p105 : 0 ≤ ((ji20) : Int) := of_decide_eq_true (by first | (with_reducible assumption) | assumption)
                  have q105 : ((ji20) : Int) < 16 := of_decide_eq_true (by first | (with_reducible assumption) | assumption)
                  obtain ⟨ad105, e105, hx105_0⟩ := Kd.at_string HRt7.out (ji20) p105 q105
                  obtain rfl : (⟨7, 0, none⟩ : Addr) = ad105 := (by injection e105)
                  (first | simp only [add_plain] at hx105_0 | simp only [add_at] at hx105_0 | simp only [Addr.add, Nat.zero_add] at hx105_0 | skip)
                  replace p105 := eq_true p105
                  replace q105 := eq_true q105
                  go_enter Tryd.func123, Tryd.ntmps123
                  go_wp2
                  go_ret
                  exact ⟨by first | rfl | (simp; done) | (simp only [← hji20] <;> (first | rfl | simp)) | (simp [*]; done), by repeat (first | exact Drawn0.refl _ | apply Drawn0.step)⟩
                · rw [if_neg c22] at H
                  exact absurd H (by simp)
              · rw [if_neg c21] at H
                exact absurd H (by simp)
end Go.Proofs.YthnafgffanlnfaaDoor.PSrc
namespace Go.Proofs.YthnafgffanlnfaaDoor.PSrc
open Go.RowKit Go.Proofs.YthnafgffanlnfaaDoorW.PrintWords Go.Proofs.YthnafgffanlnfaaDoorW.PrintLast Go.Proofs.YthnafgffanlnfaaDoorW.PrintMore
attribute [local go_sem] max2_int min2_int max_two min_two max_three min_three max_four min_four   -- for this text's walks alone
set_option linter.unusedVariables false
set_option linter.unusedSimpArgs false
def code_immediate.f (a0 : Int) : Option (Bool) := if (a0 / 16) = 7 then (if (Go.bits .and .u8 a0 15) ≥ 12 then (if (Go.bits .and .u8 a0 15) = 14 then (if (a0 / 16) = 15 then (if (Go.bits .and .u8 a0 15) ≥ 8 then (some ((Go.bits .and .u8 a0 15) != 14)) else (some false)) else (some false)) else (some true)) else (if (a0 / 16) = 15 then (if (Go.bits .and .u8 a0 15) ≥ 8 then (some ((Go.bits .and .u8 a0 15) != 14)) else (some false)) else (some false))) else (if (a0 / 16) = 15 then (if (Go.bits .and .u8 a0 15) ≥ 8 then (some ((Go.bits .and .u8 a0 15) != 14)) else (some false)) else (some false))
set_option maxHeartbeats 8000000 in
set_option maxRecDepth 100000 in
theorem code_immediate.calls (a0 : Int) (r : Bool) (w : World) (h : code_immediate.f a0 = some r) :
    Calls Tryd.prog 157 #[.int .u8 a0] w fun e w' => e = .returned (.bool r) ∧ Drawn0 w w' := by
  have H : (if (a0 / 16) = 7 then (if (Go.bits .and .u8 a0 15) ≥ 12 then (if (Go.bits .and .u8 a0 15) = 14 then (if (a0 / 16) = 15 then (if (Go.bits .and .u8 a0 15) ≥ 8 then (some ((Go.bits .and .u8 a0 15) != 14)) else (some false)) else (some false)) else (some true)) else (if (a0 / 16) = 15 then (if (Go.bits .and .u8 a0 15) ≥ 8 then (some ((Go.bits .and .u8 a0 15) != 14)) else (some false)) else (some false))) else (if (a0 / 16) = 15 then (if (Go.bits .and .u8 a0 15) ≥ 8 then (some ((Go.bits .and .u8 a0 15) != 14)) else (some false)) else (some false))) = some r := h
  clear h
  by_cases c2 : (a0 / 16) = 7
  · rw [if_pos c2] at H
    have c2b0 : ((a0 / 16) == 7) = true := beq_iff_eq.mpr c2
    have c2b1 : ((a0 / 16) != 7) = false := bne_eq_false_iff_eq.mpr c2
    clear c2
    by_cases c3 : (Go.bits .and .u8 a0 15) ≥ 12
    · rw [if_pos c3] at H
      have c3b0 : decide (12 ≤ (Go.bits .and .u8 a0 15)) = true := decide_eq_true c3
      clear c3
      by_cases c4 : (Go.bits .and .u8 a0 15) = 14
      · rw [if_pos c4] at H
        have c4b0 : ((Go.bits .and .u8 a0 15) == 14) = true := beq_iff_eq.mpr c4
        have c4b1 : ((Go.bits .and .u8 a0 15) != 14) = false := bne_eq_false_iff_eq.mpr c4
        clear c4
        by_cases c5 : (a0 / 16) = 15
        · rw [if_pos c5] at H
          have c5b0 : ((a0 / 16) == 15) = true := beq_iff_eq.mpr c5
          have c5b1 : ((a0 / 16) != 15) = false := bne_eq_false_iff_eq.mpr c5
          clear c5
          by_cases c6 : (Go.bits .and .u8 a0 15) ≥ 8
          · rw [if_pos c6] at H
            have c6b0 : decide (8 ≤ (Go.bits .and .u8 a0 15)) = true := decide_eq_true c6
            clear c6
            obtain rfl := Option.some.inj H
            go_enter Tryd.func157, Tryd.ntmps157
            go_wp2
            go_ret
            exact ⟨by first | rfl | (simp; done) | (simp [*]; done), by repeat (first | exact Drawn0.refl _ | apply Drawn0.step)⟩
          · rw [if_neg c6] at H
            have c6b0 : decide (8 ≤ (Go.bits .and .u8 a0 15)) = false := decide_eq_false c6
            clear c6
            obtain rfl := Option.some.inj H
            go_enter Tryd.func157, Tryd.ntmps157
            go_wp2
            go_ret
            exact ⟨by first | rfl | (simp; done) | (simp [*]; done), by repeat (first | exact Drawn0.refl _ | apply Drawn0.step)⟩
        · rw [if_neg c5] at H
          have c5b0 : ((a0 / 16) == 15) = false := beq_eq_false_iff_ne.mpr c5
          have c5b1 : ((a0 / 16) != 15) = true := bne_iff_ne.mpr c5
          obtain rfl := Option.some.inj H
          go_enter Tryd.func157, Tryd.ntmps157
          go_wp2
          go_ret
          exact ⟨by first | rfl | (simp; done) | (simp [*]; done), by repeat (first | exact Drawn0.refl _ | apply Drawn0.step)⟩
      · rw [if_neg c4] at H
        have c4b0 : ((Go.bits .and .u8 a0 15) == 14) = false := beq_eq_false_iff_ne.mpr c4
        have c4b1 : ((Go.bits .and .u8 a0 15) != 14) = true := bne_iff_ne.mpr c4
        obtain rfl := Option.some.inj H
        go_enter Tryd.func157, Tryd.ntmps157
        go_wp2
        go_ret
        exact ⟨by first | rfl | (simp; done) | (simp [*]; done), by repeat (first | exact Drawn0.refl _ | apply Drawn0.step)⟩
    · rw [if_neg c3] at H
      have c3b0 : decide (12 ≤ (Go.bits .and .u8 a0 15)) = false := decide_eq_false c3
      clear c3
      by_cases c7 : (a0 / 16) = 15
      · rw [if_pos c7] at H
        have c7b0 : ((a0 / 16) == 15) = true := beq_iff_eq.mpr c7
        have c7b1 : ((a0 / 16) != 15) = false := bne_eq_false_iff_eq.mpr c7
        clear c7
        by_cases c8 : (Go.bits .and .u8 a0 15) ≥ 8
        · rw [if_pos c8] at H
          have c8b0 : decide (8 ≤ (Go.bits .and .u8 a0 15)) = true := decide_eq_true c8
          clear c8
          obtain rfl := Option.some.inj H
          go_enter Tryd.func157, Tryd.ntmps157
          go_wp2
          go_ret
          exact ⟨by first | rfl | (simp; done) | (simp [*]; done), by repeat (first | exact Drawn0.refl _ | apply Drawn0.step)⟩
        · rw [if_neg c8] at H
          have c8b0 : decide (8 ≤ (Go.bits .and .u8 a0 15)) = false := decide_eq_false c8
          clear c8
          obtain rfl := Option.some.inj H
          go_enter Tryd.func157, Tryd.ntmps157
          go_wp2
          go_ret
          exact ⟨by first | rfl | (simp; done) | (simp [*]; done), by repeat (first | exact Drawn0.refl _ | apply Drawn0.step)⟩
      · rw [if_neg c7] at H
        have c7b0 : ((a0 / 16) == 15) = false := beq_eq_false_iff_ne.mpr c7
        have c7b1 : ((a0 / 16) != 15) = true := bne_iff_ne.mpr c7
        obtain rfl := Option.some.inj H
        go_enter Tryd.func157, Tryd.ntmps157
        go_wp2
        go_ret
        exact ⟨by first | rfl | (simp; done) | (simp [*]; done), by repeat (first | exact Drawn0.refl _ | apply Drawn0.step)⟩
  · rw [if_neg c2] at H
    have c2b0 : ((a0 / 16) == 7) = false := beq_eq_false_iff_ne.mpr c2
    have c2b1 : ((a0 / 16) != 7) = true := bne_iff_ne.mpr c2
    by_cases c9 : (a0 / 16) = 15
    · rw [if_pos c9] at H
      have c9b0 : ((a0 / 16) == 15) = true := beq_iff_eq.mpr c9
      have c9b1 : ((a0 / 16) != 15) = false := bne_eq_false_iff_eq.mpr c9
      clear c9
      by_cases c10 : (Go.bits .and .u8 a0 15) ≥ 8
      · rw [if_pos c10] at H
        have c10b0 : decide (8 ≤ (Go.bits .and .u8 a0 15)) = true := decide_eq_true c10
        clear c10
        obtain rfl := Option.some.inj H
        go_enter Tryd.func157, Tryd.ntmps157
        go_wp2
        go_ret
        exact ⟨by first | rfl | (simp; done) | (simp [*]; done), by repeat (first | exact Drawn0.refl _ | apply Drawn0.step)⟩
      · rw [if_neg c10] at H
        have c10b0 : decide (8 ≤ (Go.bits .and .u8 a0 15)) = false := decide_eq_false c10
        clear c10
        obtain rfl := Option.some.inj H
        go_enter Tryd.func157, Tryd.ntmps157
        go_wp2
        go_ret
        exact ⟨by first | rfl | (simp; done) | (simp [*]; done), by repeat (first | exact Drawn0.refl _ | apply Drawn0.step)⟩
    · rw [if_neg c9] at H
      have c9b0 : ((a0 / 16) == 15) = false := beq_eq_false_iff_ne.mpr c9
      have c9b1 : ((a0 / 16) != 15) = true := bne_iff_ne.mpr c9
      obtain rfl := Option.some.inj H
      go_enter Tryd.func157, Tryd.ntmps157
      go_wp2
      go_ret
      exact ⟨by first | rfl | (simp; done) | (simp [*]; done), by repeat (first | exact Drawn0.refl _ | apply Drawn0.step)⟩
end Go.Proofs.YthnafgffanlnfaaDoor.PSrc
namespace Go.Proofs.YthnafgffanlnfaaDoor.PSrc
open Go.RowKit Go.Proofs.YthnafgffanlnfaaDoorW.PrintWords Go.Proofs.YthnafgffanlnfaaDoorW.PrintLast Go.Proofs.YthnafgffanlnfaaDoorW.PrintMore
attribute [local go_sem] max2_int min2_int max_two min_two max_three min_three max_four min_four   -- for this text's walks alone
set_option linter.unusedVariables false
set_option linter.unusedSimpArgs false
mutual
def code_form.j0 : Nat → Int → Int → Int → Bool → Option (Int)
  | 0, _, _, _, _ => none
  | k + 1, x0, x3, x4, x12 => if x12 = true then (some 5) else (if x3 = 3 then (some 1) else (if x3 = 6 then (code_form.j1 k x0 x3 x4 ((Int.tmod x4 8) != 0)) else (code_form.j1 k x0 x3 x4 false)))
def code_form.j1 : Nat → Int → Int → Int → Bool → Option (Int)
  | 0, _, _, _, _ => none
  | k + 1, x0, x3, x4, x22 => if x22 = true then (some 3) else (if x3 = 6 then (some 1) else ((code_immediate.f x0).bind fun t101 => (if t101 = true then (some 4) else (if x3 = 7 then (code_form.j2 k x3 x4 (x3 == 7)) else (code_form.j2 k x3 x4 (x3 == 15))))))
def code_form.j2 : Nat → Int → Int → Bool → Option (Int)
  | 0, _, _, _ => none
  | k + 1, x3, x4, x36 => if x36 = true then (some 1) else (if x3 = 12 then (if x4 < 4 then (code_form.j3 k x3 true) else (if x4 > 8 then (code_form.j3 k x3 (decide (x4 < 12))) else (code_form.j3 k x3 false))) else (code_form.j3 k x3 false))
def code_form.j3 : Nat → Int → Bool → Option (Int)
  | 0, _, _ => none
  | k + 1, x3, x41 => if x41 = true then (some 6) else (if x3 = 12 then (some 1) else (some 2))
end
def code_form.f (k : Nat) (a0 : Int) : Option (Int) := if a0 = 0 then (some 1) else (if (a0 / 16) = 3 then (code_form.j0 k a0 (a0 / 16) (Go.bits .and .u8 a0 15) ((Go.bits .and .u8 a0 15) != 8)) else (code_form.j0 k a0 (a0 / 16) (Go.bits .and .u8 a0 15) false))
theorem code_form.mono_l : ∀ k, (∀ y0 y1 y2 y3, LeO (code_form.j0 k y0 y1 y2 y3) (code_form.j0 (k + 1) y0 y1 y2 y3)) ∧ (∀ y0 y1 y2 y3, LeO (code_form.j1 k y0 y1 y2 y3) (code_form.j1 (k + 1) y0 y1 y2 y3)) ∧ (∀ y0 y1 y2, LeO (code_form.j2 k y0 y1 y2) (code_form.j2 (k + 1) y0 y1 y2)) ∧ (∀ y0 y1, LeO (code_form.j3 k y0 y1) (code_form.j3 (k + 1) y0 y1))
  | 0 => ⟨fun _ _ _ _ r h => by simp [code_form.j0] at h, fun _ _ _ _ r h => by simp [code_form.j1] at h, fun _ _ _ r h => by simp [code_form.j2] at h, fun _ _ r h => by simp [code_form.j3] at h⟩
  | k + 1 => by
    obtain ⟨ih0, ih1, ih2, ih3⟩ := code_form.mono_l k
    refine ⟨?_, ?_, ?_, ?_⟩
    · intro y0 y1 y2 y3
      unfold code_form.j0
      repeat' first
      | (with_reducible exact ih0 _ _ _ _)
      | (with_reducible exact ih1 _ _ _ _)
      | (with_reducible exact ih2 _ _ _)
      | (with_reducible exact ih3 _ _)
      | (with_reducible exact LeO.refl _)
      | (with_reducible exact LeO.none _)
      | (with_reducible refine LeO.ite ?_ ?_)
      | (with_reducible refine LeO.bind ?_ (fun _ => ?_))
      | exact ih0 _ _ _ _
      | exact ih1 _ _ _ _
      | exact ih2 _ _ _
      | exact ih3 _ _
      | exact LeO.none _
      | refine LeO.ite ?_ ?_
      | refine LeO.bind ?_ (fun _ => ?_)
    · intro y0 y1 y2 y3
      unfold code_form.j1
      repeat' first
      | (with_reducible exact ih0 _ _ _ _)
      | (with_reducible exact ih1 _ _ _ _)
      | (with_reducible exact ih2 _ _ _)
      | (with_reducible exact ih3 _ _)
      | (with_reducible exact LeO.refl _)
      | (with_reducible exact LeO.none _)
      | (with_reducible refine LeO.ite ?_ ?_)
      | (with_reducible refine LeO.bind ?_ (fun _ => ?_))
      | exact ih0 _ _ _ _
      | exact ih1 _ _ _ _
      | exact ih2 _ _ _
      | exact ih3 _ _
      | exact LeO.none _
      | refine LeO.ite ?_ ?_
      | refine LeO.bind ?_ (fun _ => ?_)
    · intro y0 y1 y2
      unfold code_form.j2
      repeat' first
      | (with_reducible exact ih0 _ _ _ _)
      | (with_reducible exact ih1 _ _ _ _)
      | (with_reducible exact ih2 _ _ _)
      | (with_reducible exact ih3 _ _)
      | (with_reducible exact LeO.refl _)
      | (with_reducible exact LeO.none _)
      | (with_reducible refine LeO.ite ?_ ?_)
      | (with_reducible refine LeO.bind ?_ (fun _ => ?_))
      | exact ih0 _ _ _ _
      | exact ih1 _ _ _ _
      | exact ih2 _ _ _
      | exact ih3 _ _
      | exact LeO.none _
      | refine LeO.ite ?_ ?_
      | refine LeO.bind ?_ (fun _ => ?_)
    · intro y0 y1
      unfold code_form.j3
      repeat' first
      | (with_reducible exact ih0 _ _ _ _)
      | (with_reducible exact ih1 _ _ _ _)
      | (with_reducible exact ih2 _ _ _)
      | (with_reducible exact ih3 _ _)
      | (with_reducible exact LeO.refl _)
      | (with_reducible exact LeO.none _)
      | (with_reducible refine LeO.ite ?_ ?_)
      | (with_reducible refine LeO.bind ?_ (fun _ => ?_))
      | exact ih0 _ _ _ _
      | exact ih1 _ _ _ _
      | exact ih2 _ _ _
      | exact ih3 _ _
      | exact LeO.none _
      | refine LeO.ite ?_ ?_
      | refine LeO.bind ?_ (fun _ => ?_)
theorem code_form.mono : ∀ a0 k, LeO (code_form.f k a0) (code_form.f (k + 1) a0) := by
  intro a0 k
  obtain ⟨ih0, ih1, ih2, ih3⟩ := code_form.mono_l k
  unfold code_form.f
  repeat' first
      | (with_reducible exact ih0 _ _ _ _)
      | (with_reducible exact ih1 _ _ _ _)
      | (with_reducible exact ih2 _ _ _)
      | (with_reducible exact ih3 _ _)
      | (with_reducible exact LeO.refl _)
      | (with_reducible exact LeO.none _)
      | (with_reducible refine LeO.ite ?_ ?_)
      | (with_reducible refine LeO.bind ?_ (fun _ => ?_))
      | exact ih0 _ _ _ _
      | exact ih1 _ _ _ _
      | exact ih2 _ _ _
      | exact ih3 _ _
      | exact LeO.none _
      | refine LeO.ite ?_ ?_
      | refine LeO.bind ?_ (fun _ => ?_)
set_option maxHeartbeats 8000000 in
set_option maxRecDepth 100000 in
theorem code_form.calls (k : Nat) (a0 : Int) (r : Int) (w : World) (h : code_form.f k a0 = some r) :
    Calls Tryd.prog 124 #[.int .u8 a0] w fun e w' => e = .returned (.int .u8 r) ∧ Drawn0 w w' := by
  have H : (if a0 = 0 then (some 1) else (if (a0 / 16) = 3 then (code_form.j0 k a0 (a0 / 16) (Go.bits .and .u8 a0 15) ((Go.bits .and .u8 a0 15) != 8)) else (code_form.j0 k a0 (a0 / 16) (Go.bits .and .u8 a0 15) false))) = some r := h
  clear h
  by_cases c2 : a0 = 0
  · rw [if_pos c2] at H
    have c2b0 : (a0 == 0) = true := beq_iff_eq.mpr c2
    have c2b1 : (a0 != 0) = false := bne_eq_false_iff_eq.mpr c2
    clear c2
    obtain rfl := Option.some.inj H
    go_enter Tryd.func124, Tryd.ntmps124
    go_wp2
    go_ret
    exact ⟨by first | rfl | (simp; done) | (simp [*]; done), by repeat (first | exact Drawn0.refl _ | apply Drawn0.step)⟩
  · rw [if_neg c2] at H
    have c2b0 : (a0 == 0) = false := beq_eq_false_iff_ne.mpr c2
    have c2b1 : (a0 != 0) = true := bne_iff_ne.mpr c2
    have HC3 := Aside0.mk H
    clear H
    go_enter Tryd.func124, Tryd.ntmps124
    go_upto_region 4 with (fail)
    go_cut [12] (fun v12 wc => ∃ (kq : Nat) (x12_2 : Bool), v12 = .bool x12_2 ∧ Aside0 (code_form.j0 kq a0 (a0 / 16) (Go.bits .and .u8 a0 15) x12_2 = some r) ∧ Aside0 (kq ≤ k) ∧ Drawn0 w wc)
    case first =>
      have H := HC3.out
      clear HC3
      by_cases c4 : (a0 / 16) = 3
      · rw [if_pos c4] at H
        have c4b0 : ((a0 / 16) == 3) = true := beq_iff_eq.mpr c4
        have c4b1 : ((a0 / 16) != 3) = false := bne_eq_false_iff_eq.mpr c4
        clear c4
        (first | rw [c4b0] | (simp only [i64_w, i32_w]; rw [c4b0]) | skip)
        have H' := Aside0.mk H
        clear H
        go_wp2
        go_meet
        case rel => exact ⟨_, (((Go.bits .and .u8 a0 15) != 8)), (by first | rfl | (simp; done) | (simp [*]; done)), H', ⟨by first | omega | exact Nat.le_refl _⟩, by repeat (first | exact Drawn0.refl _ | apply Drawn0.step)⟩
      · rw [if_neg c4] at H
        have c4b0 : ((a0 / 16) == 3) = false := beq_eq_false_iff_ne.mpr c4
        have c4b1 : ((a0 / 16) != 3) = true := bne_iff_ne.mpr c4
        (first | rw [c4b0] | (simp only [i64_w, i32_w]; rw [c4b0]) | skip)
        have H' := Aside0.mk H
        clear H
        go_wp2
        go_meet
        case rel => exact ⟨_, (false), (by first | rfl | (simp; done) | (simp [*]; done)), H', ⟨by first | omega | exact Nat.le_refl _⟩, by repeat (first | exact Drawn0.refl _ | apply Drawn0.step)⟩
    case rest =>
      clear HC3
      try clear c1
      try clear c2
      try clear c2b0
      try clear c2b1
      try clear p2
      try clear c4
      try clear c4b0
      try clear c4b1
      obtain ⟨kq, x12_2, rfl, HA, HJ2, ⟨mc2, rfl⟩⟩ := hcut
      cases kq with
      | zero => exact absurd HA.out (by simp [code_form.j0])
      | succ kj2 =>
        have H := HA.out
        clear HA
        simp only [code_form.j0] at H
        by_cases c5 : x12_2 = true
        · subst c5
          have H1 : (some 5) = some r := by rw [if_pos rfl] at H; exact H
          clear H
          have H := H1
          clear H1
          obtain rfl := Option.some.inj H
          go_wp2
          go_ret
          exact ⟨by first | rfl | (simp; done) | (simp [*]; done), by repeat (first | exact Drawn0.refl _ | apply Drawn0.step)⟩
        · replace c5 := Bool.eq_false_iff.mpr c5
          subst c5
          have H1 : (if (a0 / 16) = 3 then (some 1) else (if (a0 / 16) = 6 then (code_form.j1 kj2 a0 (a0 / 16) (Go.bits .and .u8 a0 15) ((Int.tmod (Go.bits .and .u8 a0 15) 8) != 0)) else (code_form.j1 kj2 a0 (a0 / 16) (Go.bits .and .u8 a0 15) false))) = some r := by rw [if_neg (show ¬ (false = true) by decide)] at H; exact H
          clear H
          have H := H1
          clear H1
          by_cases c6 : (a0 / 16) = 3
          · rw [if_pos c6] at H
            have c6b0 : ((a0 / 16) == 3) = true := beq_iff_eq.mpr c6
            have c6b1 : ((a0 / 16) != 3) = false := bne_eq_false_iff_eq.mpr c6
            clear c6
            obtain rfl := Option.some.inj H
            go_wp2
            go_ret
            exact ⟨by first | rfl | (simp; done) | (simp [*]; done), by repeat (first | exact Drawn0.refl _ | apply Drawn0.step)⟩
          · rw [if_neg c6] at H
            have c6b0 : ((a0 / 16) == 3) = false := beq_eq_false_iff_ne.mpr c6
            have c6b1 : ((a0 / 16) != 3) = true := bne_iff_ne.mpr c6
            have HC7 := Aside0.mk H
            clear H
            go_upto_region 8 with (fail)
            go_cut [22] (fun v22 wc => ∃ (kq : Nat) (x22_6 : Bool), v22 = .bool x22_6 ∧ Aside0 (code_form.j1 kq a0 (a0 / 16) (Go.bits .and .u8 a0 15) x22_6 = some r) ∧ Aside0 (kq ≤ kj2) ∧ Drawn0 w wc)
            case first =>
              have H := HC7.out
              clear HC7
              by_cases c8 : (a0 / 16) = 6
              · rw [if_pos c8] at H
                have c8b0 : ((a0 / 16) == 6) = true := beq_iff_eq.mpr c8
                have c8b1 : ((a0 / 16) != 6) = false := bne_eq_false_iff_eq.mpr c8
                clear c8
                (first | rw [c8b0] | (simp only [i64_w, i32_w]; rw [c8b0]) | skip)
                have H' := Aside0.mk H
                clear H
                go_wp2
                go_meet
                case rel => exact ⟨_, (((Int.tmod (Go.bits .and .u8 a0 15) 8) != 0)), (by first | rfl | (simp; done) | (simp [*]; done)), H', ⟨by have := HJ2.out; first | omega | exact Nat.le_refl _⟩, by repeat (first | exact Drawn0.refl _ | apply Drawn0.step)⟩
              · rw [if_neg c8] at H
                have c8b0 : ((a0 / 16) == 6) = false := beq_eq_false_iff_ne.mpr c8
                have c8b1 : ((a0 / 16) != 6) = true := bne_iff_ne.mpr c8
                (first | rw [c8b0] | (simp only [i64_w, i32_w]; rw [c8b0]) | skip)
                have H' := Aside0.mk H
                clear H
                go_wp2
                go_meet
                case rel => exact ⟨_, (false), (by first | rfl | (simp; done) | (simp [*]; done)), H', ⟨by have := HJ2.out; first | omega | exact Nat.le_refl _⟩, by repeat (first | exact Drawn0.refl _ | apply Drawn0.step)⟩
            case rest =>
              clear HC7
              try clear c1
              try clear c2
              try clear c2b0
              try clear c2b1
              try clear p2
              try clear c4
              try clear c4b0
              try clear c4b1
              try clear c5
              try clear c6
              try clear c6b0
              try clear c6b1
              try clear c8
              try clear c8b0
              try clear c8b1
              try clear p2
              obtain ⟨kq, x22_6, rfl, HA, HJ6, ⟨mc6, rfl⟩⟩ := hcut
              cases kq with
              | zero => exact absurd HA.out (by simp [code_form.j1])
              | succ kj6 =>
                have H := HA.out
                clear HA
                simp only [code_form.j1] at H
                by_cases c9 : x22_6 = true
                · subst c9
                  have H1 : (some 3) = some r := by rw [if_pos rfl] at H; exact H
                  clear H
                  have H := H1
                  clear H1
                  obtain rfl := Option.some.inj H
                  go_wp2
                  go_ret
                  exact ⟨by first | rfl | (simp; done) | (simp [*]; done), by repeat (first | exact Drawn0.refl _ | apply Drawn0.step)⟩
                · replace c9 := Bool.eq_false_iff.mpr c9
                  subst c9
                  have H1 : (if (a0 / 16) = 6 then (some 1) else ((code_immediate.f a0).bind fun t101 => (if t101 = true then (some 4) else (if (a0 / 16) = 7 then (code_form.j2 kj6 (a0 / 16) (Go.bits .and .u8 a0 15) ((a0 / 16) == 7)) else (code_form.j2 kj6 (a0 / 16) (Go.bits .and .u8 a0 15) ((a0 / 16) == 15)))))) = some r := by rw [if_neg (show ¬ (false = true) by decide)] at H; exact H
                  clear H
                  have H := H1
                  clear H1
                  by_cases c10 : (a0 / 16) = 6
                  · rw [if_pos c10] at H
                    have c10b0 : ((a0 / 16) == 6) = true := beq_iff_eq.mpr c10
                    have c10b1 : ((a0 / 16) != 6) = false := bne_eq_false_iff_eq.mpr c10
                    clear c10
                    obtain rfl := Option.some.inj H
                    go_wp2
                    go_ret
                    exact ⟨by first | rfl | (simp; done) | (simp [*]; done), by repeat (first | exact Drawn0.refl _ | apply Drawn0.step)⟩
                  · rw [if_neg c10] at H
                    have c10b0 : ((a0 / 16) == 6) = false := beq_eq_false_iff_ne.mpr c10
                    have c10b1 : ((a0 / 16) != 6) = true := bne_iff_ne.mpr c10
                    replace H := Option.bind_eq_some_iff.mp H
                    obtain ⟨t101, A110, H⟩ := H
                    replace H : (if t101 = true then (some 4) else (if (a0 / 16) = 7 then (code_form.j2 kj6 (a0 / 16) (Go.bits .and .u8 a0 15) ((a0 / 16) == 7)) else (code_form.j2 kj6 (a0 / 16) (Go.bits .and .u8 a0 15) ((a0 / 16) == 15)))) = some r := H
                    have A11 := Aside0.mk A110
                    clear A110
                    by_cases c12 : t101 = true
                    · subst c12
                      have H1 : (some 4) = some r := by rw [if_pos rfl] at H; exact H
                      clear H
                      have H := H1
                      clear H1
                      obtain rfl := Option.some.inj H
                      go_wp2_with (first | ((with_reducible refine gate_callee (f := 157) rfl ?_); refine goesL_ (some 35) rfl rfl Tryd.func157 (by kernel_rfl) rfl #[.int .u8 a0] rfl (by (try simp only [List.map_toArray, List.map_cons, List.map_nil]); first | done | rfl | (simp only [List.length_drop, List.length_take]; rfl)) ?_; (with_reducible refine (code_immediate.calls a0 true _ A11.out).mono ?_); rintro e w' ⟨rfl, ⟨nd, rfl⟩⟩; refine ⟨_, rfl, ?_⟩))
                      go_ret
                      exact ⟨by first | rfl | (simp; done) | (simp [*]; done), by repeat (first | exact Drawn0.refl _ | apply Drawn0.step)⟩
                    · replace c12 := Bool.eq_false_iff.mpr c12
                      subst c12
                      have H1 : (if (a0 / 16) = 7 then (code_form.j2 kj6 (a0 / 16) (Go.bits .and .u8 a0 15) ((a0 / 16) == 7)) else (code_form.j2 kj6 (a0 / 16) (Go.bits .and .u8 a0 15) ((a0 / 16) == 15))) = some r := by rw [if_neg (show ¬ (false = true) by decide)] at H; exact H
                      clear H
                      have H := H1
                      clear H1
                      have HC13 := Aside0.mk H
                      clear H
                      go_upto_if 36 with (first | ((with_reducible refine gate_callee (f := 157) rfl ?_); refine goesL_ (some 35) rfl rfl Tryd.func157 (by kernel_rfl) rfl #[.int .u8 a0] rfl (by (try simp only [List.map_toArray, List.map_cons, List.map_nil]); first | done | rfl | (simp only [List.length_drop, List.length_take]; rfl)) ?_; (with_reducible refine (code_immediate.calls a0 false _ A11.out).mono ?_); rintro e w' ⟨rfl, ⟨nd, rfl⟩⟩; refine ⟨_, rfl, ?_⟩))
                      (try simp only [Act.put, List.setIfInBounds_toArray, List.set_cons_zero, List.set_cons_succ])
                      go_cut [36] (fun v36 wc => ∃ (kq : Nat) (x36_12 : Bool), v36 = .bool x36_12 ∧ Aside0 (code_form.j2 kq (a0 / 16) (Go.bits .and .u8 a0 15) x36_12 = some r) ∧ Aside0 (kq ≤ kj6) ∧ Drawn0 w wc)
                      case first =>
                        have H := HC13.out
                        clear HC13
                        by_cases c14 : (a0 / 16) = 7
                        · rw [if_pos c14] at H
                          have c14b0 : ((a0 / 16) == 7) = true := beq_iff_eq.mpr c14
                          have c14b1 : ((a0 / 16) != 7) = false := bne_eq_false_iff_eq.mpr c14
                          clear c14
                          (first | rw [c14b0] | (simp only [i64_w, i32_w]; rw [c14b0]) | skip)
                          have H' := Aside0.mk H
                          clear H
                          go_wp2
                          go_meet
                          case rel => exact ⟨_, (((a0 / 16) == 7)), (by first | rfl | (simp; done) | (simp [*]; done)), H', ⟨by have := HJ2.out; have := HJ6.out; first | omega | exact Nat.le_refl _⟩, by repeat (first | exact Drawn0.refl _ | apply Drawn0.step)⟩
                        · rw [if_neg c14] at H
                          have c14b0 : ((a0 / 16) == 7) = false := beq_eq_false_iff_ne.mpr c14
                          have c14b1 : ((a0 / 16) != 7) = true := bne_iff_ne.mpr c14
                          (first | rw [c14b0] | (simp only [i64_w, i32_w]; rw [c14b0]) | skip)
                          have H' := Aside0.mk H
                          clear H
                          go_wp2
                          go_meet
                          case rel => exact ⟨_, (((a0 / 16) == 15)), (by first | rfl | (simp; done) | (simp [*]; done)), H', ⟨by have := HJ2.out; have := HJ6.out; first | omega | exact Nat.le_refl _⟩, by repeat (first | exact Drawn0.refl _ | apply Drawn0.step)⟩
                      case rest =>
                        clear HC13
                        try clear c1
                        try clear c2
                        try clear c2b0
                        try clear c2b1
                        try clear p2
                        try clear c4
                        try clear c4b0
                        try clear c4b1
                        try clear c5
                        try clear c6
                        try clear c6b0
                        try clear c6b1
                        try clear c8
                        try clear c8b0
                        try clear c8b1
                        try clear c9
                        try clear c10
                        try clear c10b0
                        try clear c10b1
                        try clear c12
                        try clear c14
                        try clear c14b0
                        try clear c14b1
                        try clear p2
                        obtain ⟨kq, x36_12, rfl, HA, HJ12, ⟨mc12, rfl⟩⟩ := hcut
                        cases kq with
                        | zero => exact absurd HA.out (by simp [code_form.j2])
                        | succ kj12 =>
                          have H := HA.out
                          clear HA
                          simp only [code_form.j2] at H
                          by_cases c15 : x36_12 = true
                          · subst c15
                            have H1 : (some 1) = some r := by rw [if_pos rfl] at H; exact H
                            clear H
                            have H := H1
                            clear H1
                            obtain rfl := Option.some.inj H
                            go_wp2
                            go_ret
                            exact ⟨by first | rfl | (simp; done) | (simp [*]; done), by repeat (first | exact Drawn0.refl _ | apply Drawn0.step)⟩
                          · replace c15 := Bool.eq_false_iff.mpr c15
                            subst c15
                            have H1 : (if (a0 / 16) = 12 then (if (Go.bits .and .u8 a0 15) < 4 then (code_form.j3 kj12 (a0 / 16) true) else (if (Go.bits .and .u8 a0 15) > 8 then (code_form.j3 kj12 (a0 / 16) (decide ((Go.bits .and .u8 a0 15) < 12))) else (code_form.j3 kj12 (a0 / 16) false))) else (code_form.j3 kj12 (a0 / 16) false)) = some r := by rw [if_neg (show ¬ (false = true) by decide)] at H; exact H
                            clear H
                            have H := H1
                            clear H1
                            have HC16 := Aside0.mk H
                            clear H
                            go_upto_region 17 with (fail)
                            go_cut [41] (fun v41 wc => ∃ (kq : Nat) (x41_15 : Bool), v41 = .bool x41_15 ∧ Aside0 (code_form.j3 kq (a0 / 16) x41_15 = some r) ∧ Aside0 (kq ≤ kj12) ∧ Drawn0 w wc)
                            case first =>
                              have H := HC16.out
                              clear HC16
                              by_cases c17 : (a0 / 16) = 12
                              · rw [if_pos c17] at H
                                have c17b0 : ((a0 / 16) == 12) = true := beq_iff_eq.mpr c17
                                have c17b1 : ((a0 / 16) != 12) = false := bne_eq_false_iff_eq.mpr c17
                                clear c17
                                (first | rw [c17b0] | (simp only [i64_w, i32_w]; rw [c17b0]) | skip)
                                by_cases c18 : (Go.bits .and .u8 a0 15) < 4
                                · rw [if_pos c18] at H
                                  have c18b0 : decide ((Go.bits .and .u8 a0 15) < 4) = true := decide_eq_true c18
                                  clear c18
                                  have H' := Aside0.mk H
                                  clear H
                                  go_wp2
                                  go_meet
                                  case rel => exact ⟨_, (true), (by first | rfl | (simp; done) | (simp [*]; done)), H', ⟨by have := HJ2.out; have := HJ6.out; have := HJ12.out; first | omega | exact Nat.le_refl _⟩, by repeat (first | exact Drawn0.refl _ | apply Drawn0.step)⟩
                                · rw [if_neg c18] at H
                                  have c18b0 : decide ((Go.bits .and .u8 a0 15) < 4) = false := decide_eq_false c18
                                  clear c18
                                  by_cases c19 : (Go.bits .and .u8 a0 15) > 8
                                  · rw [if_pos c19] at H
                                    have c19b0 : decide (8 < (Go.bits .and .u8 a0 15)) = true := decide_eq_true c19
                                    clear c19
                                    have H' := Aside0.mk H
                                    clear H
                                    go_wp2
                                    go_meet
                                    case rel => exact ⟨_, (decide ((Go.bits .and .u8 a0 15) < 12)), (by first | rfl | (simp; done) | (simp [*]; done)), H', ⟨by have := HJ2.out; have := HJ6.out; have := HJ12.out; first | omega | exact Nat.le_refl _⟩, by repeat (first | exact Drawn0.refl _ | apply Drawn0.step)⟩
                                  · rw [if_neg c19] at H
                                    have c19b0 : decide (8 < (Go.bits .and .u8 a0 15)) = false := decide_eq_false c19
                                    clear c19
                                    have H' := Aside0.mk H
                                    clear H
                                    go_wp2
                                    go_meet
                                    case rel => exact ⟨_, (false), (by first | rfl | (simp; done) | (simp [*]; done)), H', ⟨by have := HJ2.out; have := HJ6.out; have := HJ12.out; first | omega | exact Nat.le_refl _⟩, by repeat (first | exact Drawn0.refl _ | apply Drawn0.step)⟩
                              · rw [if_neg c17] at H
                                have c17b0 : ((a0 / 16) == 12) = false := beq_eq_false_iff_ne.mpr c17
                                have c17b1 : ((a0 / 16) != 12) = true := bne_iff_ne.mpr c17
                                (first | rw [c17b0] | (simp only [i64_w, i32_w]; rw [c17b0]) | skip)
                                have H' := Aside0.mk H
                                clear H
                                go_wp2
                                go_meet
                                case rel => exact ⟨_, (false), (by first | rfl | (simp; done) | (simp [*]; done)), H', ⟨by have := HJ2.out; have := HJ6.out; have := HJ12.out; first | omega | exact Nat.le_refl _⟩, by repeat (first | exact Drawn0.refl _ | apply Drawn0.step)⟩
                            case rest =>
                              clear HC16
                              try clear c1
                              try clear c2
                              try clear c2b0
                              try clear c2b1
                              try clear p2
                              try clear c4
                              try clear c4b0
                              try clear c4b1
                              try clear c5
                              try clear c6
                              try clear c6b0
                              try clear c6b1
                              try clear c8
                              try clear c8b0
                              try clear c8b1
                              try clear c9
                              try clear c10
                              try clear c10b0
                              try clear c10b1
                              try clear c12
                              try clear c14
                              try clear c14b0
                              try clear c14b1
                              try clear c15
                              try clear c17
                              try clear c17b0
                              try clear c17b1
                              try clear c18
                              try clear c18b0
                              try clear c19
                              try clear c19b0
                              try clear p2
                              obtain ⟨kq, x41_15, rfl, HA, HJ15, ⟨mc15, rfl⟩⟩ := hcut
                              cases kq with
                              | zero => exact absurd HA.out (by simp [code_form.j3])
                              | succ kj15 =>
                                have H := HA.out
                                clear HA
                                simp only [code_form.j3] at H
                                by_cases c20 : x41_15 = true
                                · subst c20
                                  have H1 : (some 6) = some r := by rw [if_pos rfl] at H; exact H
                                  clear H
                                  have H := H1
                                  clear H1
                                  obtain rfl := Option.some.inj H
                                  go_wp2
                                  go_ret
                                  exact ⟨by first | rfl | (simp; done) | (simp [*]; done), by repeat (first | exact Drawn0.refl _ | apply Drawn0.step)⟩
                                · replace c20 := Bool.eq_false_iff.mpr c20
                                  subst c20
                                  have H1 : (if (a0 / 16) = 12 then (some 1) else (some 2)) = some r := by rw [if_neg (show ¬ (false = true) by decide)] at H; exact H
                                  clear H
                                  have H := H1
                                  clear H1
                                  by_cases c21 : (a0 / 16) = 12
                                  · rw [if_pos c21] at H
                                    have c21b0 : ((a0 / 16) == 12) = true := beq_iff_eq.mpr c21
                                    have c21b1 : ((a0 / 16) != 12) = false := bne_eq_false_iff_eq.mpr c21
                                    clear c21
                                    obtain rfl := Option.some.inj H
                                    go_wp2
                                    go_ret
                                    exact ⟨by first | rfl | (simp; done) | (simp [*]; done), by repeat (first | exact Drawn0.refl _ | apply Drawn0.step)⟩
                                  · rw [if_neg c21] at H
                                    have c21b0 : ((a0 / 16) == 12) = false := beq_eq_false_iff_ne.mpr c21
                                    have c21b1 : ((a0 / 16) != 12) = true := bne_iff_ne.mpr c21
                                    obtain rfl := Option.some.inj H
                                    go_wp2
                                    go_ret
                                    exact ⟨by first | rfl | (simp; done) | (simp [*]; done), by repeat (first | exact Drawn0.refl _ | apply Drawn0.step)⟩
end Go.Proofs.YthnafgffanlnfaaDoor.PSrc
namespace Go.Proofs.YthnafgffanlnfaaDoor.PSrc
open Go.RowKit Go.Proofs.YthnafgffanlnfaaDoorW.PrintWords Go.Proofs.YthnafgffanlnfaaDoorW.PrintLast Go.Proofs.YthnafgffanlnfaaDoorW.PrintMore
attribute [local go_sem] max2_int min2_int max_two min_two max_three min_three max_four min_four   -- for this text's walks alone
set_option linter.unusedVariables false
set_option linter.unusedSimpArgs false
def code_long.f (a0 : Int) : Option (Bool) := some ((a0 / 16) == 12)
set_option maxHeartbeats 8000000 in
set_option maxRecDepth 100000 in
theorem code_long.calls (a0 : Int) (r : Bool) (w : World) (h : code_long.f a0 = some r) :
    Calls Tryd.prog 125 #[.int .u8 a0] w fun e w' => e = .returned (.bool r) ∧ Drawn0 w w' := by
  have H : (some ((a0 / 16) == 12)) = some r := h
  clear h
  obtain rfl := Option.some.inj H
  go_enter Tryd.func125, Tryd.ntmps125
  go_wp2
  go_ret
  exact ⟨by first | rfl | (simp; done) | (simp [*]; done), by repeat (first | exact Drawn0.refl _ | apply Drawn0.step)⟩
end Go.Proofs.YthnafgffanlnfaaDoor.PSrc
namespace Go.Proofs.YthnafgffanlnfaaDoor.PSrc
open Go.RowKit Go.Proofs.YthnafgffanlnfaaDoorW.PrintWords Go.Proofs.YthnafgffanlnfaaDoorW.PrintLast Go.Proofs.YthnafgffanlnfaaDoorW.PrintMore
attribute [local go_sem] max2_int min2_int max_two min_two max_three min_three max_four min_four   -- for this text's walks alone
set_option linter.unusedVariables false
set_option linter.unusedSimpArgs false
def code_Info.f (k : Nat) (a0 : Int) : Option (ByteArray × Int × Int × Int) := (code_form.f k a0).bind fun t102 => ((code_name.f a0).bind fun t103 => (if 0 ≤ t102 then (if t102 < 7 then ((code_long.f a0).bind fun t106 => (if t106 = true then (some (t103, t102, rd lengthsT t102, 3)) else (some (t103, t102, rd lengthsT t102, 2)))) else (none)) else (none)))
theorem code_Info.mono : ∀ a0 k, LeO (code_Info.f k a0) (code_Info.f (k + 1) a0) := by
  intro a0 k
  unfold code_Info.f
  repeat' first
      | (with_reducible exact code_form.mono _ _)
      | (with_reducible exact LeO.refl _)
      | (with_reducible exact LeO.none _)
      | (with_reducible refine LeO.ite ?_ ?_)
      | (with_reducible refine LeO.bind ?_ (fun _ => ?_))
      | exact code_form.mono _ _
      | exact LeO.none _
      | refine LeO.ite ?_ ?_
      | refine LeO.bind ?_ (fun _ => ?_)
def code_Info.T2 : Bool × List (List Nat × List Nat) := (true, [([], []), ([0], [0]), ([], []), ([], []), ([3], [3]), ([4], [4]), ([1, 2, 5], [1, 2, 5]), ([], []), ([7, 6, 1, 0, 1, 2, 3, 4, 5, 6, 7], [6, 7])])
def code_Info.B2 : List Nat := [0, 1, 0, 0, 8, 24, 63, 0, 255]
theorem code_Info.tab2 : rtab .any (opsOf Tryd.f98 2) = code_Info.T2 := by kernel_rfl
theorem code_Info.bits2 : waitsOk code_Info.T2.2 code_Info.B2 = true := by kernel_rfl
set_option maxHeartbeats 8000000 in
set_option maxRecDepth 100000 in
theorem code_Info.calls (k : Nat) (a0 : Int) (r1 : ByteArray) (r2 : Int) (r3 : Int) (r4 : Int) (w : World) (HG0 : Gl w) (h : code_Info.f k a0 = some (r1, r2, r3, r4)) :
    Calls Tryd.prog 98 #[.int .u8 a0] w fun e w' => e = .returned (.agg #[.string r1, .int .u8 r2, .int .i64 r3, .int .i64 r4]) ∧ Below w.heap.size w w' := by
  have hu114 := Tryd.underlying114
  have HG := Aside0.mk HG0
  clear HG0
  have HRt1 := Aside0.mk (kd_lengths HG.out)
  have HCt1 := Aside0.mk (Nat.le_refl 7)
  have HB := Aside0.mk (Below.refl w.heap.size w)
  have H : ((code_form.f k a0).bind fun t102 => ((code_name.f a0).bind fun t103 => (if 0 ≤ t102 then (if t102 < 7 then ((code_long.f a0).bind fun t106 => (if t106 = true then (some (t103, t102, rd lengthsT t102, 3)) else (some (t103, t102, rd lengthsT t102, 2)))) else (none)) else (none)))) = some (r1, r2, r3, r4) := h
  clear h
  obtain ⟨tTab1, hTab1⟩ : ∃ l_, l_ = lengthsT := ⟨_, rfl⟩
  (try simp only [← hTab1] at H)
  rw [← hTab1] at HRt1
  have HTab1 := Aside0.mk hTab1
  clear hTab1
  replace H := Option.bind_eq_some_iff.mp H
  obtain ⟨t102, A20, H⟩ := H
  replace H : ((code_name.f a0).bind fun t103 => (if 0 ≤ t102 then (if t102 < 7 then ((code_long.f a0).bind fun t106 => (if t106 = true then (some (t103, t102, rd tTab1 t102, 3)) else (some (t103, t102, rd tTab1 t102, 2)))) else (none)) else (none))) = some (r1, r2, r3, r4) := H
  have A2 := Aside0.mk A20
  clear A20
  replace H := Option.bind_eq_some_iff.mp H
  obtain ⟨t103, A30, H⟩ := H
  replace H : (if 0 ≤ t102 then (if t102 < 7 then ((code_long.f a0).bind fun t106 => (if t106 = true then (some (t103, t102, rd tTab1 t102, 3)) else (some (t103, t102, rd tTab1 t102, 2)))) else (none)) else (none)) = some (r1, r2, r3, r4) := H
  have A3 := Aside0.mk A30
  clear A30
  by_cases c4 : 0 ≤ t102
  · rw [if_pos c4] at H
    have c4b0 : decide (0 ≤ t102) = true := decide_eq_true c4
    clear c4
    by_cases c5 : t102 < 7
    · rw [if_pos c5] at H
      have c5b0 : decide (t102 < 7) = true := decide_eq_true c5
      clear c5
      replace H := Option.bind_eq_some_iff.mp H
      obtain ⟨t106, A60, H⟩ := H
      replace H : (if t106 = true then (some (t103, t102, rd tTab1 t102, 3)) else (some (t103, t102, rd tTab1 t102, 2))) = some (r1, r2, r3, r4) := H
      have A6 := Aside0.mk A60
      clear A60
      by_cases c7 : t106 = true
      · subst c7
        have H1 : (some (t103, t102, rd tTab1 t102, 3)) = some (r1, r2, r3, r4) := by rw [if_pos rfl] at H; exact H
        clear H
        have H := H1
        clear H1
        simp only [Option.some.injEq, Prod.mk.injEq] at H
        obtain ⟨rfl, rfl, rfl, rfl⟩ := H
        go_enter Tryd.func98, Tryd.ntmps98
        try go_wp2_with (first | ((with_reducible refine gate_dst (N := 2) rfl ?_); refine box_event ?hg (N := 2) ?hd (cs := #[.string (⟨#[]⟩ : ByteArray), .int .u8 0, .int .i64 0, .int .i64 0]) (t := 114) ?hr ?_; (case hd => rfl); (case hg => rfl); (case hr => first | (go_simp; done) | (go_simp; rfl)); intro gb101 hg w8 hbox hb; have n0_ := Aside0.mk (below_step (by repeat (first | (with_reducible first | exact HB.out | apply below_alloc | apply pw_below_drewN | apply below_drew1) | exact HB.out)) hb); have n1_ := Aside0.mk (hbox); have n2_ := Aside0.mk ((by rw [hg]; exact (below_size (by repeat (first | (with_reducible first | exact HB.out | apply below_alloc | apply pw_below_drewN | apply below_drew1) | exact HB.out))) : w.heap.size ≤ gb101)); have n3_ := Aside0.mk ((by rw [hg]; exact (below_size (by repeat (first | (with_reducible first | exact HB.out | apply below_alloc | apply pw_below_drewN | apply below_drew1) | exact HB.out))) : w.heap.size ≤ gb101)); clear HB; have HB := n0_; have BK101 := n1_; have GW101 := n2_; have GE101 := n3_; clear n0_ n1_ n2_ n3_; clear hb hbox hg) | ((with_reducible refine gate_callee (f := 124) rfl ?_); refine goesL_ (some 6) rfl rfl Tryd.func124 (by kernel_rfl) rfl #[.int .u8 a0] rfl (by (try simp only [List.map_toArray, List.map_cons, List.map_nil]); first | done | rfl | (simp only [List.length_drop, List.length_take]; rfl)) ?_; (with_reducible refine (code_form.calls k a0 t102 _ A2.out).mono ?_); rintro e w' ⟨rfl, ⟨nd, rfl⟩⟩; refine ⟨_, rfl, ?_⟩; (try (rw [drewN_self w8]; generalize hq_ : World.drewN w8 _ = w8; have n0_ : Aside0 (w8.heap[gb101]? = some (.cells #[.string (⟨#[]⟩ : ByteArray), .int .u8 0, .int .i64 0, .int .i64 0] 114 (0, 0))) := ⟨by rw [← hq_]; exact (by (with_reducible repeat (first | refine blk_drewN ?_ _ | refine blk_drew ?_ | refine blk_alloc ?_ _)); exact BK101.out)⟩; have n1_ : Aside0 (Below w.heap.size w w8) := ⟨by rw [← hq_]; exact (by repeat (first | (with_reducible first | exact HB.out | apply below_alloc | apply pw_below_drewN | apply below_drew1 | refine below_set ?_ GE101.out) | exact HB.out))⟩; clear BK101 HB hq_; have BK101 := n0_; have HB := n1_; clear n0_ n1_))))
        have n0_ := Aside0.mk (blk_drew BK101.out)
        have n1_ := Aside0.mk (below_drew1 HB.out)
        clear BK101
        clear HB
        have BK101 := n0_
        have HB := n1_
        clear n0_ n1_
        have p104 : 0 ≤ (t102 : Int) := of_decide_eq_true (by first | (with_reducible assumption) | assumption)
        have q104 : (t102 : Int) < 7 := of_decide_eq_true (by first | (with_reducible assumption) | assumption)
        obtain ⟨ad104, e104, hx104_0⟩ := Kd.at_int HRt1.out t102 p104 q104
        obtain rfl : (⟨1, 0, none⟩ : Addr) = ad104 := (by injection e104)
        (first | simp only [add_plain] at hx104_0 | simp only [add_at] at hx104_0 | simp only [Addr.add, Nat.zero_add] at hx104_0 | skip)
        have hw104_0 := hx104_0
        replace hx104_0 := (HB.out.cell (World.block_lt_of_cell? w _ hx104_0)).trans hx104_0
        replace p104 := eq_true p104
        replace q104 := eq_true q104
        refine start_ (n := 9) (S := fun w' => w'.cell? ⟨1, (t102).toNat, none⟩ = some (.int .i64 (rd tTab1 t102))) (ds := []) #[false, false, false, false, false, false, false, false, false] (by kernel_rfl) rfl rfl (((HB.out.cell (World.block_lt_of_cell? w _ hw104_0)).trans hw104_0)) (fun hHeld => ?_); refine with_tabW code_Info.tab2 code_Info.bits2 (fun HT_ HW_ => ?_)
        generalize w8.drew = w9 at BK101 HB hx104_0 hHeld ⊢
        refine pure_ (i := 0) (N := some 7) (v := ?_) (a' := ?_) #[true, false, false, false, false, false, false, false, false] rfl rfl (any_of HT_.out (by kernel_rfl)) (fun _ _ _ h => h) (Or.inl ⟨by rfl, ?_⟩) ?_ ?_
        rotate_left
        · intro w'
          go_simp
          with_reducible rfl
        rotate_left
        · simp only [Act.put, List.setIfInBounds_toArray, List.set_cons_zero, List.set_cons_succ, i64_w, i32_w]
          rfl
        refine pure_ (i := 2) (N := some 9) (v := ?_) (a' := ?_) #[true, false, true, false, false, false, false, false, false] rfl rfl (any_of HT_.out (by kernel_rfl)) (fun _ _ _ h => h) (Or.inl ⟨by rfl, ?_⟩) ?_ ?_
        rotate_left
        · intro w'
          go_simp
          with_reducible rfl
        rotate_left
        · simp only [Act.put, List.setIfInBounds_toArray, List.set_cons_zero, List.set_cons_succ, i64_w, i32_w]
          rfl
        refine pure_ (i := 3) (N := some 10) (v := ?_) (a' := ?_) #[true, false, true, true, false, false, false, false, false] rfl rfl (any_of HT_.out (by kernel_rfl)) (fun _ _ _ h => h) (Or.inl ⟨by rfl, ?_⟩) ?_ ?_
        rotate_left
        · intro w'
          go_simp
          with_reducible rfl
        rotate_left
        · simp only [Act.put, List.setIfInBounds_toArray, List.set_cons_zero, List.set_cons_succ, i64_w, i32_w]
          rfl
        refine pure_ (i := 4) (N := some 11) (v := ?_) (a' := ?_) #[true, false, true, true, true, false, false, false, false] rfl rfl (any_of HT_.out (by kernel_rfl)) (fun _ _ _ h => h) (Or.inl ⟨by rfl, ?_⟩) ?_ ?_
        rotate_left
        · intro w'
          go_simp
          with_reducible rfl
        rotate_left
        · simp only [Act.put, List.setIfInBounds_toArray, List.set_cons_zero, List.set_cons_succ, i64_w, i32_w]
          rfl
        refine take_ (i := 5) (N := some 12) (v := ?_) (a' := ?_) #[true, false, true, true, true, true, false, false, false] rfl rfl (take_ofW HT_.out HW_.out (by kernel_rfl)) (fun _ _ _ h => h) (Or.inl ⟨by rfl, ?_⟩) hHeld ?_ ?_
        rotate_left
        · intro w' s0
          go_simp
          with_reducible rfl
        rotate_left
        · simp only [Act.put, List.setIfInBounds_toArray, List.set_cons_zero, List.set_cons_succ, i64_w, i32_w]
          rfl
        refine join_ (σ := Nat) 1 #[true, true, true, true, true, true, true, true, false] (fun s_ => [(8, .string t103), (4, .pointer (some ⟨s_, 0, none⟩)), (13, .agg #[.string t103, .int .u8 t102, .int .i64 (rd tTab1 t102), .int .i64 2])]) (fun s_ w' => (w'.cell? ⟨1, (t102).toNat, none⟩ = some (.int .i64 (rd tTab1 t102))) ∧ (w'.heap[gb101]? = some (.cells #[.string (⟨#[]⟩ : ByteArray), .int .u8 0, .int .i64 0, .int .i64 0] 114 (0, 0))) ∧ (w'.heap[s_]? = some (.cells #[.string (⟨#[]⟩ : ByteArray), .int .u8 0, .int .i64 0, .int .i64 0] 114 (0, 0))) ∧ (w.heap.size ≤ s_) ∧ (w.heap.size ≤ s_) ∧ (gb101 ≠ s_) ∧ (s_ ≠ gb101) ∧ (Below w.heap.size w w')) ?_ ?_
        rotate_left
        · intro hCont
          refine two_ (i := 1) (j := 7) (Ni := some 8) (Nj := some 4) #[true, true, true, true, true, true, false, false, false] #[true, false, true, true, true, true, false, true, false] rfl rfl rfl rfl (two_of HT_.out (by kernel_rfl)) (by decide) (by decide) (fun K hK => ?_) (fun K hK => ?_)
          · skip
            refine goes_ Tryd.func123 (by kernel_rfl) rfl #[.int .u8 a0] (by rfl) rfl rfl (by (try simp only [List.map_toArray, List.map_cons, List.map_nil]); first | done | rfl | (simp only [List.length_drop, List.length_take]; rfl)) ?_
            with_reducible refine (code_name.calls a0 t103 _ ?side1 A3.out).mono ?_
            (case side1 => first | (with_reducible exact HG.out) | (with_reducible exact (HG.out).below HB.out) | (with_reducible exact (HG.out).same World.heap_drewN) | (refine (HG.out).below ?_; (repeat (first | (with_reducible first | exact HB.out | apply below_alloc | apply pw_below_drewN | apply below_drew1 | refine below_set ?_ GE101.out) | exact HB.out)); done) | exact (HG.out).same rfl)
            rintro e w' ⟨rfl, ⟨nd, rfl⟩⟩
            refine ⟨_, rfl, ?_⟩
            refine hK.out _ _ (((HB.out.cell (World.block_lt_of_cell? w _ hw104_0)).trans hw104_0)) (fun hHeld => ?_)
            clear hK K
            refine norm_ (a' := ?_) ?_ ?_
            rotate_left
            · show Act.put _ (some 8) _ = _
              simp only [Act.put, List.setIfInBounds_toArray, List.set_cons_zero, List.set_cons_succ, i64_w, i32_w]
              rfl
            refine pure_ (i := 6) (N := some 13) (v := ?_) (a' := ?_) #[true, true, true, true, true, true, true, false, false] rfl rfl (any_of HT_.out (by kernel_rfl)) (fun _ _ _ h => h) (Or.inl ⟨by rfl, ?_⟩) ?_ ?_
            rotate_left
            · intro w'
              go_simp
              with_reducible rfl
            rotate_left
            · simp only [Act.put, List.setIfInBounds_toArray, List.set_cons_zero, List.set_cons_succ, i64_w, i32_w]
              rfl
            refine one_ (i := 7) (N := some 4) #[true, true, true, true, true, true, true, true, false] rfl rfl (one_of HT_.out (by kernel_rfl)) (by decide) (fun K hK => ?_)
            refine box_step ?hg (N := 4) ?hd (cs := #[.string (⟨#[]⟩ : ByteArray), .int .u8 0, .int .i64 0, .int .i64 0]) (t := 114) ?hr ?_; (case hd => rfl); (case hg => rfl); (case hr => first | (go_simp; done) | (go_simp; rfl))
            intro gb105 hg w10 hbox hb
            have n0_ := Aside0.mk (blk_below (g := gb101) (o := .cells #[.string (⟨#[]⟩ : ByteArray), .int .u8 0, .int .i64 0, .int .i64 0] 114 (0, 0)) (by (with_reducible repeat (first | refine blk_drewN ?_ _ | refine blk_drew ?_ | refine blk_alloc ?_ _)); exact BK101.out) hb)
            have n1_ := Aside0.mk (below_step (by repeat (first | (with_reducible first | exact HB.out | apply below_alloc | apply pw_below_drewN | apply below_drew1 | refine below_set ?_ GE101.out) | exact HB.out)) hb)
            have n2_ := Aside0.mk (hbox)
            have n3_ := Aside0.mk ((by rw [hg]; exact (below_size (by repeat (first | (with_reducible first | exact HB.out | apply below_alloc | apply pw_below_drewN | apply below_drew1 | refine below_set ?_ GE101.out) | exact HB.out))) : w.heap.size ≤ gb105))
            have n4_ := Aside0.mk ((by rw [hg]; exact (below_size (by repeat (first | (with_reducible first | exact HB.out | apply below_alloc | apply pw_below_drewN | apply below_drew1 | refine below_set ?_ GE101.out) | exact HB.out))) : w.heap.size ≤ gb105))
            have n5_ := Aside0.mk ((by rw [hg]; exact Nat.ne_of_lt (blk_lt (g := gb101) (o := .cells #[.string (⟨#[]⟩ : ByteArray), .int .u8 0, .int .i64 0, .int .i64 0] 114 (0, 0)) (by (with_reducible repeat (first | refine blk_drewN ?_ _ | refine blk_drew ?_ | refine blk_alloc ?_ _)); exact BK101.out)) : gb101 ≠ gb105))
            have n6_ := Aside0.mk ((by rw [hg]; exact Nat.ne_of_gt (blk_lt (g := gb101) (o := .cells #[.string (⟨#[]⟩ : ByteArray), .int .u8 0, .int .i64 0, .int .i64 0] 114 (0, 0)) (by (with_reducible repeat (first | refine blk_drewN ?_ _ | refine blk_drew ?_ | refine blk_alloc ?_ _)); exact BK101.out)) : gb105 ≠ gb101))
            clear BK101
            clear HB
            have BK101 := n0_
            have HB := n1_
            have BK105 := n2_
            have GW105 := n3_
            have GE105 := n4_
            have NB101_105 := n5_
            have NB105_101 := n6_
            clear n0_ n1_ n2_ n3_ n4_ n5_ n6_
            clear hb hbox hg
            refine hK.out _ _ (((HB.out.cell (World.block_lt_of_cell? w _ hw104_0)).trans hw104_0)) (fun hHeld => ?_)
            clear hK K
            refine norm_ (a' := ?_) ?_ ?_
            rotate_left
            · show Act.put _ (some 4) _ = _
              simp only [Act.put, List.setIfInBounds_toArray, List.set_cons_zero, List.set_cons_succ, i64_w, i32_w]
              rfl
            exact norm_ (by simp only [putAll, Act.put, List.setIfInBounds_toArray, List.set_cons_zero, List.set_cons_succ]) (hCont (gb105) _ ⟨hHeld, (by (with_reducible repeat (first | refine blk_drewN ?_ _ | refine blk_drew ?_ | refine blk_alloc ?_ _)); exact BK101.out), (by (with_reducible repeat (first | refine blk_drewN ?_ _ | refine blk_drew ?_ | refine blk_alloc ?_ _)); exact BK105.out), GW105.out, GE105.out, NB101_105.out, NB105_101.out, (by repeat (first | (with_reducible first | exact HB.out | apply below_alloc | apply pw_below_drewN | apply below_drew1 | refine below_set ?_ GE101.out | refine below_set ?_ GE105.out) | exact HB.out))⟩)
          · skip
            refine box_step ?hg (N := 4) ?hd (cs := #[.string (⟨#[]⟩ : ByteArray), .int .u8 0, .int .i64 0, .int .i64 0]) (t := 114) ?hr ?_; (case hd => rfl); (case hg => rfl); (case hr => first | (go_simp; done) | (go_simp; rfl))
            intro gb105 hg w10 hbox hb
            have n0_ := Aside0.mk (blk_below (g := gb101) (o := .cells #[.string (⟨#[]⟩ : ByteArray), .int .u8 0, .int .i64 0, .int .i64 0] 114 (0, 0)) (by (with_reducible repeat (first | refine blk_drewN ?_ _ | refine blk_drew ?_ | refine blk_alloc ?_ _)); exact BK101.out) hb)
            have n1_ := Aside0.mk (below_step (by repeat (first | (with_reducible first | exact HB.out | apply below_alloc | apply pw_below_drewN | apply below_drew1 | refine below_set ?_ GE101.out) | exact HB.out)) hb)
            have n2_ := Aside0.mk (hbox)
            have n3_ := Aside0.mk ((by rw [hg]; exact (below_size (by repeat (first | (with_reducible first | exact HB.out | apply below_alloc | apply pw_below_drewN | apply below_drew1 | refine below_set ?_ GE101.out) | exact HB.out))) : w.heap.size ≤ gb105))
            have n4_ := Aside0.mk ((by rw [hg]; exact (below_size (by repeat (first | (with_reducible first | exact HB.out | apply below_alloc | apply pw_below_drewN | apply below_drew1 | refine below_set ?_ GE101.out) | exact HB.out))) : w.heap.size ≤ gb105))
            have n5_ := Aside0.mk ((by rw [hg]; exact Nat.ne_of_lt (blk_lt (g := gb101) (o := .cells #[.string (⟨#[]⟩ : ByteArray), .int .u8 0, .int .i64 0, .int .i64 0] 114 (0, 0)) (by (with_reducible repeat (first | refine blk_drewN ?_ _ | refine blk_drew ?_ | refine blk_alloc ?_ _)); exact BK101.out)) : gb101 ≠ gb105))
            have n6_ := Aside0.mk ((by rw [hg]; exact Nat.ne_of_gt (blk_lt (g := gb101) (o := .cells #[.string (⟨#[]⟩ : ByteArray), .int .u8 0, .int .i64 0, .int .i64 0] 114 (0, 0)) (by (with_reducible repeat (first | refine blk_drewN ?_ _ | refine blk_drew ?_ | refine blk_alloc ?_ _)); exact BK101.out)) : gb105 ≠ gb101))
            clear BK101
            clear HB
            have BK101 := n0_
            have HB := n1_
            have BK105 := n2_
            have GW105 := n3_
            have GE105 := n4_
            have NB101_105 := n5_
            have NB105_101 := n6_
            clear n0_ n1_ n2_ n3_ n4_ n5_ n6_
            clear hb hbox hg
            refine hK.out _ _ (((HB.out.cell (World.block_lt_of_cell? w _ hw104_0)).trans hw104_0)) (fun hHeld => ?_)
            clear hK K
            refine norm_ (a' := ?_) ?_ ?_
            rotate_left
            · show Act.put _ (some 4) _ = _
              simp only [Act.put, List.setIfInBounds_toArray, List.set_cons_zero, List.set_cons_succ, i64_w, i32_w]
              rfl
            refine one_ (i := 1) (N := some 8) #[true, true, true, true, true, true, false, true, false] rfl rfl (one_of HT_.out (by kernel_rfl)) (by decide) (fun K hK => ?_)
            refine goes_ Tryd.func123 (by kernel_rfl) rfl #[.int .u8 a0] (by rfl) rfl rfl (by (try simp only [List.map_toArray, List.map_cons, List.map_nil]); first | done | rfl | (simp only [List.length_drop, List.length_take]; rfl)) ?_
            with_reducible refine (code_name.calls a0 t103 _ ?side1 A3.out).mono ?_
            (case side1 => first | (with_reducible exact HG.out) | (with_reducible exact (HG.out).below HB.out) | (with_reducible exact (HG.out).same World.heap_drewN) | (refine (HG.out).below ?_; (repeat (first | (with_reducible first | exact HB.out | apply below_alloc | apply pw_below_drewN | apply below_drew1 | refine below_set ?_ GE101.out | refine below_set ?_ GE105.out) | exact HB.out)); done) | exact (HG.out).same rfl)
            rintro e w' ⟨rfl, ⟨nd, rfl⟩⟩
            refine ⟨_, rfl, ?_⟩
            refine hK.out _ _ (((HB.out.cell (World.block_lt_of_cell? w _ hw104_0)).trans hw104_0)) (fun hHeld => ?_)
            clear hK K
            refine norm_ (a' := ?_) ?_ ?_
            rotate_left
            · show Act.put _ (some 8) _ = _
              simp only [Act.put, List.setIfInBounds_toArray, List.set_cons_zero, List.set_cons_succ, i64_w, i32_w]
              rfl
            refine pure_ (i := 6) (N := some 13) (v := ?_) (a' := ?_) #[true, true, true, true, true, true, true, true, false] rfl rfl (any_of HT_.out (by kernel_rfl)) (fun _ _ _ h => h) (Or.inl ⟨by rfl, ?_⟩) ?_ ?_
            rotate_left
            · intro w'
              go_simp
              with_reducible rfl
            rotate_left
            · simp only [Act.put, List.setIfInBounds_toArray, List.set_cons_zero, List.set_cons_succ, i64_w, i32_w]
              rfl
            exact norm_ (by simp only [putAll, Act.put, List.setIfInBounds_toArray, List.set_cons_zero, List.set_cons_succ]) (hCont (gb105) _ ⟨hHeld, (by (with_reducible repeat (first | refine blk_drewN ?_ _ | refine blk_drew ?_ | refine blk_alloc ?_ _)); exact BK101.out), (by (with_reducible repeat (first | refine blk_drewN ?_ _ | refine blk_drew ?_ | refine blk_alloc ?_ _)); exact BK105.out), GW105.out, GE105.out, NB101_105.out, NB105_101.out, (by repeat (first | (with_reducible first | exact HB.out | apply below_alloc | apply pw_below_drewN | apply below_drew1 | refine below_set ?_ GE101.out | refine below_set ?_ GE105.out) | exact HB.out))⟩)
        rintro gb105 w11 ⟨hS_, h0_, h1_, h2_, h3_, h4_, h5_, h6_⟩
        have n0_ : Aside0 (w11.heap[gb101]? = some (.cells #[.string (⟨#[]⟩ : ByteArray), .int .u8 0, .int .i64 0, .int .i64 0] 114 (0, 0))) := ⟨h0_⟩
        have n1_ : Aside0 (w11.heap[gb105]? = some (.cells #[.string (⟨#[]⟩ : ByteArray), .int .u8 0, .int .i64 0, .int .i64 0] 114 (0, 0))) := ⟨h1_⟩
        have n2_ : Aside0 (w.heap.size ≤ gb105) := ⟨h2_⟩
        have n3_ : Aside0 (w.heap.size ≤ gb105) := ⟨h3_⟩
        have n4_ : Aside0 (gb101 ≠ gb105) := ⟨h4_⟩
        have n5_ : Aside0 (gb105 ≠ gb101) := ⟨h5_⟩
        have n6_ : Aside0 (Below w.heap.size w w11) := ⟨h6_⟩
        clear BK101
        clear HB
        clear h0_ h1_ h2_ h3_ h4_ h5_ h6_
        have BK101 := n0_
        have BK105 := n1_
        have GW105 := n2_
        have GE105 := n3_
        have NB101_105 := n4_
        have NB105_101 := n5_
        have HB := n6_
        clear n0_ n1_ n2_ n3_ n4_ n5_ n6_
        have hHeld : w11.cell? ⟨1, (t102).toNat, none⟩ = some (.int .i64 (rd tTab1 t102)) := hS_
        refine norm_ (a' := ?_) ?_ ?_
        rotate_left
        · simp only [putAll, Act.put, List.setIfInBounds_toArray, List.set_cons_zero, List.set_cons_succ]
          rfl
        refine one_ (i := 8) (N := none) #[true, true, true, true, true, true, true, true, true] rfl rfl (one_of HT_.out (by kernel_rfl)) (by decide) (fun K hK => ?_)
        have hs12 : w11.cell? ⟨gb105, 0, none⟩ = some (.string (⟨#[]⟩ : ByteArray)) := (blk_cell BK105.out 0).trans rfl
        have hfs12 := blk_frozen BK105.out 0
        have hns12_0 := NB101_105.out
        have hms12_0 := NB105_101.out
        have hs13 : w11.cell? ⟨gb105, 1, none⟩ = some (.int .u8 0) := (blk_cell BK105.out 1).trans rfl
        have hfs13 := blk_frozen BK105.out 1
        have hns13_0 := NB101_105.out
        have hms13_0 := NB105_101.out
        have hs14 : w11.cell? ⟨gb105, 2, none⟩ = some (.int .i64 0) := (blk_cell BK105.out 2).trans rfl
        have hfs14 := blk_frozen BK105.out 2
        have hns14_0 := NB101_105.out
        have hms14_0 := NB105_101.out
        have hs15 : w11.cell? ⟨gb105, 3, none⟩ = some (.int .i64 0) := (blk_cell BK105.out 3).trans rfl
        have hfs15 := blk_frozen BK105.out 3
        have hns15_0 := NB101_105.out
        have hms15_0 := NB105_101.out
        refine skip_ (w1 := ?_) (by rfl) rfl ?_ ?_
        rotate_left
        · go_simp
          rfl
        refine hK.out _ _ (((cell_far (p := ⟨gb105, _, none⟩) (by first | exact Nat.ne_of_lt (Nat.lt_of_lt_of_le (by have := World.block_lt_of_cell? _ _ hw104_0; first | rwa [add_block] at this | exact this) GW105.out) | (rw [add_block]; exact Nat.ne_of_lt (Nat.lt_of_lt_of_le (by have := World.block_lt_of_cell? _ _ hw104_0; first | rwa [add_block] at this | exact this) GW105.out)) | (show (Addr.add _ _).block ≠ _; rw [add_block]; exact Nat.ne_of_lt (Nat.lt_of_lt_of_le (by have := World.block_lt_of_cell? _ _ hw104_0; first | rwa [add_block] at this | exact this) GW105.out)) | (dsimp only; exact Nat.ne_of_lt (Nat.lt_of_lt_of_le (by have := World.block_lt_of_cell? _ _ hw104_0; first | rwa [add_block] at this | exact this) GW105.out))) _).trans (((cell_far (p := ⟨gb105, _, none⟩) (by first | exact Nat.ne_of_lt (Nat.lt_of_lt_of_le (by have := World.block_lt_of_cell? _ _ hw104_0; first | rwa [add_block] at this | exact this) GW105.out) | (rw [add_block]; exact Nat.ne_of_lt (Nat.lt_of_lt_of_le (by have := World.block_lt_of_cell? _ _ hw104_0; first | rwa [add_block] at this | exact this) GW105.out)) | (show (Addr.add _ _).block ≠ _; rw [add_block]; exact Nat.ne_of_lt (Nat.lt_of_lt_of_le (by have := World.block_lt_of_cell? _ _ hw104_0; first | rwa [add_block] at this | exact this) GW105.out)) | (dsimp only; exact Nat.ne_of_lt (Nat.lt_of_lt_of_le (by have := World.block_lt_of_cell? _ _ hw104_0; first | rwa [add_block] at this | exact this) GW105.out))) _).trans (((cell_far (p := ⟨gb105, _, none⟩) (by first | exact Nat.ne_of_lt (Nat.lt_of_lt_of_le (by have := World.block_lt_of_cell? _ _ hw104_0; first | rwa [add_block] at this | exact this) GW105.out) | (rw [add_block]; exact Nat.ne_of_lt (Nat.lt_of_lt_of_le (by have := World.block_lt_of_cell? _ _ hw104_0; first | rwa [add_block] at this | exact this) GW105.out)) | (show (Addr.add _ _).block ≠ _; rw [add_block]; exact Nat.ne_of_lt (Nat.lt_of_lt_of_le (by have := World.block_lt_of_cell? _ _ hw104_0; first | rwa [add_block] at this | exact this) GW105.out)) | (dsimp only; exact Nat.ne_of_lt (Nat.lt_of_lt_of_le (by have := World.block_lt_of_cell? _ _ hw104_0; first | rwa [add_block] at this | exact this) GW105.out))) _).trans (((cell_far (p := ⟨gb105, _, none⟩) (by first | exact Nat.ne_of_lt (Nat.lt_of_lt_of_le (by have := World.block_lt_of_cell? _ _ hw104_0; first | rwa [add_block] at this | exact this) GW105.out) | (rw [add_block]; exact Nat.ne_of_lt (Nat.lt_of_lt_of_le (by have := World.block_lt_of_cell? _ _ hw104_0; first | rwa [add_block] at this | exact this) GW105.out)) | (show (Addr.add _ _).block ≠ _; rw [add_block]; exact Nat.ne_of_lt (Nat.lt_of_lt_of_le (by have := World.block_lt_of_cell? _ _ hw104_0; first | rwa [add_block] at this | exact this) GW105.out)) | (dsimp only; exact Nat.ne_of_lt (Nat.lt_of_lt_of_le (by have := World.block_lt_of_cell? _ _ hw104_0; first | rwa [add_block] at this | exact this) GW105.out))) _).trans (hHeld))))))))) (fun hHeld => ?_)
        clear hK K
        refine done_ (done_of HT_.out (by kernel_rfl)) ?_
        generalize hw20_ : World.setCell (World.setCell (World.setCell (World.setCell w11 _ _) _ _) _ _) _ _ = w20
        have n0_ : Aside0 (w20.heap[gb105]? = some (.cells #[.string t103, .int .u8 t102, .int .i64 (rd tTab1 t102), .int .i64 2] 114 (0, 0))) := ⟨by rw [← hw20_]; refine blk_put (cs := #[.string t103, .int .u8 t102, .int .i64 (rd tTab1 t102), .int .i64 0]) ?_ 3 _ rfl; refine blk_put (cs := #[.string t103, .int .u8 t102, .int .i64 0, .int .i64 0]) ?_ 2 _ rfl; refine blk_put (cs := #[.string t103, .int .u8 0, .int .i64 0, .int .i64 0]) ?_ 1 _ rfl; refine blk_put (cs := #[.string (⟨#[]⟩ : ByteArray), .int .u8 0, .int .i64 0, .int .i64 0]) ?_ 0 _ rfl; exact BK105.out⟩
        have n1_ : Aside0 (w20.heap[gb101]? = some (.cells #[.string (⟨#[]⟩ : ByteArray), .int .u8 0, .int .i64 0, .int .i64 0] 114 (0, 0))) := ⟨by rw [← hw20_]; refine blk_far ?_ NB101_105.out _; refine blk_far ?_ NB101_105.out _; refine blk_far ?_ NB101_105.out _; refine blk_far ?_ NB101_105.out _; exact BK101.out⟩
        have n2_ : Aside0 (Below w.heap.size w w20) := ⟨by rw [← hw20_]; exact below_set (below_set (below_set (below_set HB.out GE105.out) GE105.out) GE105.out) GE105.out⟩
        clear hw20_ hHeld BK105 BK101 HB
        have BK105 := n0_
        have BK101 := n1_
        have HB := n2_
        clear n0_ n1_ n2_
        go_wp2_with (first | ((with_reducible refine gate_callee (f := 125) rfl ?_); refine goesL_ (some 15) rfl rfl Tryd.func125 (by kernel_rfl) rfl #[.int .u8 a0] rfl (by (try simp only [List.map_toArray, List.map_cons, List.map_nil]); first | done | rfl | (simp only [List.length_drop, List.length_take]; rfl)) ?_; (with_reducible refine (code_long.calls a0 true _ A6.out).mono ?_); rintro e w' ⟨rfl, ⟨nd, rfl⟩⟩; refine ⟨_, rfl, ?_⟩; have hnb20 := NB105_101.out; have hnc20 := NB101_105.out; have hcz20_0 : w20.cell? ⟨gb105, 0, none⟩ = some (.string t103) := (blk_cell BK105.out 0).trans rfl; have hcz20_1 : w20.cell? ⟨gb105, 1, none⟩ = some (.int .u8 t102) := (blk_cell BK105.out 1).trans rfl; have hcz20_2 : w20.cell? ⟨gb105, 2, none⟩ = some (.int .i64 (rd tTab1 t102)) := (blk_cell BK105.out 2).trans rfl; have hcz20_3 : w20.cell? ⟨gb105, 3, none⟩ = some (.int .i64 2) := (blk_cell BK105.out 3).trans rfl; have hfz20_0 := blk_frozen BK105.out 0; have hfz20_1 := blk_frozen BK105.out 1; have hfz20_2 := blk_frozen BK105.out 2; have hfz20_3 := blk_frozen BK105.out 3; have hcy20_0 : w20.cell? ⟨gb101, 0, none⟩ = some (.string (⟨#[]⟩ : ByteArray)) := (blk_cell BK101.out 0).trans rfl; have hcy20_1 : w20.cell? ⟨gb101, 1, none⟩ = some (.int .u8 0) := (blk_cell BK101.out 1).trans rfl; have hcy20_2 : w20.cell? ⟨gb101, 2, none⟩ = some (.int .i64 0) := (blk_cell BK101.out 2).trans rfl; have hcy20_3 : w20.cell? ⟨gb101, 3, none⟩ = some (.int .i64 0) := (blk_cell BK101.out 3).trans rfl; have hfy20_0 := blk_frozen BK101.out 0; have hfy20_1 := blk_frozen BK101.out 1; have hfy20_2 := blk_frozen BK101.out 2; have hfy20_3 := blk_frozen BK101.out 3))
        refine bodyPost_ret (results_cell_row rfl _ _ gb101 114 #[.string t103, .int .u8 t102, .int .i64 (rd tTab1 t102), .int .i64 3] (0, 0) _ rfl (by (with_reducible repeat (first | refine blk_drewN ?_ _ | refine blk_drew ?_ | refine blk_alloc ?_ _)); refine blk_put (cs := #[.string t103, .int .u8 t102, .int .i64 (rd tTab1 t102), .int .i64 0]) ?_ 3 _ rfl; (with_reducible repeat (first | refine blk_drewN ?_ _ | refine blk_drew ?_ | refine blk_alloc ?_ _)); refine blk_put (cs := #[.string t103, .int .u8 t102, .int .i64 0, .int .i64 0]) ?_ 2 _ rfl; (with_reducible repeat (first | refine blk_drewN ?_ _ | refine blk_drew ?_ | refine blk_alloc ?_ _)); refine blk_put (cs := #[.string t103, .int .u8 0, .int .i64 0, .int .i64 0]) ?_ 1 _ rfl; (with_reducible repeat (first | refine blk_drewN ?_ _ | refine blk_drew ?_ | refine blk_alloc ?_ _)); refine blk_put (cs := #[.string (⟨#[]⟩ : ByteArray), .int .u8 0, .int .i64 0, .int .i64 0]) ?_ 0 _ rfl; (with_reducible repeat (first | refine blk_drewN ?_ _ | refine blk_drew ?_ | refine blk_alloc ?_ _)); refine blk_far ?_ NB101_105.out _; (with_reducible repeat (first | refine blk_drewN ?_ _ | refine blk_drew ?_ | refine blk_alloc ?_ _)); exact BK101.out) Tryd.underlying114 rfl (by kernel_rfl)) rfl ?_
        exact ⟨by first | rfl | (simp [errW_none, errW_some] <;> rfl) | (simp [*, errW_none, errW_some] <;> rfl), by repeat (first | (with_reducible first | exact HB.out | apply below_alloc | apply pw_below_drewN | apply below_drew1 | refine below_set ?_ GE101.out | refine below_set ?_ GE105.out) | exact HB.out)⟩
      · replace c7 := Bool.eq_false_iff.mpr c7
        subst c7
        have H1 : (some (t103, t102, rd tTab1 t102, 2)) = some (r1, r2, r3, r4) := by rw [if_neg (show ¬ (false = true) by decide)] at H; exact H
        clear H
        have H := H1
        clear H1
        simp only [Option.some.injEq, Prod.mk.injEq] at H
        obtain ⟨rfl, rfl, rfl, rfl⟩ := H
        go_enter Tryd.func98, Tryd.ntmps98
        try go_wp2_with (first | ((with_reducible refine gate_dst (N := 2) rfl ?_); refine box_event ?hg (N := 2) ?hd (cs := #[.string (⟨#[]⟩ : ByteArray), .int .u8 0, .int .i64 0, .int .i64 0]) (t := 114) ?hr ?_; (case hd => rfl); (case hg => rfl); (case hr => first | (go_simp; done) | (go_simp; rfl)); intro gb101 hg w19 hbox hb; have n0_ := Aside0.mk (below_step (by repeat (first | (with_reducible first | exact HB.out | apply below_alloc | apply pw_below_drewN | apply below_drew1) | exact HB.out)) hb); have n1_ := Aside0.mk (hbox); have n2_ := Aside0.mk ((by rw [hg]; exact (below_size (by repeat (first | (with_reducible first | exact HB.out | apply below_alloc | apply pw_below_drewN | apply below_drew1) | exact HB.out))) : w.heap.size ≤ gb101)); have n3_ := Aside0.mk ((by rw [hg]; exact (below_size (by repeat (first | (with_reducible first | exact HB.out | apply below_alloc | apply pw_below_drewN | apply below_drew1) | exact HB.out))) : w.heap.size ≤ gb101)); clear HB; have HB := n0_; have BK101 := n1_; have GW101 := n2_; have GE101 := n3_; clear n0_ n1_ n2_ n3_; clear hb hbox hg) | ((with_reducible refine gate_callee (f := 124) rfl ?_); refine goesL_ (some 6) rfl rfl Tryd.func124 (by kernel_rfl) rfl #[.int .u8 a0] rfl (by (try simp only [List.map_toArray, List.map_cons, List.map_nil]); first | done | rfl | (simp only [List.length_drop, List.length_take]; rfl)) ?_; (with_reducible refine (code_form.calls k a0 t102 _ A2.out).mono ?_); rintro e w' ⟨rfl, ⟨nd, rfl⟩⟩; refine ⟨_, rfl, ?_⟩; (try (rw [drewN_self w19]; generalize hq_ : World.drewN w19 _ = w19; have n0_ : Aside0 (w19.heap[gb101]? = some (.cells #[.string (⟨#[]⟩ : ByteArray), .int .u8 0, .int .i64 0, .int .i64 0] 114 (0, 0))) := ⟨by rw [← hq_]; exact (by (with_reducible repeat (first | refine blk_drewN ?_ _ | refine blk_drew ?_ | refine blk_alloc ?_ _)); exact BK101.out)⟩; have n1_ : Aside0 (Below w.heap.size w w19) := ⟨by rw [← hq_]; exact (by repeat (first | (with_reducible first | exact HB.out | apply below_alloc | apply pw_below_drewN | apply below_drew1 | refine below_set ?_ GE101.out) | exact HB.out))⟩; clear BK101 HB hq_; have BK101 := n0_; have HB := n1_; clear n0_ n1_))))
        have n0_ := Aside0.mk (blk_drew BK101.out)
        have n1_ := Aside0.mk (below_drew1 HB.out)
        clear BK101
        clear HB
        have BK101 := n0_
        have HB := n1_
        clear n0_ n1_
        have p104 : 0 ≤ (t102 : Int) := of_decide_eq_true (by first | (with_reducible assumption) | assumption)
        have q104 : (t102 : Int) < 7 := of_decide_eq_true (by first | (with_reducible assumption) | assumption)
        obtain ⟨ad104, e104, hx104_0⟩ := Kd.at_int HRt1.out t102 p104 q104
        obtain rfl : (⟨1, 0, none⟩ : Addr) = ad104 := (by injection e104)
        (first | simp only [add_plain] at hx104_0 | simp only [add_at] at hx104_0 | simp only [Addr.add, Nat.zero_add] at hx104_0 | skip)
        have hw104_0 := hx104_0
        replace hx104_0 := (HB.out.cell (World.block_lt_of_cell? w _ hx104_0)).trans hx104_0
        replace p104 := eq_true p104
        replace q104 := eq_true q104
        refine start_ (n := 9) (S := fun w' => w'.cell? ⟨1, (t102).toNat, none⟩ = some (.int .i64 (rd tTab1 t102))) (ds := []) #[false, false, false, false, false, false, false, false, false] (by kernel_rfl) rfl rfl (((HB.out.cell (World.block_lt_of_cell? w _ hw104_0)).trans hw104_0)) (fun hHeld => ?_); refine with_tabW code_Info.tab2 code_Info.bits2 (fun HT_ HW_ => ?_)
        generalize w19.drew = w20 at BK101 HB hx104_0 hHeld ⊢
        refine pure_ (i := 0) (N := some 7) (v := ?_) (a' := ?_) #[true, false, false, false, false, false, false, false, false] rfl rfl (any_of HT_.out (by kernel_rfl)) (fun _ _ _ h => h) (Or.inl ⟨by rfl, ?_⟩) ?_ ?_
        rotate_left
        · intro w'
          go_simp
          with_reducible rfl
        rotate_left
        · simp only [Act.put, List.setIfInBounds_toArray, List.set_cons_zero, List.set_cons_succ, i64_w, i32_w]
          rfl
        refine pure_ (i := 2) (N := some 9) (v := ?_) (a' := ?_) #[true, false, true, false, false, false, false, false, false] rfl rfl (any_of HT_.out (by kernel_rfl)) (fun _ _ _ h => h) (Or.inl ⟨by rfl, ?_⟩) ?_ ?_
        rotate_left
        · intro w'
          go_simp
          with_reducible rfl
        rotate_left
        · simp only [Act.put, List.setIfInBounds_toArray, List.set_cons_zero, List.set_cons_succ, i64_w, i32_w]
          rfl
        refine pure_ (i := 3) (N := some 10) (v := ?_) (a' := ?_) #[true, false, true, true, false, false, false, false, false] rfl rfl (any_of HT_.out (by kernel_rfl)) (fun _ _ _ h => h) (Or.inl ⟨by rfl, ?_⟩) ?_ ?_
        rotate_left
        · intro w'
          go_simp
          with_reducible rfl
        rotate_left
        · simp only [Act.put, List.setIfInBounds_toArray, List.set_cons_zero, List.set_cons_succ, i64_w, i32_w]
          rfl
        refine pure_ (i := 4) (N := some 11) (v := ?_) (a' := ?_) #[true, false, true, true, true, false, false, false, false] rfl rfl (any_of HT_.out (by kernel_rfl)) (fun _ _ _ h => h) (Or.inl ⟨by rfl, ?_⟩) ?_ ?_
        rotate_left
        · intro w'
          go_simp
          with_reducible rfl
        rotate_left
        · simp only [Act.put, List.setIfInBounds_toArray, List.set_cons_zero, List.set_cons_succ, i64_w, i32_w]
          rfl
        refine take_ (i := 5) (N := some 12) (v := ?_) (a' := ?_) #[true, false, true, true, true, true, false, false, false] rfl rfl (take_ofW HT_.out HW_.out (by kernel_rfl)) (fun _ _ _ h => h) (Or.inl ⟨by rfl, ?_⟩) hHeld ?_ ?_
        rotate_left
        · intro w' s0
          go_simp
          with_reducible rfl
        rotate_left
        · simp only [Act.put, List.setIfInBounds_toArray, List.set_cons_zero, List.set_cons_succ, i64_w, i32_w]
          rfl
        refine join_ (σ := Nat) 1 #[true, true, true, true, true, true, true, true, false] (fun s_ => [(8, .string t103), (4, .pointer (some ⟨s_, 0, none⟩)), (13, .agg #[.string t103, .int .u8 t102, .int .i64 (rd tTab1 t102), .int .i64 2])]) (fun s_ w' => (w'.cell? ⟨1, (t102).toNat, none⟩ = some (.int .i64 (rd tTab1 t102))) ∧ (w'.heap[gb101]? = some (.cells #[.string (⟨#[]⟩ : ByteArray), .int .u8 0, .int .i64 0, .int .i64 0] 114 (0, 0))) ∧ (w'.heap[s_]? = some (.cells #[.string (⟨#[]⟩ : ByteArray), .int .u8 0, .int .i64 0, .int .i64 0] 114 (0, 0))) ∧ (w.heap.size ≤ s_) ∧ (w.heap.size ≤ s_) ∧ (gb101 ≠ s_) ∧ (s_ ≠ gb101) ∧ (Below w.heap.size w w')) ?_ ?_
        rotate_left
        · intro hCont
          refine two_ (i := 1) (j := 7) (Ni := some 8) (Nj := some 4) #[true, true, true, true, true, true, false, false, false] #[true, false, true, true, true, true, false, true, false] rfl rfl rfl rfl (two_of HT_.out (by kernel_rfl)) (by decide) (by decide) (fun K hK => ?_) (fun K hK => ?_)
          · skip
            refine goes_ Tryd.func123 (by kernel_rfl) rfl #[.int .u8 a0] (by rfl) rfl rfl (by (try simp only [List.map_toArray, List.map_cons, List.map_nil]); first | done | rfl | (simp only [List.length_drop, List.length_take]; rfl)) ?_
            with_reducible refine (code_name.calls a0 t103 _ ?side1 A3.out).mono ?_
            (case side1 => first | (with_reducible exact HG.out) | (with_reducible exact (HG.out).below HB.out) | (with_reducible exact (HG.out).same World.heap_drewN) | (refine (HG.out).below ?_; (repeat (first | (with_reducible first | exact HB.out | apply below_alloc | apply pw_below_drewN | apply below_drew1 | refine below_set ?_ GE101.out) | exact HB.out)); done) | exact (HG.out).same rfl)
            rintro e w' ⟨rfl, ⟨nd, rfl⟩⟩
            refine ⟨_, rfl, ?_⟩
            refine hK.out _ _ (((HB.out.cell (World.block_lt_of_cell? w _ hw104_0)).trans hw104_0)) (fun hHeld => ?_)
            clear hK K
            refine norm_ (a' := ?_) ?_ ?_
            rotate_left
            · show Act.put _ (some 8) _ = _
              simp only [Act.put, List.setIfInBounds_toArray, List.set_cons_zero, List.set_cons_succ, i64_w, i32_w]
              rfl
            refine pure_ (i := 6) (N := some 13) (v := ?_) (a' := ?_) #[true, true, true, true, true, true, true, false, false] rfl rfl (any_of HT_.out (by kernel_rfl)) (fun _ _ _ h => h) (Or.inl ⟨by rfl, ?_⟩) ?_ ?_
            rotate_left
            · intro w'
              go_simp
              with_reducible rfl
            rotate_left
            · simp only [Act.put, List.setIfInBounds_toArray, List.set_cons_zero, List.set_cons_succ, i64_w, i32_w]
              rfl
            refine one_ (i := 7) (N := some 4) #[true, true, true, true, true, true, true, true, false] rfl rfl (one_of HT_.out (by kernel_rfl)) (by decide) (fun K hK => ?_)
            refine box_step ?hg (N := 4) ?hd (cs := #[.string (⟨#[]⟩ : ByteArray), .int .u8 0, .int .i64 0, .int .i64 0]) (t := 114) ?hr ?_; (case hd => rfl); (case hg => rfl); (case hr => first | (go_simp; done) | (go_simp; rfl))
            intro gb105 hg w21 hbox hb
            have n0_ := Aside0.mk (blk_below (g := gb101) (o := .cells #[.string (⟨#[]⟩ : ByteArray), .int .u8 0, .int .i64 0, .int .i64 0] 114 (0, 0)) (by (with_reducible repeat (first | refine blk_drewN ?_ _ | refine blk_drew ?_ | refine blk_alloc ?_ _)); exact BK101.out) hb)
            have n1_ := Aside0.mk (below_step (by repeat (first | (with_reducible first | exact HB.out | apply below_alloc | apply pw_below_drewN | apply below_drew1 | refine below_set ?_ GE101.out) | exact HB.out)) hb)
            have n2_ := Aside0.mk (hbox)
            have n3_ := Aside0.mk ((by rw [hg]; exact (below_size (by repeat (first | (with_reducible first | exact HB.out | apply below_alloc | apply pw_below_drewN | apply below_drew1 | refine below_set ?_ GE101.out) | exact HB.out))) : w.heap.size ≤ gb105))
            have n4_ := Aside0.mk ((by rw [hg]; exact (below_size (by repeat (first | (with_reducible first | exact HB.out | apply below_alloc | apply pw_below_drewN | apply below_drew1 | refine below_set ?_ GE101.out) | exact HB.out))) : w.heap.size ≤ gb105))
            have n5_ := Aside0.mk ((by rw [hg]; exact Nat.ne_of_lt (blk_lt (g := gb101) (o := .cells #[.string (⟨#[]⟩ : ByteArray), .int .u8 0, .int .i64 0, .int .i64 0] 114 (0, 0)) (by (with_reducible repeat (first | refine blk_drewN ?_ _ | refine blk_drew ?_ | refine blk_alloc ?_ _)); exact BK101.out)) : gb101 ≠ gb105))
            have n6_ := Aside0.mk ((by rw [hg]; exact Nat.ne_of_gt (blk_lt (g := gb101) (o := .cells #[.string (⟨#[]⟩ : ByteArray), .int .u8 0, .int .i64 0, .int .i64 0] 114 (0, 0)) (by (with_reducible repeat (first | refine blk_drewN ?_ _ | refine blk_drew ?_ | refine blk_alloc ?_ _)); exact BK101.out)) : gb105 ≠ gb101))
            clear BK101
            clear HB
            have BK101 := n0_
            have HB := n1_
            have BK105 := n2_
            have GW105 := n3_
            have GE105 := n4_
            have NB101_105 := n5_
            have NB105_101 := n6_
            clear n0_ n1_ n2_ n3_ n4_ n5_ n6_
            clear hb hbox hg
            refine hK.out _ _ (((HB.out.cell (World.block_lt_of_cell? w _ hw104_0)).trans hw104_0)) (fun hHeld => ?_)
            clear hK K
            refine norm_ (a' := ?_) ?_ ?_
            rotate_left
            · show Act.put _ (some 4) _ = _
              simp only [Act.put, List.setIfInBounds_toArray, List.set_cons_zero, List.set_cons_succ, i64_w, i32_w]
              rfl
            exact norm_ (by simp only [putAll, Act.put, List.setIfInBounds_toArray, List.set_cons_zero, List.set_cons_succ]) (hCont (gb105) _ ⟨hHeld, (by (with_reducible repeat (first | refine blk_drewN ?_ _ | refine blk_drew ?_ | refine blk_alloc ?_ _)); exact BK101.out), (by (with_reducible repeat (first | refine blk_drewN ?_ _ | refine blk_drew ?_ | refine blk_alloc ?_ _)); exact BK105.out), GW105.out, GE105.out, NB101_105.out, NB105_101.out, (by repeat (first | (with_reducible first | exact HB.out | apply below_alloc | apply pw_below_drewN | apply below_drew1 | refine below_set ?_ GE101.out | refine below_set ?_ GE105.out) | exact HB.out))⟩)
          · skip
            refine box_step ?hg (N := 4) ?hd (cs := #[.string (⟨#[]⟩ : ByteArray), .int .u8 0, .int .i64 0, .int .i64 0]) (t := 114) ?hr ?_; (case hd => rfl); (case hg => rfl); (case hr => first | (go_simp; done) | (go_simp; rfl))
            intro gb105 hg w21 hbox hb
            have n0_ := Aside0.mk (blk_below (g := gb101) (o := .cells #[.string (⟨#[]⟩ : ByteArray), .int .u8 0, .int .i64 0, .int .i64 0] 114 (0, 0)) (by (with_reducible repeat (first | refine blk_drewN ?_ _ | refine blk_drew ?_ | refine blk_alloc ?_ _)); exact BK101.out) hb)
            have n1_ := Aside0.mk (below_step (by repeat (first | (with_reducible first | exact HB.out | apply below_alloc | apply pw_below_drewN | apply below_drew1 | refine below_set ?_ GE101.out) | exact HB.out)) hb)
            have n2_ := Aside0.mk (hbox)
            have n3_ := Aside0.mk ((by rw [hg]; exact (below_size (by repeat (first | (with_reducible first | exact HB.out | apply below_alloc | apply pw_below_drewN | apply below_drew1 | refine below_set ?_ GE101.out) | exact HB.out))) : w.heap.size ≤ gb105))
            have n4_ := Aside0.mk ((by rw [hg]; exact (below_size (by repeat (first | (with_reducible first | exact HB.out | apply below_alloc | apply pw_below_drewN | apply below_drew1 | refine below_set ?_ GE101.out) | exact HB.out))) : w.heap.size ≤ gb105))
            have n5_ := Aside0.mk ((by rw [hg]; exact Nat.ne_of_lt (blk_lt (g := gb101) (o := .cells #[.string (⟨#[]⟩ : ByteArray), .int .u8 0, .int .i64 0, .int .i64 0] 114 (0, 0)) (by (with_reducible repeat (first | refine blk_drewN ?_ _ | refine blk_drew ?_ | refine blk_alloc ?_ _)); exact BK101.out)) : gb101 ≠ gb105))
            have n6_ := Aside0.mk ((by rw [hg]; exact Nat.ne_of_gt (blk_lt (g := gb101) (o := .cells #[.string (⟨#[]⟩ : ByteArray), .int .u8 0, .int .i64 0, .int .i64 0] 114 (0, 0)) (by (with_reducible repeat (first | refine blk_drewN ?_ _ | refine blk_drew ?_ | refine blk_alloc ?_ _)); exact BK101.out)) : gb105 ≠ gb101))
            clear BK101
            clear HB
            have BK101 := n0_
            have HB := n1_
            have BK105 := n2_
            have GW105 := n3_
            have GE105 := n4_
            have NB101_105 := n5_
            have NB105_101 := n6_
            clear n0_ n1_ n2_ n3_ n4_ n5_ n6_
            clear hb hbox hg
            refine hK.out _ _ (((HB.out.cell (World.block_lt_of_cell? w _ hw104_0)).trans hw104_0)) (fun hHeld => ?_)
            clear hK K
            refine norm_ (a' := ?_) ?_ ?_
            rotate_left
            · show Act.put _ (some 4) _ = _
              simp only [Act.put, List.setIfInBounds_toArray, List.set_cons_zero, List.set_cons_succ, i64_w, i32_w]
              rfl
            refine one_ (i := 1) (N := some 8) #[true, true, true, true, true, true, false, true, false] rfl rfl (one_of HT_.out (by kernel_rfl)) (by decide) (fun K hK => ?_)
            refine goes_ Tryd.func123 (by kernel_rfl) rfl #[.int .u8 a0] (by rfl) rfl rfl (by (try simp only [List.map_toArray, List.map_cons, List.map_nil]); first | done | rfl | (simp only [List.length_drop, List.length_take]; rfl)) ?_
            with_reducible refine (code_name.calls a0 t103 _ ?side1 A3.out).mono ?_
            (case side1 => first | (with_reducible exact HG.out) | (with_reducible exact (HG.out).below HB.out) | (with_reducible exact (HG.out).same World.heap_drewN) | (refine (HG.out).below ?_; (repeat (first | (with_reducible first | exact HB.out | apply below_alloc | apply pw_below_drewN | apply below_drew1 | refine below_set ?_ GE101.out | refine below_set ?_ GE105.out) | exact HB.out)); done) | exact (HG.out).same rfl)
            rintro e w' ⟨rfl, ⟨nd, rfl⟩⟩
            refine ⟨_, rfl, ?_⟩
            refine hK.out _ _ (((HB.out.cell (World.block_lt_of_cell? w _ hw104_0)).trans hw104_0)) (fun hHeld => ?_)
            clear hK K
            refine norm_ (a' := ?_) ?_ ?_
            rotate_left
            · show Act.put _ (some 8) _ = _
              simp only [Act.put, List.setIfInBounds_toArray, List.set_cons_zero, List.set_cons_succ, i64_w, i32_w]
              rfl
            refine pure_ (i := 6) (N := some 13) (v := ?_) (a' := ?_) #[true, true, true, true, true, true, true, true, false] rfl rfl (any_of HT_.out (by kernel_rfl)) (fun _ _ _ h => h) (Or.inl ⟨by rfl, ?_⟩) ?_ ?_
            rotate_left
            · intro w'
              go_simp
              with_reducible rfl
            rotate_left
            · simp only [Act.put, List.setIfInBounds_toArray, List.set_cons_zero, List.set_cons_succ, i64_w, i32_w]
              rfl
            exact norm_ (by simp only [putAll, Act.put, List.setIfInBounds_toArray, List.set_cons_zero, List.set_cons_succ]) (hCont (gb105) _ ⟨hHeld, (by (with_reducible repeat (first | refine blk_drewN ?_ _ | refine blk_drew ?_ | refine blk_alloc ?_ _)); exact BK101.out), (by (with_reducible repeat (first | refine blk_drewN ?_ _ | refine blk_drew ?_ | refine blk_alloc ?_ _)); exact BK105.out), GW105.out, GE105.out, NB101_105.out, NB105_101.out, (by repeat (first | (with_reducible first | exact HB.out | apply below_alloc | apply pw_below_drewN | apply below_drew1 | refine below_set ?_ GE101.out | refine below_set ?_ GE105.out) | exact HB.out))⟩)
        rintro gb105 w22 ⟨hS_, h0_, h1_, h2_, h3_, h4_, h5_, h6_⟩
        have n0_ : Aside0 (w22.heap[gb101]? = some (.cells #[.string (⟨#[]⟩ : ByteArray), .int .u8 0, .int .i64 0, .int .i64 0] 114 (0, 0))) := ⟨h0_⟩
        have n1_ : Aside0 (w22.heap[gb105]? = some (.cells #[.string (⟨#[]⟩ : ByteArray), .int .u8 0, .int .i64 0, .int .i64 0] 114 (0, 0))) := ⟨h1_⟩
        have n2_ : Aside0 (w.heap.size ≤ gb105) := ⟨h2_⟩
        have n3_ : Aside0 (w.heap.size ≤ gb105) := ⟨h3_⟩
        have n4_ : Aside0 (gb101 ≠ gb105) := ⟨h4_⟩
        have n5_ : Aside0 (gb105 ≠ gb101) := ⟨h5_⟩
        have n6_ : Aside0 (Below w.heap.size w w22) := ⟨h6_⟩
        clear BK101
        clear HB
        clear h0_ h1_ h2_ h3_ h4_ h5_ h6_
        have BK101 := n0_
        have BK105 := n1_
        have GW105 := n2_
        have GE105 := n3_
        have NB101_105 := n4_
        have NB105_101 := n5_
        have HB := n6_
        clear n0_ n1_ n2_ n3_ n4_ n5_ n6_
        have hHeld : w22.cell? ⟨1, (t102).toNat, none⟩ = some (.int .i64 (rd tTab1 t102)) := hS_
        refine norm_ (a' := ?_) ?_ ?_
        rotate_left
        · simp only [putAll, Act.put, List.setIfInBounds_toArray, List.set_cons_zero, List.set_cons_succ]
          rfl
        refine one_ (i := 8) (N := none) #[true, true, true, true, true, true, true, true, true] rfl rfl (one_of HT_.out (by kernel_rfl)) (by decide) (fun K hK => ?_)
        have hs23 : w22.cell? ⟨gb105, 0, none⟩ = some (.string (⟨#[]⟩ : ByteArray)) := (blk_cell BK105.out 0).trans rfl
        have hfs23 := blk_frozen BK105.out 0
        have hns23_0 := NB101_105.out
        have hms23_0 := NB105_101.out
        have hs24 : w22.cell? ⟨gb105, 1, none⟩ = some (.int .u8 0) := (blk_cell BK105.out 1).trans rfl
        have hfs24 := blk_frozen BK105.out 1
        have hns24_0 := NB101_105.out
        have hms24_0 := NB105_101.out
        have hs25 : w22.cell? ⟨gb105, 2, none⟩ = some (.int .i64 0) := (blk_cell BK105.out 2).trans rfl
        have hfs25 := blk_frozen BK105.out 2
        have hns25_0 := NB101_105.out
        have hms25_0 := NB105_101.out
        have hs26 : w22.cell? ⟨gb105, 3, none⟩ = some (.int .i64 0) := (blk_cell BK105.out 3).trans rfl
        have hfs26 := blk_frozen BK105.out 3
        have hns26_0 := NB101_105.out
        have hms26_0 := NB105_101.out
        refine skip_ (w1 := ?_) (by rfl) rfl ?_ ?_
        rotate_left
        · go_simp
          rfl
        refine hK.out _ _ (((cell_far (p := ⟨gb105, _, none⟩) (by first | exact Nat.ne_of_lt (Nat.lt_of_lt_of_le (by have := World.block_lt_of_cell? _ _ hw104_0; first | rwa [add_block] at this | exact this) GW105.out) | (rw [add_block]; exact Nat.ne_of_lt (Nat.lt_of_lt_of_le (by have := World.block_lt_of_cell? _ _ hw104_0; first | rwa [add_block] at this | exact this) GW105.out)) | (show (Addr.add _ _).block ≠ _; rw [add_block]; exact Nat.ne_of_lt (Nat.lt_of_lt_of_le (by have := World.block_lt_of_cell? _ _ hw104_0; first | rwa [add_block] at this | exact this) GW105.out)) | (dsimp only; exact Nat.ne_of_lt (Nat.lt_of_lt_of_le (by have := World.block_lt_of_cell? _ _ hw104_0; first | rwa [add_block] at this | exact this) GW105.out))) _).trans (((cell_far (p := ⟨gb105, _, none⟩) (by first | exact Nat.ne_of_lt (Nat.lt_of_lt_of_le (by have := World.block_lt_of_cell? _ _ hw104_0; first | rwa [add_block] at this | exact this) GW105.out) | (rw [add_block]; exact Nat.ne_of_lt (Nat.lt_of_lt_of_le (by have := World.block_lt_of_cell? _ _ hw104_0; first | rwa [add_block] at this | exact this) GW105.out)) | (show (Addr.add _ _).block ≠ _; rw [add_block]; exact Nat.ne_of_lt (Nat.lt_of_lt_of_le (by have := World.block_lt_of_cell? _ _ hw104_0; first | rwa [add_block] at this | exact this) GW105.out)) | (dsimp only; exact Nat.ne_of_lt (Nat.lt_of_lt_of_le (by have := World.block_lt_of_cell? _ _ hw104_0; first | rwa [add_block] at this | exact this) GW105.out))) _).trans (((cell_far (p := ⟨gb105, _, none⟩) (by first | exact Nat.ne_of_lt (Nat.lt_of_lt_of_le (by have := World.block_lt_of_cell? _ _ hw104_0; first | rwa [add_block] at this | exact this) GW105.out) | (rw [add_block]; exact Nat.ne_of_lt (Nat.lt_of_lt_of_le (by have := World.block_lt_of_cell? _ _ hw104_0; first | rwa [add_block] at this | exact this) GW105.out)) | (show (Addr.add _ _).block ≠ _; rw [add_block]; exact Nat.ne_of_lt (Nat.lt_of_lt_of_le (by have := World.block_lt_of_cell? _ _ hw104_0; first | rwa [add_block] at this | exact this) GW105.out)) | (dsimp only; exact Nat.ne_of_lt (Nat.lt_of_lt_of_le (by have := World.block_lt_of_cell? _ _ hw104_0; first | rwa [add_block] at this | exact this) GW105.out))) _).trans (((cell_far (p := ⟨gb105, _, none⟩) (by first | exact Nat.ne_of_lt (Nat.lt_of_lt_of_le (by have := World.block_lt_of_cell? _ _ hw104_0; first | rwa [add_block] at this | exact this) GW105.out) | (rw [add_block]; exact Nat.ne_of_lt (Nat.lt_of_lt_of_le (by have := World.block_lt_of_cell? _ _ hw104_0; first | rwa [add_block] at this | exact this) GW105.out)) | (show (Addr.add _ _).block ≠ _; rw [add_block]; exact Nat.ne_of_lt (Nat.lt_of_lt_of_le (by have := World.block_lt_of_cell? _ _ hw104_0; first | rwa [add_block] at this | exact this) GW105.out)) | (dsimp only; exact Nat.ne_of_lt (Nat.lt_of_lt_of_le (by have := World.block_lt_of_cell? _ _ hw104_0; first | rwa [add_block] at this | exact this) GW105.out))) _).trans (hHeld))))))))) (fun hHeld => ?_)
        clear hK K
        refine done_ (done_of HT_.out (by kernel_rfl)) ?_
        generalize hw20_ : World.setCell (World.setCell (World.setCell (World.setCell w22 _ _) _ _) _ _) _ _ = w20
        have n0_ : Aside0 (w20.heap[gb105]? = some (.cells #[.string t103, .int .u8 t102, .int .i64 (rd tTab1 t102), .int .i64 2] 114 (0, 0))) := ⟨by rw [← hw20_]; refine blk_put (cs := #[.string t103, .int .u8 t102, .int .i64 (rd tTab1 t102), .int .i64 0]) ?_ 3 _ rfl; refine blk_put (cs := #[.string t103, .int .u8 t102, .int .i64 0, .int .i64 0]) ?_ 2 _ rfl; refine blk_put (cs := #[.string t103, .int .u8 0, .int .i64 0, .int .i64 0]) ?_ 1 _ rfl; refine blk_put (cs := #[.string (⟨#[]⟩ : ByteArray), .int .u8 0, .int .i64 0, .int .i64 0]) ?_ 0 _ rfl; exact BK105.out⟩
        have n1_ : Aside0 (w20.heap[gb101]? = some (.cells #[.string (⟨#[]⟩ : ByteArray), .int .u8 0, .int .i64 0, .int .i64 0] 114 (0, 0))) := ⟨by rw [← hw20_]; refine blk_far ?_ NB101_105.out _; refine blk_far ?_ NB101_105.out _; refine blk_far ?_ NB101_105.out _; refine blk_far ?_ NB101_105.out _; exact BK101.out⟩
        have n2_ : Aside0 (Below w.heap.size w w20) := ⟨by rw [← hw20_]; exact below_set (below_set (below_set (below_set HB.out GE105.out) GE105.out) GE105.out) GE105.out⟩
        clear hw20_ hHeld BK105 BK101 HB
        have BK105 := n0_
        have BK101 := n1_
        have HB := n2_
        clear n0_ n1_ n2_
        go_wp2_with (first | ((with_reducible refine gate_callee (f := 125) rfl ?_); refine goesL_ (some 15) rfl rfl Tryd.func125 (by kernel_rfl) rfl #[.int .u8 a0] rfl (by (try simp only [List.map_toArray, List.map_cons, List.map_nil]); first | done | rfl | (simp only [List.length_drop, List.length_take]; rfl)) ?_; (with_reducible refine (code_long.calls a0 false _ A6.out).mono ?_); rintro e w' ⟨rfl, ⟨nd, rfl⟩⟩; refine ⟨_, rfl, ?_⟩; have hnb20 := NB105_101.out; have hnc20 := NB101_105.out; have hcz20_0 : w20.cell? ⟨gb105, 0, none⟩ = some (.string t103) := (blk_cell BK105.out 0).trans rfl; have hcz20_1 : w20.cell? ⟨gb105, 1, none⟩ = some (.int .u8 t102) := (blk_cell BK105.out 1).trans rfl; have hcz20_2 : w20.cell? ⟨gb105, 2, none⟩ = some (.int .i64 (rd tTab1 t102)) := (blk_cell BK105.out 2).trans rfl; have hcz20_3 : w20.cell? ⟨gb105, 3, none⟩ = some (.int .i64 2) := (blk_cell BK105.out 3).trans rfl; have hfz20_0 := blk_frozen BK105.out 0; have hfz20_1 := blk_frozen BK105.out 1; have hfz20_2 := blk_frozen BK105.out 2; have hfz20_3 := blk_frozen BK105.out 3; have hcy20_0 : w20.cell? ⟨gb101, 0, none⟩ = some (.string (⟨#[]⟩ : ByteArray)) := (blk_cell BK101.out 0).trans rfl; have hcy20_1 : w20.cell? ⟨gb101, 1, none⟩ = some (.int .u8 0) := (blk_cell BK101.out 1).trans rfl; have hcy20_2 : w20.cell? ⟨gb101, 2, none⟩ = some (.int .i64 0) := (blk_cell BK101.out 2).trans rfl; have hcy20_3 : w20.cell? ⟨gb101, 3, none⟩ = some (.int .i64 0) := (blk_cell BK101.out 3).trans rfl; have hfy20_0 := blk_frozen BK101.out 0; have hfy20_1 := blk_frozen BK101.out 1; have hfy20_2 := blk_frozen BK101.out 2; have hfy20_3 := blk_frozen BK101.out 3))
        refine bodyPost_ret (results_cell_row rfl _ _ gb101 114 #[.string t103, .int .u8 t102, .int .i64 (rd tTab1 t102), .int .i64 2] (0, 0) _ rfl (by (with_reducible repeat (first | refine blk_drewN ?_ _ | refine blk_drew ?_ | refine blk_alloc ?_ _)); refine blk_put (cs := #[.string t103, .int .u8 t102, .int .i64 (rd tTab1 t102), .int .i64 0]) ?_ 3 _ rfl; (with_reducible repeat (first | refine blk_drewN ?_ _ | refine blk_drew ?_ | refine blk_alloc ?_ _)); refine blk_put (cs := #[.string t103, .int .u8 t102, .int .i64 0, .int .i64 0]) ?_ 2 _ rfl; (with_reducible repeat (first | refine blk_drewN ?_ _ | refine blk_drew ?_ | refine blk_alloc ?_ _)); refine blk_put (cs := #[.string t103, .int .u8 0, .int .i64 0, .int .i64 0]) ?_ 1 _ rfl; (with_reducible repeat (first | refine blk_drewN ?_ _ | refine blk_drew ?_ | refine blk_alloc ?_ _)); refine blk_put (cs := #[.string (⟨#[]⟩ : ByteArray), .int .u8 0, .int .i64 0, .int .i64 0]) ?_ 0 _ rfl; (with_reducible repeat (first | refine blk_drewN ?_ _ | refine blk_drew ?_ | refine blk_alloc ?_ _)); exact BK101.out) Tryd.underlying114 rfl (by kernel_rfl)) rfl ?_
        exact ⟨by first | rfl | (simp [errW_none, errW_some] <;> rfl) | (simp [*, errW_none, errW_some] <;> rfl), by repeat (first | (with_reducible first | exact HB.out | apply below_alloc | apply pw_below_drewN | apply below_drew1 | refine below_set ?_ GE101.out | refine below_set ?_ GE105.out) | exact HB.out)⟩
    · rw [if_neg c5] at H
      exact absurd H (by simp)
  · rw [if_neg c4] at H
    exact absurd H (by simp)
end Go.Proofs.YthnafgffanlnfaaDoor.PSrc
namespace Go.Proofs.YthnafgffanlnfaaDoor.PSrc
open Go.RowKit Go.Proofs.YthnafgffanlnfaaDoorW.PrintWords Go.Proofs.YthnafgffanlnfaaDoorW.PrintLast Go.Proofs.YthnafgffanlnfaaDoorW.PrintMore
attribute [local go_sem] max2_int min2_int max_two min_two max_three min_three max_four min_four   -- for this text's walks alone
set_option linter.unusedVariables false
set_option linter.unusedSimpArgs false
def code_first.l0 : Nat → ByteArray → Int → Option (Int)
  | 0, _, _ => none
  | k + 1, x0, x4 => if x4 < 256 then ((code_name.f ((x4) % 256)).bind fun t101 => (if t101.toList = x0.toList then (some x4) else (code_first.l0 k x0 (wrap64 (x4 + 1))))) else (some (-1))
def code_first.f (k : Nat) (a0 : ByteArray) : Option (Int) := code_first.l0 k a0 0
theorem code_first.mono_l : ∀ k, (∀ y0 y1, LeO (code_first.l0 k y0 y1) (code_first.l0 (k + 1) y0 y1))
  | 0 => fun _ _ r h => by simp [code_first.l0] at h
  | k + 1 => by
    have ih0 := code_first.mono_l k
    · intro y0 y1
      unfold code_first.l0
      repeat' first
      | (with_reducible exact ih0 _ _)
      | (with_reducible exact LeO.refl _)
      | (with_reducible exact LeO.none _)
      | (with_reducible refine LeO.ite ?_ ?_)
      | (with_reducible refine LeO.bind ?_ (fun _ => ?_))
      | exact ih0 _ _
      | exact LeO.none _
      | refine LeO.ite ?_ ?_
      | refine LeO.bind ?_ (fun _ => ?_)
theorem code_first.mono : ∀ a0 k, LeO (code_first.f k a0) (code_first.f (k + 1) a0) := by
  intro a0 k
  have ih0 := code_first.mono_l k
  unfold code_first.f
  repeat' first
      | (with_reducible exact ih0 _ _)
      | (with_reducible exact LeO.refl _)
      | (with_reducible exact LeO.none _)
      | (with_reducible refine LeO.ite ?_ ?_)
      | (with_reducible refine LeO.bind ?_ (fun _ => ?_))
      | exact ih0 _ _
      | exact LeO.none _
      | refine LeO.ite ?_ ?_
      | refine LeO.bind ?_ (fun _ => ?_)
set_option maxHeartbeats 8000000 in
set_option maxRecDepth 100000 in
theorem code_first.calls (k : Nat) (a0 : ByteArray) (r : Int) (w : World) (HG0 : Gl w) (h : code_first.f k a0 = some r) :
    Calls Tryd.prog 97 #[.string a0] w fun e w' => e = .returned (.int .i64 r) ∧ Drawn0 w w' := by
  have HG := Aside0.mk HG0
  clear HG0
  have H : (code_first.l0 k a0 0) = some r := h
  clear h
  have H' := Aside0.mk H
  clear H
  go_enter Tryd.func97, Tryd.ntmps97
  go_wp2
  go_loopg [4] k (fun kq v4 w' => ∃ (x4_1 : Int), v4 = .int .i64 x4_1 ∧ Aside0 (code_first.l0 kq a0 x4_1 = some r) ∧ Aside0 (kq ≤ k) ∧ Drawn0 w w')
  case atStart => exact ⟨(0), (by first | rfl | (simp; done) | (simp [*]; done)), H', ⟨Nat.le_refl _⟩, by repeat (first | exact Drawn0.refl _ | apply Drawn0.step)⟩
  case round =>
    clear H'
    obtain ⟨x4_1, rfl, HA, HK1, ⟨m1, rfl⟩⟩ := hrel
    cases gk with
    | zero => exact absurd HA.out (by simp [code_first.l0])
    | succ k1 =>
      have H := HA.out
      clear HA
      simp only [code_first.l0] at H
      by_cases c2 : x4_1 < 256
      · rw [if_pos c2] at H
        have c2b0 : decide (x4_1 < 256) = true := decide_eq_true c2
        clear c2
        replace H := Option.bind_eq_some_iff.mp H
        obtain ⟨t101, A30, H⟩ := H
        replace H : (if t101.toList = a0.toList then (some x4_1) else (code_first.l0 k1 a0 (wrap64 (x4_1 + 1)))) = some r := H
        have A3 := Aside0.mk A30
        clear A30
        by_cases c4 : t101.toList = a0.toList
        · rw [if_pos c4] at H
          have c4b0 : (t101.toList == a0.toList) = true := beq_iff_eq.mpr c4
          have c4b1 : (t101.toList != a0.toList) = false := bne_eq_false_iff_eq.mpr c4
          clear c4
          obtain rfl := Option.some.inj H
          go_wp2_with (first | ((with_reducible refine gate_callee (f := 123) rfl ?_); refine goesL_ (some 9) rfl rfl Tryd.func123 (by kernel_rfl) rfl #[.int .u8 ((x4_1) % 256)] rfl (by (try simp only [List.map_toArray, List.map_cons, List.map_nil]); first | done | rfl | (simp only [List.length_drop, List.length_take]; rfl)) ?_; (with_reducible refine (code_name.calls ((x4_1) % 256) t101 _ ?side1 A3.out).mono ?_); (case side1 => first | (with_reducible exact HG.out) | (with_reducible exact (HG.out).below HB.out) | (with_reducible exact (HG.out).same World.heap_drewN) | (refine (HG.out).below ?_; (repeat (first | (with_reducible first | exact HB.out | apply below_alloc | apply pw_below_drewN | apply below_drew1) | exact HB.out)); done) | exact (HG.out).same rfl); rintro e w' ⟨rfl, ⟨nd, rfl⟩⟩; refine ⟨_, rfl, ?_⟩))
          go_ret
          exact ⟨by first | rfl | (simp; done) | (simp [*]; done), by repeat (first | exact Drawn0.refl _ | apply Drawn0.step)⟩
        · rw [if_neg c4] at H
          have c4b0 : (t101.toList == a0.toList) = false := beq_eq_false_iff_ne.mpr c4
          have c4b1 : (t101.toList != a0.toList) = true := bne_iff_ne.mpr c4
          have H' := Aside0.mk H
          clear H
          go_wp2_with (first | ((with_reducible refine gate_callee (f := 123) rfl ?_); refine goesL_ (some 9) rfl rfl Tryd.func123 (by kernel_rfl) rfl #[.int .u8 ((x4_1) % 256)] rfl (by (try simp only [List.map_toArray, List.map_cons, List.map_nil]); first | done | rfl | (simp only [List.length_drop, List.length_take]; rfl)) ?_; (with_reducible refine (code_name.calls ((x4_1) % 256) t101 _ ?side1 A3.out).mono ?_); (case side1 => first | (with_reducible exact HG.out) | (with_reducible exact (HG.out).below HB.out) | (with_reducible exact (HG.out).same World.heap_drewN) | (refine (HG.out).below ?_; (repeat (first | (with_reducible first | exact HB.out | apply below_alloc | apply pw_below_drewN | apply below_drew1) | exact HB.out)); done) | exact (HG.out).same rfl); rintro e w' ⟨rfl, ⟨nd, rfl⟩⟩; refine ⟨_, rfl, ?_⟩))
          go_roundg k1
          case measure => have := HK1.out; omega
          case rel => exact ⟨(wrap64 (x4_1 + 1)), (by first | rfl | (simp; done) | (simp [*]; done)), H', ⟨by have := HK1.out; omega⟩, by repeat (first | exact Drawn0.refl _ | apply Drawn0.step)⟩
      · rw [if_neg c2] at H
        have c2b0 : decide (x4_1 < 256) = false := decide_eq_false c2
        clear c2
        obtain rfl := Option.some.inj H
        go_wp2
        go_ret
        exact ⟨by first | rfl | (simp; done) | (simp [*]; done), by repeat (first | exact Drawn0.refl _ | apply Drawn0.step)⟩
end Go.Proofs.YthnafgffanlnfaaDoor.PSrc
namespace Go.Proofs.YthnafgffanlnfaaDoor.PSrc
open Go.RowKit Go.Proofs.YthnafgffanlnfaaDoorW.PrintWords Go.Proofs.YthnafgffanlnfaaDoorW.PrintLast Go.Proofs.YthnafgffanlnfaaDoorW.PrintMore
attribute [local go_sem] max2_int min2_int max_two min_two max_three min_three max_four min_four   -- for this text's walks alone
set_option linter.unusedVariables false
set_option linter.unusedSimpArgs false
def code_Find.f (k : Nat) (a0 : ByteArray) : Option (ByteArray × Int × Int × Int × Bool) := (code_first.f k a0).bind fun t102 => (if t102 < 0 then (some ((⟨#[]⟩ : ByteArray), 0, 0, 0, false)) else ((code_Info.f k ((t102) % 256)).bind fun bt103 => (some (bt103.1, bt103.2.1, bt103.2.2.1, bt103.2.2.2, true))))
theorem code_Find.mono : ∀ a0 k, LeO (code_Find.f k a0) (code_Find.f (k + 1) a0) := by
  intro a0 k
  unfold code_Find.f
  repeat' first
      | (with_reducible exact code_Info.mono _ _)
      | (with_reducible exact code_first.mono _ _)
      | (with_reducible exact LeO.refl _)
      | (with_reducible exact LeO.none _)
      | (with_reducible refine LeO.ite ?_ ?_)
      | (with_reducible refine LeO.bind ?_ (fun _ => ?_))
      | exact code_Info.mono _ _
      | exact code_first.mono _ _
      | exact LeO.none _
      | refine LeO.ite ?_ ?_
      | refine LeO.bind ?_ (fun _ => ?_)
set_option maxHeartbeats 8000000 in
set_option maxRecDepth 100000 in
theorem code_Find.calls (k : Nat) (a0 : ByteArray) (r1 : ByteArray) (r2 : Int) (r3 : Int) (r4 : Int) (r5 : Bool) (w : World) (HG0 : Gl w) (h : code_Find.f k a0 = some (r1, r2, r3, r4, r5)) :
    Calls Tryd.prog 62 #[.string a0] w fun e w' => e = .returned (.tuple #[.agg #[.string r1, .int .u8 r2, .int .i64 r3, .int .i64 r4], .bool r5]) ∧ Below w.heap.size w w' := by
  have hu114 := Tryd.underlying114
  have HG := Aside0.mk HG0
  clear HG0
  have HB := Aside0.mk (Below.refl w.heap.size w)
  have H : ((code_first.f k a0).bind fun t102 => (if t102 < 0 then (some ((⟨#[]⟩ : ByteArray), 0, 0, 0, false)) else ((code_Info.f k ((t102) % 256)).bind fun bt103 => (some (bt103.1, bt103.2.1, bt103.2.2.1, bt103.2.2.2, true))))) = some (r1, r2, r3, r4, r5) := h
  clear h
  replace H := Option.bind_eq_some_iff.mp H
  obtain ⟨t102, A20, H⟩ := H
  replace H : (if t102 < 0 then (some ((⟨#[]⟩ : ByteArray), 0, 0, 0, false)) else ((code_Info.f k ((t102) % 256)).bind fun bt103 => (some (bt103.1, bt103.2.1, bt103.2.2.1, bt103.2.2.2, true)))) = some (r1, r2, r3, r4, r5) := H
  have A2 := Aside0.mk A20
  clear A20
  by_cases c3 : t102 < 0
  · rw [if_pos c3] at H
    have c3b0 : decide (t102 < 0) = true := decide_eq_true c3
    clear c3
    simp only [Option.some.injEq, Prod.mk.injEq] at H
    obtain ⟨rfl, rfl, rfl, rfl, rfl⟩ := H
    go_enter Tryd.func62, Tryd.ntmps62
    go_wp2_with (first | ((with_reducible refine gate_dst (N := 2) rfl ?_); refine box_event ?hg (N := 2) ?hd (cs := #[.string (⟨#[]⟩ : ByteArray), .int .u8 0, .int .i64 0, .int .i64 0]) (t := 114) ?hr ?_; (case hd => rfl); (case hg => rfl); (case hr => first | (go_simp; done) | (go_simp; rfl)); intro gb101 hg w4 hbox hb; have n0_ := Aside0.mk (below_step (by repeat (first | (with_reducible first | exact HB.out | apply below_alloc | apply pw_below_drewN | apply below_drew1) | exact HB.out)) hb); have n1_ := Aside0.mk (hbox); have n2_ := Aside0.mk ((by rw [hg]; exact (below_size (by repeat (first | (with_reducible first | exact HB.out | apply below_alloc | apply pw_below_drewN | apply below_drew1) | exact HB.out))) : w.heap.size ≤ gb101)); have n3_ := Aside0.mk ((by rw [hg]; exact (below_size (by repeat (first | (with_reducible first | exact HB.out | apply below_alloc | apply pw_below_drewN | apply below_drew1) | exact HB.out))) : w.heap.size ≤ gb101)); clear HB; have HB := n0_; have BK101 := n1_; have GW101 := n2_; have GE101 := n3_; clear n0_ n1_ n2_ n3_; clear hb hbox hg) | ((with_reducible refine gate_callee (f := 97) rfl ?_); refine goesL_ (some 6) rfl rfl Tryd.func97 (by kernel_rfl) rfl #[.string a0] rfl (by (try simp only [List.map_toArray, List.map_cons, List.map_nil]); first | done | rfl | (simp only [List.length_drop, List.length_take]; rfl)) ?_; (with_reducible refine (code_first.calls k a0 t102 _ ?side1 A2.out).mono ?_); (case side1 => first | (with_reducible exact HG.out) | (with_reducible exact (HG.out).below HB.out) | (with_reducible exact (HG.out).same World.heap_drewN) | (refine (HG.out).below ?_; (repeat (first | (with_reducible first | exact HB.out | apply below_alloc | apply pw_below_drewN | apply below_drew1 | refine below_set ?_ GE101.out) | exact HB.out)); done) | exact (HG.out).same rfl); rintro e w' ⟨rfl, ⟨nd, rfl⟩⟩; refine ⟨_, rfl, ?_⟩; (try (rw [drewN_self w4]; generalize hq_ : World.drewN w4 _ = w4; have n0_ : Aside0 (w4.heap[gb101]? = some (.cells #[.string (⟨#[]⟩ : ByteArray), .int .u8 0, .int .i64 0, .int .i64 0] 114 (0, 0))) := ⟨by rw [← hq_]; exact (by (with_reducible repeat (first | refine blk_drewN ?_ _ | refine blk_drew ?_ | refine blk_alloc ?_ _)); exact BK101.out)⟩; have n1_ : Aside0 (Below w.heap.size w w4) := ⟨by rw [← hq_]; exact (by repeat (first | (with_reducible first | exact HB.out | apply below_alloc | apply pw_below_drewN | apply below_drew1 | refine below_set ?_ GE101.out) | exact HB.out))⟩; clear BK101 HB hq_; have BK101 := n0_; have HB := n1_; clear n0_ n1_)); have hcz5_0 : w4.cell? ⟨gb101, 0, none⟩ = some (.string (⟨#[]⟩ : ByteArray)) := (blk_cell BK101.out 0).trans rfl; have hcz5_1 : w4.cell? ⟨gb101, 1, none⟩ = some (.int .u8 0) := (blk_cell BK101.out 1).trans rfl; have hcz5_2 : w4.cell? ⟨gb101, 2, none⟩ = some (.int .i64 0) := (blk_cell BK101.out 2).trans rfl; have hcz5_3 : w4.cell? ⟨gb101, 3, none⟩ = some (.int .i64 0) := (blk_cell BK101.out 3).trans rfl; have hfz5_0 := blk_frozen BK101.out 0; have hfz5_1 := blk_frozen BK101.out 1; have hfz5_2 := blk_frozen BK101.out 2; have hfz5_3 := blk_frozen BK101.out 3))
    refine bodyPost_ret (results_ct rfl _ _ gb101 114 #[.string (⟨#[]⟩ : ByteArray), .int .u8 0, .int .i64 0, .int .i64 0] (0, 0) _ rfl (by (with_reducible repeat (first | refine blk_drewN ?_ _ | refine blk_drew ?_ | refine blk_alloc ?_ _)); refine blk_put (cs := #[.string (⟨#[]⟩ : ByteArray), .int .u8 0, .int .i64 0, .int .i64 0]) ?_ 3 _ rfl; (with_reducible repeat (first | refine blk_drewN ?_ _ | refine blk_drew ?_ | refine blk_alloc ?_ _)); refine blk_put (cs := #[.string (⟨#[]⟩ : ByteArray), .int .u8 0, .int .i64 0, .int .i64 0]) ?_ 2 _ rfl; (with_reducible repeat (first | refine blk_drewN ?_ _ | refine blk_drew ?_ | refine blk_alloc ?_ _)); refine blk_put (cs := #[.string (⟨#[]⟩ : ByteArray), .int .u8 0, .int .i64 0, .int .i64 0]) ?_ 1 _ rfl; (with_reducible repeat (first | refine blk_drewN ?_ _ | refine blk_drew ?_ | refine blk_alloc ?_ _)); refine blk_put (cs := #[.string (⟨#[]⟩ : ByteArray), .int .u8 0, .int .i64 0, .int .i64 0]) ?_ 0 _ rfl; (with_reducible repeat (first | refine blk_drewN ?_ _ | refine blk_drew ?_ | refine blk_alloc ?_ _)); exact BK101.out) Tryd.underlying114 rfl (by kernel_rfl)) rfl ?_
    exact ⟨by first | rfl | (simp [errW_none, errW_some] <;> rfl) | (simp [*, errW_none, errW_some] <;> rfl), by repeat (first | (with_reducible first | exact HB.out | apply below_alloc | apply pw_below_drewN | apply below_drew1 | refine below_set ?_ GE101.out) | exact HB.out)⟩
  · rw [if_neg c3] at H
    have c3b0 : decide (t102 < 0) = false := decide_eq_false c3
    clear c3
    replace H := Option.bind_eq_some_iff.mp H
    obtain ⟨⟨t103, t104, t105, t106⟩, A60, H⟩ := H
    replace H : (some (t103, t104, t105, t106, true)) = some (r1, r2, r3, r4, r5) := H
    have A6 := Aside0.mk A60
    clear A60
    simp only [Option.some.injEq, Prod.mk.injEq] at H
    obtain ⟨rfl, rfl, rfl, rfl, rfl⟩ := H
    go_enter Tryd.func62, Tryd.ntmps62
    go_wp2_with (first | ((with_reducible refine gate_dst (N := 2) rfl ?_); refine box_event ?hg (N := 2) ?hd (cs := #[.string (⟨#[]⟩ : ByteArray), .int .u8 0, .int .i64 0, .int .i64 0]) (t := 114) ?hr ?_; (case hd => rfl); (case hg => rfl); (case hr => first | (go_simp; done) | (go_simp; rfl)); intro gb101 hg w7 hbox hb; have n0_ := Aside0.mk (below_step (by repeat (first | (with_reducible first | exact HB.out | apply below_alloc | apply pw_below_drewN | apply below_drew1) | exact HB.out)) hb); have n1_ := Aside0.mk (hbox); have n2_ := Aside0.mk ((by rw [hg]; exact (below_size (by repeat (first | (with_reducible first | exact HB.out | apply below_alloc | apply pw_below_drewN | apply below_drew1) | exact HB.out))) : w.heap.size ≤ gb101)); have n3_ := Aside0.mk ((by rw [hg]; exact (below_size (by repeat (first | (with_reducible first | exact HB.out | apply below_alloc | apply pw_below_drewN | apply below_drew1) | exact HB.out))) : w.heap.size ≤ gb101)); clear HB; have HB := n0_; have BK101 := n1_; have GW101 := n2_; have GE101 := n3_; clear n0_ n1_ n2_ n3_; clear hb hbox hg) | ((with_reducible refine gate_callee (f := 97) rfl ?_); refine goesL_ (some 6) rfl rfl Tryd.func97 (by kernel_rfl) rfl #[.string a0] rfl (by (try simp only [List.map_toArray, List.map_cons, List.map_nil]); first | done | rfl | (simp only [List.length_drop, List.length_take]; rfl)) ?_; (with_reducible refine (code_first.calls k a0 t102 _ ?side1 A2.out).mono ?_); (case side1 => first | (with_reducible exact HG.out) | (with_reducible exact (HG.out).below HB.out) | (with_reducible exact (HG.out).same World.heap_drewN) | (refine (HG.out).below ?_; (repeat (first | (with_reducible first | exact HB.out | apply below_alloc | apply pw_below_drewN | apply below_drew1 | refine below_set ?_ GE101.out) | exact HB.out)); done) | exact (HG.out).same rfl); rintro e w' ⟨rfl, ⟨nd, rfl⟩⟩; refine ⟨_, rfl, ?_⟩; (try (rw [drewN_self w7]; generalize hq_ : World.drewN w7 _ = w7; have n0_ : Aside0 (w7.heap[gb101]? = some (.cells #[.string (⟨#[]⟩ : ByteArray), .int .u8 0, .int .i64 0, .int .i64 0] 114 (0, 0))) := ⟨by rw [← hq_]; exact (by (with_reducible repeat (first | refine blk_drewN ?_ _ | refine blk_drew ?_ | refine blk_alloc ?_ _)); exact BK101.out)⟩; have n1_ : Aside0 (Below w.heap.size w w7) := ⟨by rw [← hq_]; exact (by repeat (first | (with_reducible first | exact HB.out | apply below_alloc | apply pw_below_drewN | apply below_drew1 | refine below_set ?_ GE101.out) | exact HB.out))⟩; clear BK101 HB hq_; have BK101 := n0_; have HB := n1_; clear n0_ n1_))) | ((with_reducible refine gate_callee (f := 98) rfl ?_); refine goesL_ (some 12) rfl rfl Tryd.func98 (by kernel_rfl) rfl #[.int .u8 ((t102) % 256)] rfl (by (try simp only [List.map_toArray, List.map_cons, List.map_nil]); first | done | rfl | (simp only [List.length_drop, List.length_take]; rfl)) ?_; (with_reducible refine (code_Info.calls k ((t102) % 256) t103 t104 t105 t106 _ ?side1 A6.out).mono ?_); (case side1 => first | (with_reducible exact HG.out) | (with_reducible exact (HG.out).below HB.out) | (with_reducible exact (HG.out).same World.heap_drewN) | (refine (HG.out).below ?_; (repeat (first | (with_reducible first | exact HB.out | apply below_alloc | apply pw_below_drewN | apply below_drew1 | refine below_set ?_ GE101.out) | exact HB.out)); done) | exact (HG.out).same rfl); rintro e w8 ⟨rfl, hb⟩; refine ⟨_, rfl, ?_⟩; have n0_ := Aside0.mk (blk_below (g := gb101) (o := .cells #[.string (⟨#[]⟩ : ByteArray), .int .u8 0, .int .i64 0, .int .i64 0] 114 (0, 0)) (by (with_reducible repeat (first | refine blk_drewN ?_ _ | refine blk_drew ?_ | refine blk_alloc ?_ _)); exact BK101.out) hb); have n1_ := Aside0.mk (below_step (by repeat (first | (with_reducible first | exact HB.out | apply below_alloc | apply pw_below_drewN | apply below_drew1 | refine below_set ?_ GE101.out) | exact HB.out)) hb); clear BK101; clear HB; have BK101 := n0_; have HB := n1_; clear n0_ n1_; (try clear hb); (try clear hb2); (try clear hk); (try clear hi); have hcz9_0 : w8.cell? ⟨gb101, 0, none⟩ = some (.string (⟨#[]⟩ : ByteArray)) := (blk_cell BK101.out 0).trans rfl; have hcz9_1 : w8.cell? ⟨gb101, 1, none⟩ = some (.int .u8 0) := (blk_cell BK101.out 1).trans rfl; have hcz9_2 : w8.cell? ⟨gb101, 2, none⟩ = some (.int .i64 0) := (blk_cell BK101.out 2).trans rfl; have hcz9_3 : w8.cell? ⟨gb101, 3, none⟩ = some (.int .i64 0) := (blk_cell BK101.out 3).trans rfl; have hfz9_0 := blk_frozen BK101.out 0; have hfz9_1 := blk_frozen BK101.out 1; have hfz9_2 := blk_frozen BK101.out 2; have hfz9_3 := blk_frozen BK101.out 3))
    refine bodyPost_ret (results_ct rfl _ _ gb101 114 #[.string t103, .int .u8 t104, .int .i64 t105, .int .i64 t106] (0, 0) _ rfl (by (with_reducible repeat (first | refine blk_drewN ?_ _ | refine blk_drew ?_ | refine blk_alloc ?_ _)); refine blk_put (cs := #[.string t103, .int .u8 t104, .int .i64 t105, .int .i64 0]) ?_ 3 _ rfl; (with_reducible repeat (first | refine blk_drewN ?_ _ | refine blk_drew ?_ | refine blk_alloc ?_ _)); refine blk_put (cs := #[.string t103, .int .u8 t104, .int .i64 0, .int .i64 0]) ?_ 2 _ rfl; (with_reducible repeat (first | refine blk_drewN ?_ _ | refine blk_drew ?_ | refine blk_alloc ?_ _)); refine blk_put (cs := #[.string t103, .int .u8 0, .int .i64 0, .int .i64 0]) ?_ 1 _ rfl; (with_reducible repeat (first | refine blk_drewN ?_ _ | refine blk_drew ?_ | refine blk_alloc ?_ _)); refine blk_put (cs := #[.string (⟨#[]⟩ : ByteArray), .int .u8 0, .int .i64 0, .int .i64 0]) ?_ 0 _ rfl; (with_reducible repeat (first | refine blk_drewN ?_ _ | refine blk_drew ?_ | refine blk_alloc ?_ _)); exact BK101.out) Tryd.underlying114 rfl (by kernel_rfl)) rfl ?_
    exact ⟨by first | rfl | (simp [errW_none, errW_some] <;> rfl) | (simp [*, errW_none, errW_some] <;> rfl), by repeat (first | (with_reducible first | exact HB.out | apply below_alloc | apply pw_below_drewN | apply below_drew1 | refine below_set ?_ GE101.out) | exact HB.out)⟩
end Go.Proofs.YthnafgffanlnfaaDoor.PSrc
namespace Go.Proofs.YthnafgffanlnfaaDoor.PSrc
open Go.RowKit Go.Proofs.YthnafgffanlnfaaDoorW.PrintWords
set_option linter.unusedVariables false
def strings_Compare.f (a b : ByteArray) : Option Int := some (Lib.compareBytes a.data.toList b.data.toList)
theorem strings_Compare.calls (a b : ByteArray) (r : Int) (w : World) (h : strings_Compare.f a b = some r) :
    Calls Tryd.prog 78 #[.string a, .string b] w fun e w' => e = .returned (.int .i64 r) ∧ Drawn0 w w' := by
  obtain rfl := Option.some.inj h
  refine (Tryd.strings_Compare a b w).mono ?_
  rintro e w' ⟨rfl, rfl⟩
  exact ⟨rfl, Drawn0.refl _⟩
def strings_Contains.f (a b : ByteArray) : Option Bool := if a.size < 4294967281 then some (Lib.contains a.data.toList b.data.toList) else none
theorem strings_Contains.calls (a b : ByteArray) (r : Bool) (w : World) (HG : Gl w) (h : strings_Contains.f a b = some r) :
    Calls Tryd.prog 111 #[.string a, .string b] w fun e w' => e = .returned (.bool r) ∧ Drawn0 w w' := by
  unfold strings_Contains.f at h
  split at h
  · rename_i hs
    obtain rfl := Option.some.inj h
    obtain ⟨m, hm⟩ := HG.mlen
    refine (Tryd.strings_Contains a b m w hs hm).mono ?_
    rintro e w' ⟨rfl, rfl⟩
    exact ⟨rfl, Drawn0.refl _⟩
  · cases h
def strings_Trim.f (s c : ByteArray) : Option ByteArray :=
  if s.size ≤ 9223372036854775807 then (if c.size < 4294967281 then (if (c.data.toList.all fun b => decide (b.toNat < 128)) = true then some ⟨(Lib.trimS s.data.toList c.data.toList).toArray⟩ else none) else none) else none
theorem strings_Trim.calls (s c : ByteArray) (r : ByteArray) (w : World) (h : strings_Trim.f s c = some r) :
    Calls Tryd.prog 112 #[.string s, .string c] w fun e w' => e = .returned (.string r) ∧ Below w.heap.size w w' := by
  unfold strings_Trim.f at h
  split at h
  · rename_i h1
    split at h
    · rename_i h2
      split at h
      · rename_i h3
        obtain rfl := Option.some.inj h
        exact Any.strings_Trim_laid Tryd.lays160 (by kernel_rfl) s c w h1 h2 (ascii_of_all h3)
      · cases h
    · cases h
  · cases h
def strings_Cut.f (a b : ByteArray) : Option (ByteArray × ByteArray × Bool) := if a.size < 4294967281 then some (⟨(Lib.cut a.data.toList b.data.toList).1.toArray⟩, ⟨(Lib.cut a.data.toList b.data.toList).2.1.toArray⟩, (Lib.cut a.data.toList b.data.toList).2.2) else none
theorem strings_Cut.calls (a b : ByteArray) (r1 r2 : ByteArray) (r3 : Bool) (w : World) (HG : Gl w) (h : strings_Cut.f a b = some (r1, r2, r3)) :
    Calls Tryd.prog 57 #[.string a, .string b] w fun e w' => e = .returned (.tuple #[.string r1, .string r2, .bool r3]) ∧ Drawn0 w w' := by
  unfold strings_Cut.f at h
  split at h
  · rename_i hs
    simp only [Option.some.injEq, Prod.mk.injEq] at h
    obtain ⟨rfl, rfl, rfl⟩ := h
    obtain ⟨m, hm⟩ := HG.mlen
    refine (Tryd.strings_Cut a b m w hs hm).mono ?_
    rintro e w' ⟨rfl, n, rfl⟩
    exact ⟨rfl, ⟨n, rfl⟩⟩
  · cases h
end Go.Proofs.YthnafgffanlnfaaDoor.PSrc
namespace Go.Proofs.YthnafgffanlnfaaDoor.PSrc
open Go.RowKit Go.Proofs.YthnafgffanlnfaaDoorW.PrintWords Go.Proofs.YthnafgffanlnfaaDoorW.PrintLast Go.Proofs.YthnafgffanlnfaaDoorW.PrintMore
attribute [local go_sem] max2_int min2_int max_two min_two max_three min_three max_four min_four   -- for this text's walks alone
set_option linter.unusedVariables false
set_option linter.unusedSimpArgs false
def source_name.f (a0 : ByteArray) : Option (Bool) := if a0.toList = ([] : List UInt8) then (some false) else (if (a0.size : Int) ≤ 16 then (if 0 ≤ 1 then (if 1 ≤ (a0.size : Int) then ((strings_Contains.f (⟨#[97, 98, 99, 100, 101, 102, 103, 104, 105, 106, 107, 108, 109, 110, 111, 112, 113, 114, 115, 116, 117, 118, 119, 120, 121, 122]⟩ : ByteArray) (a0.extract 0 1)).bind fun t101 => (if t101 = true then ((strings_Trim.f a0 (⟨#[97, 98, 99, 100, 101, 102, 103, 104, 105, 106, 107, 108, 109, 110, 111, 112, 113, 114, 115, 116, 117, 118, 119, 120, 121, 122, 48, 49, 50, 51, 52, 53, 54, 55, 56, 57, 45]⟩ : ByteArray)).bind fun t102 => (some (t102.toList == ([] : List UInt8)))) else (some false))) else (none)) else (none)) else (some false))
set_option maxHeartbeats 8000000 in
set_option maxRecDepth 100000 in
theorem source_name.calls (a0 : ByteArray) (r : Bool) (w : World) (HG0 : Gl w) (h : source_name.f a0 = some r) :
    Calls Tryd.prog 83 #[.string a0] w fun e w' => e = .returned (.bool r) ∧ Below w.heap.size w w' := by
  have HG := Aside0.mk HG0
  clear HG0
  have HB := Aside0.mk (Below.refl w.heap.size w)
  have H : (if a0.toList = ([] : List UInt8) then (some false) else (if (a0.size : Int) ≤ 16 then (if 0 ≤ 1 then (if 1 ≤ (a0.size : Int) then ((strings_Contains.f (⟨#[97, 98, 99, 100, 101, 102, 103, 104, 105, 106, 107, 108, 109, 110, 111, 112, 113, 114, 115, 116, 117, 118, 119, 120, 121, 122]⟩ : ByteArray) (a0.extract 0 1)).bind fun t101 => (if t101 = true then ((strings_Trim.f a0 (⟨#[97, 98, 99, 100, 101, 102, 103, 104, 105, 106, 107, 108, 109, 110, 111, 112, 113, 114, 115, 116, 117, 118, 119, 120, 121, 122, 48, 49, 50, 51, 52, 53, 54, 55, 56, 57, 45]⟩ : ByteArray)).bind fun t102 => (some (t102.toList == ([] : List UInt8)))) else (some false))) else (none)) else (none)) else (some false))) = some r := h
  clear h
  by_cases c2 : a0.toList = ([] : List UInt8)
  · rw [if_pos c2] at H
    have c2b0 : (a0.toList == ([] : List UInt8)) = true := beq_iff_eq.mpr c2
    have c2b1 : (a0.toList != ([] : List UInt8)) = false := bne_eq_false_iff_eq.mpr c2
    clear c2
    obtain rfl := Option.some.inj H
    go_enter Tryd.func83, Tryd.ntmps83
    go_wp2
    go_ret
    exact ⟨by first | rfl | (simp [errW_none, errW_some] <;> rfl) | (simp [*, errW_none, errW_some] <;> rfl), by repeat (first | (with_reducible first | exact HB.out | apply below_alloc | apply pw_below_drewN | apply below_drew1) | exact HB.out)⟩
  · rw [if_neg c2] at H
    have c2b0 : (a0.toList == ([] : List UInt8)) = false := beq_eq_false_iff_ne.mpr c2
    have c2b1 : (a0.toList != ([] : List UInt8)) = true := bne_iff_ne.mpr c2
    by_cases c3 : (a0.size : Int) ≤ 16
    · rw [if_pos c3] at H
      have c3b0 : decide ((a0.size : Int) ≤ 16) = true := decide_eq_true c3
      have c3b1 : decide (a0.size ≤ 16) = true := decide_eq_true (by omega)
      clear c3
      by_cases c4 : 0 ≤ 1
      · rw [if_pos c4] at H
        have c4b0 := eq_true c4
        have c4b1 : decide (0 ≤ 1) = true := decide_eq_true c4
        clear c4
        by_cases c5 : 1 ≤ (a0.size : Int)
        · rw [if_pos c5] at H
          have c5b0 := eq_true c5
          have c5b1 : decide (1 ≤ (a0.size : Int)) = true := decide_eq_true c5
          clear c5
          replace H := Option.bind_eq_some_iff.mp H
          obtain ⟨t101, A60, H⟩ := H
          replace H : (if t101 = true then ((strings_Trim.f a0 (⟨#[97, 98, 99, 100, 101, 102, 103, 104, 105, 106, 107, 108, 109, 110, 111, 112, 113, 114, 115, 116, 117, 118, 119, 120, 121, 122, 48, 49, 50, 51, 52, 53, 54, 55, 56, 57, 45]⟩ : ByteArray)).bind fun t102 => (some (t102.toList == ([] : List UInt8)))) else (some false)) = some r := H
          have A6 := Aside0.mk A60
          clear A60
          by_cases c7 : t101 = true
          · subst c7
            have H1 : ((strings_Trim.f a0 (⟨#[97, 98, 99, 100, 101, 102, 103, 104, 105, 106, 107, 108, 109, 110, 111, 112, 113, 114, 115, 116, 117, 118, 119, 120, 121, 122, 48, 49, 50, 51, 52, 53, 54, 55, 56, 57, 45]⟩ : ByteArray)).bind fun t102 => (some (t102.toList == ([] : List UInt8)))) = some r := by rw [if_pos rfl] at H; exact H
            clear H
            have H := H1
            clear H1
            replace H := Option.bind_eq_some_iff.mp H
            obtain ⟨t102, A80, H⟩ := H
            replace H : (some (t102.toList == ([] : List UInt8))) = some r := H
            have A8 := Aside0.mk A80
            clear A80
            obtain rfl := Option.some.inj H
            go_enter Tryd.func83, Tryd.ntmps83
            go_wp2_with (first | (go_at_call 111; (with_reducible refine (strings_Contains.calls (⟨#[97, 98, 99, 100, 101, 102, 103, 104, 105, 106, 107, 108, 109, 110, 111, 112, 113, 114, 115, 116, 117, 118, 119, 120, 121, 122]⟩ : ByteArray) (a0.extract 0 1) true _ ?side1 A6.out).mono ?_); (case side1 => first | (with_reducible exact HG.out) | (with_reducible exact (HG.out).below HB.out) | (with_reducible exact (HG.out).same World.heap_drewN) | (refine (HG.out).below ?_; (repeat (first | (with_reducible first | exact HB.out | apply below_alloc | apply pw_below_drewN | apply below_drew1) | exact HB.out)); done) | exact (HG.out).same rfl); rintro e w' ⟨rfl, ⟨nd, rfl⟩⟩) | (go_at_call 112; (with_reducible refine (strings_Trim.calls a0 (⟨#[97, 98, 99, 100, 101, 102, 103, 104, 105, 106, 107, 108, 109, 110, 111, 112, 113, 114, 115, 116, 117, 118, 119, 120, 121, 122, 48, 49, 50, 51, 52, 53, 54, 55, 56, 57, 45]⟩ : ByteArray) t102 _ A8.out).mono ?_); rintro e w9 ⟨rfl, hb⟩; have n0_ := Aside0.mk (below_step (by repeat (first | (with_reducible first | exact HB.out | apply below_alloc | apply pw_below_drewN | apply below_drew1) | exact HB.out)) hb); clear HB; have HB := n0_; clear n0_; (try clear hb); (try clear hb2); (try clear hk); (try clear hi)))
            go_ret
            exact ⟨by first | rfl | (simp [errW_none, errW_some] <;> rfl) | (simp [*, errW_none, errW_some] <;> rfl), by repeat (first | (with_reducible first | exact HB.out | apply below_alloc | apply pw_below_drewN | apply below_drew1) | exact HB.out)⟩
          · replace c7 := Bool.eq_false_iff.mpr c7
            subst c7
            have H1 : (some false) = some r := by rw [if_neg (show ¬ (false = true) by decide)] at H; exact H
            clear H
            have H := H1
            clear H1
            obtain rfl := Option.some.inj H
            go_enter Tryd.func83, Tryd.ntmps83
            go_wp2_with (first | (go_at_call 111; (with_reducible refine (strings_Contains.calls (⟨#[97, 98, 99, 100, 101, 102, 103, 104, 105, 106, 107, 108, 109, 110, 111, 112, 113, 114, 115, 116, 117, 118, 119, 120, 121, 122]⟩ : ByteArray) (a0.extract 0 1) false _ ?side1 A6.out).mono ?_); (case side1 => first | (with_reducible exact HG.out) | (with_reducible exact (HG.out).below HB.out) | (with_reducible exact (HG.out).same World.heap_drewN) | (refine (HG.out).below ?_; (repeat (first | (with_reducible first | exact HB.out | apply below_alloc | apply pw_below_drewN | apply below_drew1) | exact HB.out)); done) | exact (HG.out).same rfl); rintro e w' ⟨rfl, ⟨nd, rfl⟩⟩))
            go_ret
            exact ⟨by first | rfl | (simp [errW_none, errW_some] <;> rfl) | (simp [*, errW_none, errW_some] <;> rfl), by repeat (first | (with_reducible first | exact HB.out | apply below_alloc | apply pw_below_drewN | apply below_drew1) | exact HB.out)⟩
        · rw [if_neg c5] at H
          exact absurd H (by simp)
      · rw [if_neg c4] at H
        exact absurd H (by simp)
    · rw [if_neg c3] at H
      have c3b0 : decide ((a0.size : Int) ≤ 16) = false := decide_eq_false c3
      have c3b1 : decide (a0.size ≤ 16) = false := decide_eq_false (by omega)
      clear c3
      obtain rfl := Option.some.inj H
      go_enter Tryd.func83, Tryd.ntmps83
      go_wp2
      go_ret
      exact ⟨by first | rfl | (simp [errW_none, errW_some] <;> rfl) | (simp [*, errW_none, errW_some] <;> rfl), by repeat (first | (with_reducible first | exact HB.out | apply below_alloc | apply pw_below_drewN | apply below_drew1) | exact HB.out)⟩
end Go.Proofs.YthnafgffanlnfaaDoor.PSrc
namespace Go.Proofs.YthnafgffanlnfaaDoor.PSrc
open Go.RowKit Go.Proofs.YthnafgffanlnfaaDoorW.PrintWords Go.Proofs.YthnafgffanlnfaaDoorW.PrintLast Go.Proofs.YthnafgffanlnfaaDoorW.PrintMore
attribute [local go_sem] max2_int min2_int max_two min_two max_three min_three max_four min_four   -- for this text's walks alone
set_option linter.unusedVariables false
set_option linter.unusedSimpArgs false
def bits_High.f (a0 : Int) : Option (Int) := some ((a0 / 256) % 256)
set_option maxHeartbeats 8000000 in
set_option maxRecDepth 100000 in
theorem bits_High.calls (a0 : Int) (r : Int) (w : World) (h : bits_High.f a0 = some r) :
    Calls Tryd.prog 142 #[.int .u16 a0] w fun e w' => e = .returned (.int .u8 r) ∧ Drawn0 w w' := by
  have H : (some ((a0 / 256) % 256)) = some r := h
  clear h
  obtain rfl := Option.some.inj H
  go_enter Tryd.func142, Tryd.ntmps142
  go_wp2
  go_ret
  exact ⟨by first | rfl | (simp; done) | (simp [*]; done), by repeat (first | exact Drawn0.refl _ | apply Drawn0.step)⟩
end Go.Proofs.YthnafgffanlnfaaDoor.PSrc
namespace Go.Proofs.YthnafgffanlnfaaDoor.PSrc
open Go.RowKit Go.Proofs.YthnafgffanlnfaaDoorW.PrintWords Go.Proofs.YthnafgffanlnfaaDoorW.PrintLast Go.Proofs.YthnafgffanlnfaaDoorW.PrintMore
attribute [local go_sem] max2_int min2_int max_two min_two max_three min_three max_four min_four   -- for this text's walks alone
set_option linter.unusedVariables false
set_option linter.unusedSimpArgs false
def bits_Low.f (a0 : Int) : Option (Int) := some ((a0) % 256)
set_option maxHeartbeats 8000000 in
set_option maxRecDepth 100000 in
theorem bits_Low.calls (a0 : Int) (r : Int) (w : World) (h : bits_Low.f a0 = some r) :
    Calls Tryd.prog 143 #[.int .u16 a0] w fun e w' => e = .returned (.int .u8 r) ∧ Drawn0 w w' := by
  have H : (some ((a0) % 256)) = some r := h
  clear h
  obtain rfl := Option.some.inj H
  go_enter Tryd.func143, Tryd.ntmps143
  go_wp2
  go_ret
  exact ⟨by first | rfl | (simp; done) | (simp [*]; done), by repeat (first | exact Drawn0.refl _ | apply Drawn0.step)⟩
end Go.Proofs.YthnafgffanlnfaaDoor.PSrc
