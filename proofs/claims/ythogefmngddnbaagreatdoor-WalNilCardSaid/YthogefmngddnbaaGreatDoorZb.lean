/- The shelf at this program, as the kit lays it: contracts of the library functions, in plain words. -/
import Derived.Shelf.Strings.Builder1
import Derived.Shelf.Strings.Builder2
import Derived.Shelf.Small.Bits
import Derived.Shelf.Small.Wraps
import Derived.Shelf.Strings.BuilderF
import Derived.Shelf.Strings.BuilderK
import Derived.Shelf.Utf8.RuneCount
import Derived.Shelf.Strconv.Atoi
import Derived.Shelf.Strconv.Itoa0
import Derived.Shelf.Strconv.Itoa1
import Derived.Shelf.LaysM
import Derived.Shelf.Strconv.Itoa2
import Derived.Shelf.Strconv.Itoa3
import Derived.Shelf.Strconv.AtoiErrFast
import Derived.Shelf.Strconv.ParseIntEmpty
import Derived.Shelf.Strconv.AtoiFail
import Derived.Shelf.Strconv.Clone
import Derived.Shelf.Strconv.SyntaxError
import Derived.Shelf.LaysC
import Derived.Shelf.Strconv.ToError
import Derived.Shelf.Strconv.Lower
import Derived.Shelf.Strconv.ParseUint10
import Derived.Shelf.Strconv.ParseUint10Empty
import Derived.Shelf.Strconv.ParseUint10Any
import Derived.Shelf.Strconv.ParseInt10
import Derived.Shelf.Strconv.AtoiLong
import Derived.Shelf.Strconv.AtoiInnerAll
import Derived.Shelf.Strconv.RangeError
import Derived.Shelf.Strconv.ToErrorRange
import Derived.Shelf.Strconv.AtoiAll
import Derived.Shelf.Strconv.ErrVarAll
import Derived.Shelf.Strings.Search1
import Derived.Shelf.Strings.Search2
import Derived.Shelf.Strings.Search3
import Derived.Shelf.Strings.Count
import Derived.Shelf.Strings.Shaped
import Derived.Shelf.Strings.Prefix
import Derived.Shelf.Strings.Split
import Derived.Shelf.Strings.Replace
import Derived.Shelf.Strings.SplitShaped
import Derived.Shelf.Unicode.Decode
import Derived.Shelf.Strings.RuneCount
import Derived.Shelf.Bits.Mul64
import Derived.Shelf.Strings.Repeat
import Derived.Shelf.Unicode.DecodeSlow
import Derived.Shelf.Unicode.DecodeAny
import Derived.Ground.Names2Prog
import Derived.Shelf.Slices.Clone
import Derived.Shelf.Slices.CompactS
import Derived.Shelf.Slices.Cells
import Derived.Ground.SlgnProg
import Derived.Shelf.SlicesE.Clone
import Derived.Ground.SlgmProg
import Derived.Shelf.SortM.Plain
import Derived.Shelf.SortM.SortNone
import Derived.Test.YthogefmngddnbaaGreatDoorProg
import Derived.Test.YthogefmngddnbaaGreatDoorZa
import Derived.Lib.AtoiTie
set_option linter.unusedVariables false
set_option linter.unusedSimpArgs false
namespace Go.Proofs
open Go.Shelf
def Tryz.lays170_ren : Go.Shelf.Ren := ⟨fun | 170 => 212 | n => n, fun | 70 => 150 | 3 => 3 | 0 => 0 | 72 => 152 | 37 => 32 | 5 => 5 | n => n, fun | n => n⟩
theorem Tryz.lays170 : Go.Proofs.Lays.n170 Tryz.prog Tryz.lays170_ren := {
  mixed := by kernel_rfl
  f170 := Tryz.func212.trans (congrArg some (by kernel_rfl))
  t0 := Tryz.underlying0
  a0 := Tryz.isAgg0
  z0 := Tryz.sizeOf0
  v0 := Tryz.zeroValue0
  t3 := Tryz.underlying3
  a3 := Tryz.isAgg3
  z3 := Tryz.sizeOf3
  v3 := Tryz.zeroValue3
  t37 := Tryz.underlying32
  a37 := Tryz.isAgg32
  z37 := Tryz.sizeOf32
  v37 := Tryz.zeroValue32
  t70 := Tryz.underlying150
  a70 := Tryz.isAgg150
  z70 := Tryz.sizeOf150
  v70 := Tryz.zeroValue150
  t72 := Tryz.underlying152
  a72 := Tryz.isAgg152
  z72 := Tryz.sizeOf152
  v72 := Tryz.zeroValue152 }
open Go.RowKit in
theorem Tryz.Builder_Len (B b : Nat) (bs : List Value) (w : World) (h : Lib.IsBuilder 152 5 B b bs w) :
    Calls Tryz.prog 212 #[.pointer (some ⟨b, 0, none⟩)] w fun e w' => e = .returned (.int .i64 bs.length) ∧ w' = w := Any.Builder_Len Tryz.lays170 B b bs w h
def Tryz.lays169_ren : Go.Shelf.Ren := ⟨fun | 169 => 115 | n => n, fun | 70 => 150 | 9 => 9 | 0 => 0 | 72 => 152 | 37 => 32 | 127 => 191 | 3 => 3 | 5 => 5 | n => n, fun | n => n⟩
theorem Tryz.lays169 : Go.Proofs.Lays.n169 Tryz.prog Tryz.lays169_ren := {
  mixed := by kernel_rfl
  f169 := Tryz.func115.trans (congrArg some (by kernel_rfl))
  t0 := Tryz.underlying0
  a0 := Tryz.isAgg0
  z0 := Tryz.sizeOf0
  v0 := Tryz.zeroValue0
  t3 := Tryz.underlying3
  a3 := Tryz.isAgg3
  z3 := Tryz.sizeOf3
  v3 := Tryz.zeroValue3
  t9 := Tryz.underlying9
  a9 := Tryz.isAgg9
  z9 := Tryz.sizeOf9
  v9 := Tryz.zeroValue9
  t37 := Tryz.underlying32
  a37 := Tryz.isAgg32
  z37 := Tryz.sizeOf32
  v37 := Tryz.zeroValue32
  t70 := Tryz.underlying150
  a70 := Tryz.isAgg150
  z70 := Tryz.sizeOf150
  v70 := Tryz.zeroValue150
  t72 := Tryz.underlying152
  a72 := Tryz.isAgg152
  z72 := Tryz.sizeOf152
  v72 := Tryz.zeroValue152
  t127 := Tryz.underlying191
  a127 := Tryz.isAgg191
  z127 := Tryz.sizeOf191
  v127 := Tryz.zeroValue191 }
theorem Tryz.Builder_Extra_169 : Builder.Extra Tryz.prog Tryz.lays169_ren := {
  sizeBuilder := by kernel_rfl
  liesBuilder := by kernel_rfl
  t5 := Tryz.underlying5
  a5 := Tryz.isAgg5
  z5 := Tryz.sizeOf5
  v5 := Tryz.zeroValue5
  infoByte := by kernel_rfl
  cellsByte := by kernel_rfl
  sizeByte := by kernel_rfl
  neB5 := by decide }
open Go.RowKit in
theorem Tryz.Builder_String (B b : Nat) (l : List UInt8) (w : World) (h : Lib.IsBuilder 152 5 B b (Lib.byteCells l) w) (h0 : l ≠ []) :
    Calls Tryz.prog 115 #[.pointer (some ⟨b, 0, none⟩)] w fun e w' => e = .returned (.string ⟨l.toArray⟩) ∧ Below B w w' := Any.Builder_String Tryz.lays169 Tryz.Builder_Extra_169 B b l w h h0
open Go.RowKit in
theorem Tryz.Builder_String_empty (B b : Nat) (w : World) (h : Lib.IsBuilder 152 5 B b [] w) (hBw : B ≤ w.heap.size) :
    Calls Tryz.prog 115 #[.pointer (some ⟨b, 0, none⟩)] w fun e w' => e = .returned (.string ⟨#[]⟩) ∧ Below B w w' := Any.Builder_String_empty Tryz.lays169 Tryz.Builder_Extra_169 B b w h hBw
open Go.RowKit in
theorem Tryz.Builder_String_any (B b : Nat) (l : List UInt8) (w : World) (h : Lib.IsBuilder 152 5 B b (Lib.byteCells l) w) (hBw : B ≤ w.heap.size) :
    Calls Tryz.prog 115 #[.pointer (some ⟨b, 0, none⟩)] w fun e w' => e = .returned (.string ⟨l.toArray⟩) ∧ Below B w w' := Any.Builder_String_any Tryz.lays169 Tryz.Builder_Extra_169 B b l w h hBw
def Tryz.lays241_ren : Go.Shelf.Ren := ⟨fun | 241 => 238 | 277 => 259 | n => n, fun | 70 => 150 | 3 => 3 | 0 => 0 | 72 => 152 | 37 => 32 | 5 => 5 | n => n, fun | n => n⟩
theorem Tryz.lays241 : Go.Proofs.Lays.n241 Tryz.prog Tryz.lays241_ren := {
  mixed := by kernel_rfl
  f241 := Tryz.func238.trans (congrArg some (by kernel_rfl))
  f277 := Tryz.func259.trans (congrArg some (by kernel_rfl))
  t0 := Tryz.underlying0
  a0 := Tryz.isAgg0
  z0 := Tryz.sizeOf0
  v0 := Tryz.zeroValue0
  t3 := Tryz.underlying3
  a3 := Tryz.isAgg3
  z3 := Tryz.sizeOf3
  v3 := Tryz.zeroValue3
  t37 := Tryz.underlying32
  a37 := Tryz.isAgg32
  z37 := Tryz.sizeOf32
  v37 := Tryz.zeroValue32
  t70 := Tryz.underlying150
  a70 := Tryz.isAgg150
  z70 := Tryz.sizeOf150
  v70 := Tryz.zeroValue150
  t72 := Tryz.underlying152
  a72 := Tryz.isAgg152
  z72 := Tryz.sizeOf152
  v72 := Tryz.zeroValue152 }
theorem Tryz.Builder_Extra_241 : Builder.Extra Tryz.prog Tryz.lays241_ren := {
  sizeBuilder := by kernel_rfl
  liesBuilder := by kernel_rfl
  t5 := Tryz.underlying5
  a5 := Tryz.isAgg5
  z5 := Tryz.sizeOf5
  v5 := Tryz.zeroValue5
  infoByte := by kernel_rfl
  cellsByte := by kernel_rfl
  sizeByte := by kernel_rfl
  neB5 := by decide }
open Go.RowKit in
theorem Tryz.Builder_grow_fresh (B b n : Nat) (w : World) (hB : B ≤ b) (hbk : w.heap[b]? = some (.cells #[.pointer (some ⟨b, 0, none⟩), .slice none 0 0] 152 (0, 0))) (hBw : B ≤ w.heap.size) (hn : n ≤ 281474976710656) :
    Calls Tryz.prog 238 #[.pointer (some ⟨b, 0, none⟩), .int .i64 n] w fun e w' => e = .returned (.tuple #[]) ∧ (Lib.BuilderAt 152 5 B b (.pointer (some ⟨b, 0, none⟩)) [] w' ∧ Below B w w') := Any.Builder_grow_fresh Tryz.lays241 Tryz.Builder_Extra_241 B b n w hB hbk hBw hn
def Tryz.lays165_ren : Go.Shelf.Ren := ⟨fun | 165 => 196 | 240 => 171 | 241 => 238 | 276 => 208 | 277 => 259 | n => n, fun | 70 => 150 | 3 => 3 | 0 => 0 | 4 => 4 | 9 => 9 | 20 => 20 | 72 => 152 | 37 => 32 | 164 => 219 | 5 => 5 | n => n, fun | n => n⟩
theorem Tryz.lays165 : Go.Proofs.Lays.n165 Tryz.prog Tryz.lays165_ren := {
  mixed := by kernel_rfl
  f165 := Tryz.func196.trans (congrArg some (by kernel_rfl))
  f240 := Tryz.func171.trans (congrArg some (by kernel_rfl))
  f241 := Tryz.func238.trans (congrArg some (by kernel_rfl))
  f276 := Tryz.func208.trans (congrArg some (by kernel_rfl))
  f277 := Tryz.func259.trans (congrArg some (by kernel_rfl))
  t0 := Tryz.underlying0
  a0 := Tryz.isAgg0
  z0 := Tryz.sizeOf0
  v0 := Tryz.zeroValue0
  t3 := Tryz.underlying3
  a3 := Tryz.isAgg3
  z3 := Tryz.sizeOf3
  v3 := Tryz.zeroValue3
  t4 := Tryz.underlying4
  a4 := Tryz.isAgg4
  z4 := Tryz.sizeOf4
  v4 := Tryz.zeroValue4
  t9 := Tryz.underlying9
  a9 := Tryz.isAgg9
  z9 := Tryz.sizeOf9
  v9 := Tryz.zeroValue9
  t20 := Tryz.underlying20
  a20 := Tryz.isAgg20
  z20 := Tryz.sizeOf20
  v20 := Tryz.zeroValue20
  t37 := Tryz.underlying32
  a37 := Tryz.isAgg32
  z37 := Tryz.sizeOf32
  v37 := Tryz.zeroValue32
  t70 := Tryz.underlying150
  a70 := Tryz.isAgg150
  z70 := Tryz.sizeOf150
  v70 := Tryz.zeroValue150
  t72 := Tryz.underlying152
  a72 := Tryz.isAgg152
  z72 := Tryz.sizeOf152
  v72 := Tryz.zeroValue152
  t164 := Tryz.underlying219
  a164 := Tryz.isAgg219
  z164 := Tryz.sizeOf219
  v164 := Tryz.zeroValue219 }
theorem Tryz.Builder_Extra_165 : Builder.Extra Tryz.prog Tryz.lays165_ren := {
  sizeBuilder := by kernel_rfl
  liesBuilder := by kernel_rfl
  t5 := Tryz.underlying5
  a5 := Tryz.isAgg5
  z5 := Tryz.sizeOf5
  v5 := Tryz.zeroValue5
  infoByte := by kernel_rfl
  cellsByte := by kernel_rfl
  sizeByte := by kernel_rfl
  neB5 := by decide }
open Go.RowKit in
theorem Tryz.Builder_Grow_fresh (B b n : Nat) (w : World) (hB : B ≤ b) (hbk : w.heap[b]? = some (.cells #[.pointer none, .slice none 0 0] 152 (0, 0))) (hBw : B ≤ w.heap.size) (hn : n ≤ 281474976710656) :
    Calls Tryz.prog 196 #[.pointer (some ⟨b, 0, none⟩), .int .i64 n] w fun e w' => e = .returned (.tuple #[]) ∧ (Lib.BuilderAt 152 5 B b (.pointer (some ⟨b, 0, none⟩)) [] w' ∧ Below B w w') := Any.Builder_Grow_fresh Tryz.lays165 Tryz.Builder_Extra_165 B b n w hB hbk hBw hn
def Tryz.lays128_ren : Go.Shelf.Ren := ⟨fun | 128 => 222 | n => n, fun | 51 => 217 | 3 => 3 | 4 => 4 | 46 => 182 | 5 => 5 | 9 => 9 | n => n, fun | n => n⟩
theorem Tryz.lays128 : Go.Proofs.Lays.n128 Tryz.prog Tryz.lays128_ren := {
  mixed := by kernel_rfl
  f128 := Tryz.func222.trans (congrArg some (by kernel_rfl))
  t3 := Tryz.underlying3
  a3 := Tryz.isAgg3
  z3 := Tryz.sizeOf3
  v3 := Tryz.zeroValue3
  t4 := Tryz.underlying4
  a4 := Tryz.isAgg4
  z4 := Tryz.sizeOf4
  v4 := Tryz.zeroValue4
  t5 := Tryz.underlying5
  a5 := Tryz.isAgg5
  z5 := Tryz.sizeOf5
  v5 := Tryz.zeroValue5
  t9 := Tryz.underlying9
  a9 := Tryz.isAgg9
  z9 := Tryz.sizeOf9
  v9 := Tryz.zeroValue9
  t46 := Tryz.underlying182
  a46 := Tryz.isAgg182
  z46 := Tryz.sizeOf182
  v46 := Tryz.zeroValue182
  t51 := Tryz.underlying217
  a51 := Tryz.isAgg217
  z51 := Tryz.sizeOf217
  v51 := Tryz.zeroValue217 }
theorem Tryz.bits_Len32 (x : Int) (w : World) (h0 : 0 ≤ x) (h1 : x ≤ 4294967295) :
    Calls Tryz.prog 222 #[.int .u32 x] w fun e w' => e = .returned (.int .i64 (Lib.bitLen x.toNat)) ∧ w' = w := Any.bits_Len32 Tryz.lays128 x w h0 h1
def Tryz.lays125_ren : Go.Shelf.Ren := ⟨fun | 125 => 177 | 128 => 222 | 129 => 223 | n => n, fun | 46 => 182 | 3 => 3 | 51 => 217 | 53 => 143 | 4 => 4 | 5 => 5 | 9 => 9 | n => n, fun | n => n⟩
theorem Tryz.lays125 : Go.Proofs.Lays.n125 Tryz.prog Tryz.lays125_ren := {
  mixed := by kernel_rfl
  f125 := Tryz.func177.trans (congrArg some (by kernel_rfl))
  f128 := Tryz.func222.trans (congrArg some (by kernel_rfl))
  f129 := Tryz.func223.trans (congrArg some (by kernel_rfl))
  t3 := Tryz.underlying3
  a3 := Tryz.isAgg3
  z3 := Tryz.sizeOf3
  v3 := Tryz.zeroValue3
  t4 := Tryz.underlying4
  a4 := Tryz.isAgg4
  z4 := Tryz.sizeOf4
  v4 := Tryz.zeroValue4
  t5 := Tryz.underlying5
  a5 := Tryz.isAgg5
  z5 := Tryz.sizeOf5
  v5 := Tryz.zeroValue5
  t9 := Tryz.underlying9
  a9 := Tryz.isAgg9
  z9 := Tryz.sizeOf9
  v9 := Tryz.zeroValue9
  t46 := Tryz.underlying182
  a46 := Tryz.isAgg182
  z46 := Tryz.sizeOf182
  v46 := Tryz.zeroValue182
  t51 := Tryz.underlying217
  a51 := Tryz.isAgg217
  z51 := Tryz.sizeOf217
  v51 := Tryz.zeroValue217
  t53 := Tryz.underlying143
  a53 := Tryz.isAgg143
  z53 := Tryz.sizeOf143
  v53 := Tryz.zeroValue143 }
theorem Tryz.bits_Len (x : Int) (w : World) (h0 : 0 ≤ x) (h1 : x ≤ 18446744073709551615) :
    Calls Tryz.prog 177 #[.int .u64 x] w fun e w' => e = .returned (.int .i64 (Lib.bitLen x.toNat)) ∧ w' = w := Any.bits_Len Tryz.lays125 x w h0 h1
def Tryz.lays210_ren : Go.Shelf.Ren := ⟨fun | 210 => 180 | 206 => 224 | n => n, fun | 9 => 9 | 4 => 4 | 3 => 3 | n => n, fun | n => n⟩
theorem Tryz.lays210 : Go.Proofs.Lays.n210 Tryz.prog Tryz.lays210_ren := {
  mixed := by kernel_rfl
  f206 := Tryz.func224.trans (congrArg some (by kernel_rfl))
  f210 := Tryz.func180.trans (congrArg some (by kernel_rfl))
  t3 := Tryz.underlying3
  a3 := Tryz.isAgg3
  z3 := Tryz.sizeOf3
  v3 := Tryz.zeroValue3
  t4 := Tryz.underlying4
  a4 := Tryz.isAgg4
  z4 := Tryz.sizeOf4
  v4 := Tryz.zeroValue4
  t9 := Tryz.underlying9
  a9 := Tryz.isAgg9
  z9 := Tryz.sizeOf9
  v9 := Tryz.zeroValue9 }
open Go.RowKit in
theorem Tryz.stringslite_CutPrefix (s p : ByteArray) (w : World) :
    Calls Tryz.prog 180 #[.string s, .string p] w fun e w' => e = .returned (.tuple #[.string ⟨(Lib.trimPrefix s.data.toList p.data.toList).toArray⟩, .bool (Lib.hasPrefix s.data.toList p.data.toList)]) ∧ w' = w := Any.stringslite_CutPrefix Tryz.lays210 s p w
def Tryz.lays103_ren : Go.Shelf.Ren := ⟨fun | 103 => 129 | 210 => 180 | 206 => 224 | n => n, fun | 9 => 9 | 4 => 4 | 24 => 162 | 3 => 3 | n => n, fun | n => n⟩
theorem Tryz.lays103 : Go.Proofs.Lays.n103 Tryz.prog Tryz.lays103_ren := {
  mixed := by kernel_rfl
  f103 := Tryz.func129.trans (congrArg some (by kernel_rfl))
  f206 := Tryz.func224.trans (congrArg some (by kernel_rfl))
  f210 := Tryz.func180.trans (congrArg some (by kernel_rfl))
  t3 := Tryz.underlying3
  a3 := Tryz.isAgg3
  z3 := Tryz.sizeOf3
  v3 := Tryz.zeroValue3
  t4 := Tryz.underlying4
  a4 := Tryz.isAgg4
  z4 := Tryz.sizeOf4
  v4 := Tryz.zeroValue4
  t9 := Tryz.underlying9
  a9 := Tryz.isAgg9
  z9 := Tryz.sizeOf9
  v9 := Tryz.zeroValue9
  t24 := Tryz.underlying162
  a24 := Tryz.isAgg162
  z24 := Tryz.sizeOf162
  v24 := Tryz.zeroValue162 }
open Go.RowKit in
theorem Tryz.strings_CutPrefix (s p : ByteArray) (w : World) :
    Calls Tryz.prog 129 #[.string s, .string p] w fun e w' => e = .returned (.tuple #[.string ⟨(Lib.trimPrefix s.data.toList p.data.toList).toArray⟩, .bool (Lib.hasPrefix s.data.toList p.data.toList)]) ∧ w' = w := Any.strings_CutPrefix Tryz.lays103 s p w
open Go.RowKit in
theorem Tryz.Builder_Len_f (B b : Nat) (bs : List Value) (w : World) (h : Lib.IsBuilderF 152 5 B b bs w) :
    Calls Tryz.prog 212 #[.pointer (some ⟨b, 0, none⟩)] w fun e w' => e = .returned (.int .i64 bs.length) ∧ w' = w := Any.Builder_Len_f Tryz.lays170 B b bs w h
open Go.RowKit in
theorem Tryz.Builder_String_f (B b : Nat) (l : List UInt8) (w : World) (h : Lib.IsBuilderF 152 5 B b (Lib.byteCells l) w) (h0 : l ≠ []) :
    Calls Tryz.prog 115 #[.pointer (some ⟨b, 0, none⟩)] w fun e w' => e = .returned (.string ⟨l.toArray⟩) ∧ (Lib.IsBuilderF 152 5 B b (Lib.byteCells l) w' ∧ Below B w w') := Any.Builder_String_f Tryz.lays169 Tryz.Builder_Extra_169 B b l w h h0
open Go.RowKit in
theorem Tryz.Builder_String_empty_f (B b : Nat) (w : World) (h : Lib.IsBuilderF 152 5 B b [] w) (hBw : B ≤ w.heap.size) :
    Calls Tryz.prog 115 #[.pointer (some ⟨b, 0, none⟩)] w fun e w' => e = .returned (.string ⟨#[]⟩) ∧ (Lib.IsBuilderF 152 5 B b [] w' ∧ Below B w w') := Any.Builder_String_empty_f Tryz.lays169 Tryz.Builder_Extra_169 B b w h hBw
open Go.RowKit in
theorem Tryz.Builder_String_any_f (B b : Nat) (l : List UInt8) (w : World) (h : Lib.IsBuilderF 152 5 B b (Lib.byteCells l) w) (hBw : B ≤ w.heap.size) :
    Calls Tryz.prog 115 #[.pointer (some ⟨b, 0, none⟩)] w fun e w' => e = .returned (.string ⟨l.toArray⟩) ∧ (Lib.IsBuilderF 152 5 B b (Lib.byteCells l) w' ∧ Below B w w') := Any.Builder_String_any_f Tryz.lays169 Tryz.Builder_Extra_169 B b l w h hBw
open Go.RowKit in
theorem Tryz.Builder_String_k (B b : Nat) (l : List UInt8) (w : World) (h : Lib.IsBuilderF 152 5 B b (Lib.byteCells l) w) (h0 : l ≠ []) :
    Calls Tryz.prog 115 #[.pointer (some ⟨b, 0, none⟩)] w fun e w' => e = .returned (.string ⟨l.toArray⟩) ∧ (Lib.IsBuilderF 152 5 B b (Lib.byteCells l) w' ∧ Below B w w' ∧ Lib.OthersKept 5 (some b) w w') := Any.Builder_String_k Tryz.lays169 Tryz.Builder_Extra_169 B b l w h h0
open Go.RowKit in
theorem Tryz.Builder_String_empty_k (B b : Nat) (w : World) (h : Lib.IsBuilderF 152 5 B b [] w) (hBw : B ≤ w.heap.size) :
    Calls Tryz.prog 115 #[.pointer (some ⟨b, 0, none⟩)] w fun e w' => e = .returned (.string ⟨#[]⟩) ∧ (Lib.IsBuilderF 152 5 B b [] w' ∧ Below B w w' ∧ Lib.OthersKept 5 (some b) w w') := Any.Builder_String_empty_k Tryz.lays169 Tryz.Builder_Extra_169 B b w h hBw
open Go.RowKit in
theorem Tryz.Builder_String_any_k (B b : Nat) (l : List UInt8) (w : World) (h : Lib.IsBuilderF 152 5 B b (Lib.byteCells l) w) (hBw : B ≤ w.heap.size) :
    Calls Tryz.prog 115 #[.pointer (some ⟨b, 0, none⟩)] w fun e w' => e = .returned (.string ⟨l.toArray⟩) ∧ (Lib.IsBuilderF 152 5 B b (Lib.byteCells l) w' ∧ Below B w w' ∧ Lib.OthersKept 5 (some b) w w') := Any.Builder_String_any_k Tryz.lays169 Tryz.Builder_Extra_169 B b l w h hBw
def Tryz.lays195_ren : Go.Shelf.Ren := ⟨fun | 195 => 236 | n => n, fun | 9 => 9 | 3 => 3 | 0 => 0 | 4 => 4 | n => n, fun | n => n⟩
theorem Tryz.lays195 : Go.Proofs.Lays.n195 Tryz.prog Tryz.lays195_ren := {
  mixed := by kernel_rfl
  f195 := Tryz.func236.trans (congrArg some (by kernel_rfl))
  t0 := Tryz.underlying0
  a0 := Tryz.isAgg0
  z0 := Tryz.sizeOf0
  v0 := Tryz.zeroValue0
  t3 := Tryz.underlying3
  a3 := Tryz.isAgg3
  z3 := Tryz.sizeOf3
  v3 := Tryz.zeroValue3
  t4 := Tryz.underlying4
  a4 := Tryz.isAgg4
  z4 := Tryz.sizeOf4
  v4 := Tryz.zeroValue4
  t9 := Tryz.underlying9
  a9 := Tryz.isAgg9
  z9 := Tryz.sizeOf9
  v9 := Tryz.zeroValue9 }
open Go.RowKit in
theorem Tryz.utf8_RuneCountInString (s : ByteArray) (w : World) (hs : s.size < 9223372036854775807) :
    Calls Tryz.prog 236 #[.string s] w fun e w' => e = .returned (.int .i64 (Lib.runeCount s)) ∧ ∃ pos, w' = w.iter s pos := Any.utf8_RuneCountInString Tryz.lays195 s w hs
def Tryz.lays244_ren : Go.Shelf.Ren := ⟨fun | 244 => 181 | 247 => 225 | 287 => 252 | 321 => 269 | 322 => 270 | n => n, fun | 9 => 9 | 3 => 3 | 75 => 154 | 4 => 4 | 5 => 5 | 167 => 233 | 37 => 32 | 0 => 0 | 85 => 234 | 2 => 2 | 53 => 143 | 175 => 259 | 46 => 182 | 21 => 21 | 80 => 42 | n => n, fun | n => n⟩
theorem Tryz.lays244 : Go.Proofs.Lays.n244 Tryz.prog Tryz.lays244_ren := {
  mixed := by kernel_rfl
  f244 := Tryz.func181.trans (congrArg some (by kernel_rfl))
  f247 := Tryz.func225.trans (congrArg some (by kernel_rfl))
  f287 := Tryz.func252.trans (congrArg some (by kernel_rfl))
  f321 := Tryz.func269.trans (congrArg some (by kernel_rfl))
  f322 := Tryz.func270.trans (congrArg some (by kernel_rfl))
  t0 := Tryz.underlying0
  a0 := Tryz.isAgg0
  z0 := Tryz.sizeOf0
  v0 := Tryz.zeroValue0
  t2 := Tryz.underlying2
  a2 := Tryz.isAgg2
  z2 := Tryz.sizeOf2
  v2 := Tryz.zeroValue2
  t3 := Tryz.underlying3
  a3 := Tryz.isAgg3
  z3 := Tryz.sizeOf3
  v3 := Tryz.zeroValue3
  t4 := Tryz.underlying4
  a4 := Tryz.isAgg4
  z4 := Tryz.sizeOf4
  v4 := Tryz.zeroValue4
  t5 := Tryz.underlying5
  a5 := Tryz.isAgg5
  z5 := Tryz.sizeOf5
  v5 := Tryz.zeroValue5
  t9 := Tryz.underlying9
  a9 := Tryz.isAgg9
  z9 := Tryz.sizeOf9
  v9 := Tryz.zeroValue9
  t21 := Tryz.underlying21
  a21 := Tryz.isAgg21
  z21 := Tryz.sizeOf21
  v21 := Tryz.zeroValue21
  t37 := Tryz.underlying32
  a37 := Tryz.isAgg32
  z37 := Tryz.sizeOf32
  v37 := Tryz.zeroValue32
  t46 := Tryz.underlying182
  a46 := Tryz.isAgg182
  z46 := Tryz.sizeOf182
  v46 := Tryz.zeroValue182
  t53 := Tryz.underlying143
  a53 := Tryz.isAgg143
  z53 := Tryz.sizeOf143
  v53 := Tryz.zeroValue143
  t75 := Tryz.underlying154
  a75 := Tryz.isAgg154
  z75 := Tryz.sizeOf154
  v75 := Tryz.zeroValue154
  t85 := Tryz.underlying234
  a85 := Tryz.isAgg234
  z85 := Tryz.sizeOf234
  v85 := Tryz.zeroValue234
  t167 := Tryz.underlying233
  a167 := Tryz.isAgg233
  z167 := Tryz.sizeOf233
  v167 := Tryz.zeroValue233
  t175 := Tryz.underlying259
  a175 := Tryz.isAgg259
  z175 := Tryz.sizeOf259
  v175 := Tryz.zeroValue259 }
open Go.RowKit in
theorem Tryz.internal_strconv_Atoi (s : ByteArray) (n : Int) (hl : s.size ≤ 18) (h : Lib.atoi s.data.toList = some n) (w : World) :
    Calls Tryz.prog 181 #[.string s] w fun e w' => e = .returned (.tuple #[.int .i64 n, .nilIface]) ∧ ∃ t, w' = Lib.bytesWorld w 5 t := Any.internal_strconv_Atoi Tryz.lays244 s n hl h w
def Tryz.lays172_ren : Go.Shelf.Ren := ⟨fun | 172 => 130 | 244 => 181 | 245 => 182 | 247 => 225 | 279 => 226 | 280 => 227 | 281 => 228 | 282 => 229 | 287 => 252 | 316 => 253 | 171 => 172 | 205 => 254 | 321 => 269 | 322 => 270 | 243 => 209 | 246 => 243 | 283 => 264 | 284 => 265 | 285 => 266 | 286 => 267 | 129 => 223 | 317 => 274 | 318 => 275 | 319 => 276 | 320 => 277 | 337 => 279 | 338 => 280 | n => n, fun | 9 => 9 | 3 => 3 | 75 => 154 | 76 => 155 | 4 => 4 | 5 => 5 | 167 => 233 | 37 => 32 | 0 => 0 | 85 => 234 | 2 => 2 | 168 => 236 | 53 => 143 | 175 => 259 | 46 => 182 | 210 => 262 | 127 => 191 | 145 => 282 | 143 => 280 | 21 => 21 | 171 => 272 | 173 => 274 | 212 => 285 | 51 => 217 | 20 => 20 | 213 => 286 | 232 => 287 | 233 => 288 | 80 => 42 | n => n, fun | 15 => 0 | 16 => 1 | 17 => 6 | 18 => 7 | 19 => 8 | n => n⟩
theorem Tryz.lays172 : Go.Proofs.Lays.n172 Tryz.prog Tryz.lays172_ren := {
  mixed := by kernel_rfl
  f129 := Tryz.func223.trans (congrArg some (by kernel_rfl))
  f171 := Tryz.func172.trans (congrArg some (by kernel_rfl))
  f172 := Tryz.func130.trans (congrArg some (by kernel_rfl))
  f205 := Tryz.func254.trans (congrArg some (by kernel_rfl))
  f243 := Tryz.func209.trans (congrArg some (by kernel_rfl))
  f244 := Tryz.func181.trans (congrArg some (by kernel_rfl))
  f245 := Tryz.func182.trans (congrArg some (by kernel_rfl))
  f246 := Tryz.func243.trans (congrArg some (by kernel_rfl))
  f247 := Tryz.func225.trans (congrArg some (by kernel_rfl))
  f279 := Tryz.func226.trans (congrArg some (by kernel_rfl))
  f280 := Tryz.func227.trans (congrArg some (by kernel_rfl))
  f281 := Tryz.func228.trans (congrArg some (by kernel_rfl))
  f282 := Tryz.func229.trans (congrArg some (by kernel_rfl))
  f283 := Tryz.func264.trans (congrArg some (by kernel_rfl))
  f284 := Tryz.func265.trans (congrArg some (by kernel_rfl))
  f285 := Tryz.func266.trans (congrArg some (by kernel_rfl))
  f286 := Tryz.func267.trans (congrArg some (by kernel_rfl))
  f287 := Tryz.func252.trans (congrArg some (by kernel_rfl))
  f316 := Tryz.func253.trans (congrArg some (by kernel_rfl))
  f317 := Tryz.func274.trans (congrArg some (by kernel_rfl))
  f318 := Tryz.func275.trans (congrArg some (by kernel_rfl))
  f319 := Tryz.func276.trans (congrArg some (by kernel_rfl))
  f320 := Tryz.func277.trans (congrArg some (by kernel_rfl))
  f321 := Tryz.func269.trans (congrArg some (by kernel_rfl))
  f322 := Tryz.func270.trans (congrArg some (by kernel_rfl))
  f337 := Tryz.func279.trans (congrArg some (by kernel_rfl))
  f338 := Tryz.func280.trans (congrArg some (by kernel_rfl))
  t0 := Tryz.underlying0
  a0 := Tryz.isAgg0
  z0 := Tryz.sizeOf0
  v0 := Tryz.zeroValue0
  t2 := Tryz.underlying2
  a2 := Tryz.isAgg2
  z2 := Tryz.sizeOf2
  v2 := Tryz.zeroValue2
  t3 := Tryz.underlying3
  a3 := Tryz.isAgg3
  z3 := Tryz.sizeOf3
  v3 := Tryz.zeroValue3
  t4 := Tryz.underlying4
  a4 := Tryz.isAgg4
  z4 := Tryz.sizeOf4
  v4 := Tryz.zeroValue4
  t5 := Tryz.underlying5
  a5 := Tryz.isAgg5
  z5 := Tryz.sizeOf5
  v5 := Tryz.zeroValue5
  t9 := Tryz.underlying9
  a9 := Tryz.isAgg9
  z9 := Tryz.sizeOf9
  v9 := Tryz.zeroValue9
  t20 := Tryz.underlying20
  a20 := Tryz.isAgg20
  z20 := Tryz.sizeOf20
  v20 := Tryz.zeroValue20
  t21 := Tryz.underlying21
  a21 := Tryz.isAgg21
  z21 := Tryz.sizeOf21
  v21 := Tryz.zeroValue21
  t37 := Tryz.underlying32
  a37 := Tryz.isAgg32
  z37 := Tryz.sizeOf32
  v37 := Tryz.zeroValue32
  t46 := Tryz.underlying182
  a46 := Tryz.isAgg182
  z46 := Tryz.sizeOf182
  v46 := Tryz.zeroValue182
  t51 := Tryz.underlying217
  a51 := Tryz.isAgg217
  z51 := Tryz.sizeOf217
  v51 := Tryz.zeroValue217
  t53 := Tryz.underlying143
  a53 := Tryz.isAgg143
  z53 := Tryz.sizeOf143
  v53 := Tryz.zeroValue143
  t75 := Tryz.underlying154
  a75 := Tryz.isAgg154
  z75 := Tryz.sizeOf154
  v75 := Tryz.zeroValue154
  t76 := Tryz.underlying155
  a76 := Tryz.isAgg155
  z76 := Tryz.sizeOf155
  v76 := Tryz.zeroValue155
  t85 := Tryz.underlying234
  a85 := Tryz.isAgg234
  z85 := Tryz.sizeOf234
  v85 := Tryz.zeroValue234
  t127 := Tryz.underlying191
  a127 := Tryz.isAgg191
  z127 := Tryz.sizeOf191
  v127 := Tryz.zeroValue191
  t143 := Tryz.underlying280
  a143 := Tryz.isAgg280
  z143 := Tryz.sizeOf280
  v143 := Tryz.zeroValue280
  t145 := Tryz.underlying282
  a145 := Tryz.isAgg282
  z145 := Tryz.sizeOf282
  v145 := Tryz.zeroValue282
  t167 := Tryz.underlying233
  a167 := Tryz.isAgg233
  z167 := Tryz.sizeOf233
  v167 := Tryz.zeroValue233
  t168 := Tryz.underlying236
  a168 := Tryz.isAgg236
  z168 := Tryz.sizeOf236
  v168 := Tryz.zeroValue236
  t171 := Tryz.underlying272
  a171 := Tryz.isAgg272
  z171 := Tryz.sizeOf272
  v171 := Tryz.zeroValue272
  t173 := Tryz.underlying274
  a173 := Tryz.isAgg274
  z173 := Tryz.sizeOf274
  v173 := Tryz.zeroValue274
  t175 := Tryz.underlying259
  a175 := Tryz.isAgg259
  z175 := Tryz.sizeOf259
  v175 := Tryz.zeroValue259
  t210 := Tryz.underlying262
  a210 := Tryz.isAgg262
  z210 := Tryz.sizeOf262
  v210 := Tryz.zeroValue262
  t212 := Tryz.underlying285
  a212 := Tryz.isAgg285
  z212 := Tryz.sizeOf285
  v212 := Tryz.zeroValue285
  t213 := Tryz.underlying286
  a213 := Tryz.isAgg286
  z213 := Tryz.sizeOf286
  t232 := Tryz.underlying287
  a232 := Tryz.isAgg287
  z232 := Tryz.sizeOf287
  v232 := Tryz.zeroValue287
  t233 := Tryz.underlying288
  a233 := Tryz.isAgg288
  z233 := Tryz.sizeOf288
  v233 := Tryz.zeroValue288
  g15 := by kernel_rfl
  g16 := by kernel_rfl
  g17 := by kernel_rfl
  g18 := by kernel_rfl
  g19 := by kernel_rfl }
open Go.RowKit in
theorem Tryz.strconv_Atoi (s : ByteArray) (n : Int) (hl : s.size ≤ 18) (h : Lib.atoi s.data.toList = some n) (w : World) :
    Calls Tryz.prog 130 #[.string s] w fun e w' => e = .returned (.tuple #[.int .i64 n, .nilIface]) ∧ ∃ t, w' = Lib.bytesWorld w 5 t := Any.strconv_Atoi Tryz.lays172 s n hl h w
def Tryz.lays129_ren : Go.Shelf.Ren := ⟨fun | 129 => 223 | n => n, fun | 53 => 143 | 3 => 3 | 4 => 4 | 46 => 182 | 5 => 5 | 9 => 9 | n => n, fun | n => n⟩
theorem Tryz.lays129 : Go.Proofs.Lays.n129 Tryz.prog Tryz.lays129_ren := {
  mixed := by kernel_rfl
  f129 := Tryz.func223.trans (congrArg some (by kernel_rfl))
  t3 := Tryz.underlying3
  a3 := Tryz.isAgg3
  z3 := Tryz.sizeOf3
  v3 := Tryz.zeroValue3
  t4 := Tryz.underlying4
  a4 := Tryz.isAgg4
  z4 := Tryz.sizeOf4
  v4 := Tryz.zeroValue4
  t5 := Tryz.underlying5
  a5 := Tryz.isAgg5
  z5 := Tryz.sizeOf5
  v5 := Tryz.zeroValue5
  t9 := Tryz.underlying9
  a9 := Tryz.isAgg9
  z9 := Tryz.sizeOf9
  v9 := Tryz.zeroValue9
  t46 := Tryz.underlying182
  a46 := Tryz.isAgg182
  z46 := Tryz.sizeOf182
  v46 := Tryz.zeroValue182
  t53 := Tryz.underlying143
  a53 := Tryz.isAgg143
  z53 := Tryz.sizeOf143
  v53 := Tryz.zeroValue143 }
theorem Tryz.bits_Len64 (x : Int) (w : World) (h0 : 0 ≤ x) (h1 : x ≤ 18446744073709551615) :
    Calls Tryz.prog 223 #[.int .u64 x] w fun e w' => e = .returned (.int .i64 (Lib.bitLen x.toNat)) ∧ w' = w := Any.bits_Len64 Tryz.lays129 x w h0 h1
def Tryz.lays317_ren : Go.Shelf.Ren := ⟨fun | 317 => 274 | n => n, fun | 3 => 3 | 46 => 182 | n => n, fun | n => n⟩
theorem Tryz.lays317 : Go.Proofs.Lays.n317 Tryz.prog Tryz.lays317_ren := {
  mixed := by kernel_rfl
  f317 := Tryz.func274.trans (congrArg some (by kernel_rfl))
  t3 := Tryz.underlying3
  a3 := Tryz.isAgg3
  z3 := Tryz.sizeOf3
  v3 := Tryz.zeroValue3
  t46 := Tryz.underlying182
  a46 := Tryz.isAgg182
  z46 := Tryz.sizeOf182
  v46 := Tryz.zeroValue182 }
open Go.Lib in
theorem Tryz.internal_strconv_log10Pow2 (x : Nat) (h : x ≤ 64) (w : World) :
    Calls Tryz.prog 274 #[.int .i64 x] w fun e w' => e = .returned (.int .i64 (Lib.l10 x)) ∧ w' = w := Any.internal_strconv_log10Pow2 Tryz.lays317 x h w
def Tryz.lays318_ren : Go.Shelf.Ren := ⟨fun | 318 => 275 | n => n, fun | 3 => 3 | 4 => 4 | n => n, fun | n => n⟩
theorem Tryz.lays318 : Go.Proofs.Lays.n318 Tryz.prog Tryz.lays318_ren := {
  mixed := by kernel_rfl
  f318 := Tryz.func275.trans (congrArg some (by kernel_rfl))
  t3 := Tryz.underlying3
  a3 := Tryz.isAgg3
  z3 := Tryz.sizeOf3
  v3 := Tryz.zeroValue3
  t4 := Tryz.underlying4
  a4 := Tryz.isAgg4
  z4 := Tryz.sizeOf4
  v4 := Tryz.zeroValue4 }
open Go.Lib in
theorem Tryz.internal_strconv_bool2_int (b : Bool) (w : World) :
    Calls Tryz.prog 275 #[.bool b] w fun e w' => e = .returned (.int .i64 (if b then 1 else 0)) ∧ w' = w := Any.internal_strconv_bool2_int Tryz.lays318 b w
def Tryz.lays283_ren : Go.Shelf.Ren := ⟨fun | 283 => 264 | n => n, fun | 3 => 3 | 9 => 9 | 4 => 4 | n => n, fun | n => n⟩
theorem Tryz.lays283 : Go.Proofs.Lays.n283 Tryz.prog Tryz.lays283_ren := {
  mixed := by kernel_rfl
  f283 := Tryz.func264.trans (congrArg some (by kernel_rfl))
  t3 := Tryz.underlying3
  a3 := Tryz.isAgg3
  z3 := Tryz.sizeOf3
  v3 := Tryz.zeroValue3
  t4 := Tryz.underlying4
  a4 := Tryz.isAgg4
  z4 := Tryz.sizeOf4
  v4 := Tryz.zeroValue4
  t9 := Tryz.underlying9
  a9 := Tryz.isAgg9
  z9 := Tryz.sizeOf9
  v9 := Tryz.zeroValue9 }
open Go.Lib in
theorem Tryz.internal_strconv_small (i : Nat) (h : i < 100) (w : World) :
    Calls Tryz.prog 264 #[.int .i64 i] w fun e w' => e = .returned (.string ⟨(Lib.decDigits i).toArray⟩) ∧ w' = w := Any.internal_strconv_small Tryz.lays283 i h w
def Tryz.laysM284_ren : Go.Shelf.Ren := ⟨fun | 284 => 265 | 129 => 223 | 317 => 274 | 318 => 275 | n => n, fun | 53 => 143 | 3 => 3 | 212 => 285 | 0 => 0 | 4 => 4 | 46 => 182 | 5 => 5 | 9 => 9 | n => n, fun | 17 => 6 | n => n⟩
theorem Tryz.laysM284 : Go.Proofs.LaysM.n284 Tryz.prog Tryz.laysM284_ren := {
  mixed := by kernel_rfl
  f129 := Tryz.func223.trans (congrArg some (by kernel_rfl))
  f284 := Tryz.func265.trans (congrArg some (by kernel_rfl))
  f317 := Tryz.func274.trans (congrArg some (by kernel_rfl))
  f318 := Tryz.func275.trans (congrArg some (by kernel_rfl))
  t0 := Tryz.underlying0
  a0 := Tryz.isAgg0
  z0 := Tryz.sizeOf0
  v0 := Tryz.zeroValue0
  t3 := Tryz.underlying3
  a3 := Tryz.isAgg3
  z3 := Tryz.sizeOf3
  v3 := Tryz.zeroValue3
  t4 := Tryz.underlying4
  a4 := Tryz.isAgg4
  z4 := Tryz.sizeOf4
  v4 := Tryz.zeroValue4
  t5 := Tryz.underlying5
  a5 := Tryz.isAgg5
  z5 := Tryz.sizeOf5
  v5 := Tryz.zeroValue5
  t9 := Tryz.underlying9
  a9 := Tryz.isAgg9
  z9 := Tryz.sizeOf9
  v9 := Tryz.zeroValue9
  t46 := Tryz.underlying182
  a46 := Tryz.isAgg182
  z46 := Tryz.sizeOf182
  v46 := Tryz.zeroValue182
  t53 := Tryz.underlying143
  a53 := Tryz.isAgg143
  z53 := Tryz.sizeOf143
  v53 := Tryz.zeroValue143
  t212 := Tryz.underlying285
  a212 := Tryz.isAgg285
  z212 := Tryz.sizeOf285
  v212 := Tryz.zeroValue285
  g17 := by kernel_rfl
  i0 := by kernel_rfl
  i3 := by kernel_rfl
  i4 := by kernel_rfl
  i5 := by kernel_rfl
  i9 := by kernel_rfl
  i46 := by kernel_rfl
  i53 := by kernel_rfl
  i212 := by kernel_rfl
  m17 := by kernel_rfl }
open Go.Lib in
theorem Tryz.internal_strconv_numDigits (u : Nat) (h1 : 1 ≤ u) (h2 : u < 18446744073709551616) (w : World) (htab : Lib.TabIs Tryz.prog w "internal/strconv.uint64pow10" .u64 Lib.pow10Tab) :
    Calls Tryz.prog 265 #[.int .u64 u] w fun e w' => e = .returned (.int .i64 (Lib.nDigits u)) ∧ w' = w := Any.internal_strconv_numDigits Tryz.laysM284 u h1 h2 w htab
def Tryz.lays285_ren : Go.Shelf.Ren := ⟨fun | 285 => 266 | n => n, fun | 37 => 32 | 53 => 143 | 3 => 3 | 4 => 4 | 51 => 217 | 9 => 9 | 5 => 5 | 0 => 0 | n => n, fun | n => n⟩
theorem Tryz.lays285 : Go.Proofs.Lays.n285 Tryz.prog Tryz.lays285_ren := {
  mixed := by kernel_rfl
  f285 := Tryz.func266.trans (congrArg some (by kernel_rfl))
  t0 := Tryz.underlying0
  a0 := Tryz.isAgg0
  z0 := Tryz.sizeOf0
  v0 := Tryz.zeroValue0
  t3 := Tryz.underlying3
  a3 := Tryz.isAgg3
  z3 := Tryz.sizeOf3
  v3 := Tryz.zeroValue3
  t4 := Tryz.underlying4
  a4 := Tryz.isAgg4
  z4 := Tryz.sizeOf4
  v4 := Tryz.zeroValue4
  t5 := Tryz.underlying5
  a5 := Tryz.isAgg5
  z5 := Tryz.sizeOf5
  v5 := Tryz.zeroValue5
  t9 := Tryz.underlying9
  a9 := Tryz.isAgg9
  z9 := Tryz.sizeOf9
  v9 := Tryz.zeroValue9
  t37 := Tryz.underlying32
  a37 := Tryz.isAgg32
  z37 := Tryz.sizeOf32
  v37 := Tryz.zeroValue32
  t51 := Tryz.underlying217
  a51 := Tryz.isAgg217
  z51 := Tryz.sizeOf217
  v51 := Tryz.zeroValue217
  t53 := Tryz.underlying143
  a53 := Tryz.isAgg143
  z53 := Tryz.sizeOf143
  v53 := Tryz.zeroValue143 }
open Go.RowKit Go.Sort Go.Lib in
theorem Tryz.internal_strconv_formatBase10 (blk off cap : Nat) (u : Nat) (d : Array UInt8) (w : World) (hH : Holds (fun (b : UInt8) => Value.int .u8 (b.toNat : Int)) w blk off d) (hu : u < 10 ^ d.size) (hu64 : u < 18446744073709551616) (hsz : d.size < 4611686018427387904) :
    Calls Tryz.prog 266 #[.slice (some ⟨blk, off, none⟩) d.size cap, .int .u64 u] w fun e w' =>
      e = .returned (.tuple #[]) ∧ ∃ (n v' : Nat) (dk : Array UInt8), w' = (putRow (fun (b : UInt8) => Value.int .u8 (b.toNat : Int)) w blk off dk).drewN n ∧ FmtInv d.size u 0 v' dk := Any.internal_strconv_formatBase10 Tryz.lays285 blk off cap u d w hH hu hu64 hsz
def Tryz.laysM246_ren : Go.Shelf.Ren := ⟨fun | 246 => 243 | 283 => 264 | 284 => 265 | 285 => 266 | 286 => 267 | 129 => 223 | 317 => 274 | 318 => 275 | 319 => 276 | 320 => 277 | 337 => 279 | 338 => 280 | n => n, fun | 2 => 2 | 3 => 3 | 9 => 9 | 4 => 4 | 171 => 272 | 0 => 0 | 53 => 143 | 37 => 32 | 5 => 5 | 173 => 274 | 212 => 285 | 51 => 217 | 20 => 20 | 213 => 286 | 46 => 182 | 232 => 287 | 233 => 288 | n => n, fun | 17 => 6 | 18 => 7 | 19 => 8 | n => n⟩
theorem Tryz.laysM246 : Go.Proofs.LaysM.n246 Tryz.prog Tryz.laysM246_ren := {
  mixed := by kernel_rfl
  f129 := Tryz.func223.trans (congrArg some (by kernel_rfl))
  f246 := Tryz.func243.trans (congrArg some (by kernel_rfl))
  f283 := Tryz.func264.trans (congrArg some (by kernel_rfl))
  f284 := Tryz.func265.trans (congrArg some (by kernel_rfl))
  f285 := Tryz.func266.trans (congrArg some (by kernel_rfl))
  f286 := Tryz.func267.trans (congrArg some (by kernel_rfl))
  f317 := Tryz.func274.trans (congrArg some (by kernel_rfl))
  f318 := Tryz.func275.trans (congrArg some (by kernel_rfl))
  f319 := Tryz.func276.trans (congrArg some (by kernel_rfl))
  f320 := Tryz.func277.trans (congrArg some (by kernel_rfl))
  f337 := Tryz.func279.trans (congrArg some (by kernel_rfl))
  f338 := Tryz.func280.trans (congrArg some (by kernel_rfl))
  t0 := Tryz.underlying0
  a0 := Tryz.isAgg0
  z0 := Tryz.sizeOf0
  v0 := Tryz.zeroValue0
  t2 := Tryz.underlying2
  a2 := Tryz.isAgg2
  z2 := Tryz.sizeOf2
  v2 := Tryz.zeroValue2
  t3 := Tryz.underlying3
  a3 := Tryz.isAgg3
  z3 := Tryz.sizeOf3
  v3 := Tryz.zeroValue3
  t4 := Tryz.underlying4
  a4 := Tryz.isAgg4
  z4 := Tryz.sizeOf4
  v4 := Tryz.zeroValue4
  t5 := Tryz.underlying5
  a5 := Tryz.isAgg5
  z5 := Tryz.sizeOf5
  v5 := Tryz.zeroValue5
  t9 := Tryz.underlying9
  a9 := Tryz.isAgg9
  z9 := Tryz.sizeOf9
  v9 := Tryz.zeroValue9
  t20 := Tryz.underlying20
  a20 := Tryz.isAgg20
  z20 := Tryz.sizeOf20
  v20 := Tryz.zeroValue20
  t37 := Tryz.underlying32
  a37 := Tryz.isAgg32
  z37 := Tryz.sizeOf32
  v37 := Tryz.zeroValue32
  t46 := Tryz.underlying182
  a46 := Tryz.isAgg182
  z46 := Tryz.sizeOf182
  v46 := Tryz.zeroValue182
  t51 := Tryz.underlying217
  a51 := Tryz.isAgg217
  z51 := Tryz.sizeOf217
  v51 := Tryz.zeroValue217
  t53 := Tryz.underlying143
  a53 := Tryz.isAgg143
  z53 := Tryz.sizeOf143
  v53 := Tryz.zeroValue143
  t171 := Tryz.underlying272
  a171 := Tryz.isAgg272
  z171 := Tryz.sizeOf272
  v171 := Tryz.zeroValue272
  t173 := Tryz.underlying274
  a173 := Tryz.isAgg274
  z173 := Tryz.sizeOf274
  v173 := Tryz.zeroValue274
  t212 := Tryz.underlying285
  a212 := Tryz.isAgg285
  z212 := Tryz.sizeOf285
  v212 := Tryz.zeroValue285
  t213 := Tryz.underlying286
  a213 := Tryz.isAgg286
  z213 := Tryz.sizeOf286
  t232 := Tryz.underlying287
  a232 := Tryz.isAgg287
  z232 := Tryz.sizeOf287
  v232 := Tryz.zeroValue287
  t233 := Tryz.underlying288
  a233 := Tryz.isAgg288
  z233 := Tryz.sizeOf288
  v233 := Tryz.zeroValue288
  g17 := by kernel_rfl
  g18 := by kernel_rfl
  g19 := by kernel_rfl
  i0 := by kernel_rfl
  i2 := by kernel_rfl
  i3 := by kernel_rfl
  i4 := by kernel_rfl
  i5 := by kernel_rfl
  i9 := by kernel_rfl
  i20 := by kernel_rfl
  i37 := by kernel_rfl
  i46 := by kernel_rfl
  i51 := by kernel_rfl
  i53 := by kernel_rfl
  i171 := by kernel_rfl
  i173 := by kernel_rfl
  i212 := by kernel_rfl
  i232 := by kernel_rfl
  i233 := by kernel_rfl
  m17 := by kernel_rfl
  m18 := by kernel_rfl
  m19 := by kernel_rfl }
open Go.RowKit Go.Sort Go.Lib in
theorem Tryz.internal_strconv_FormatInt_10 (n : Int) (h0 : -9223372036854775808 ≤ n) (h1 : n ≤ 9223372036854775807) (w : World) (htab : Lib.TabIs Tryz.prog w "internal/strconv.uint64pow10" .u64 Lib.pow10Tab) :
    Calls Tryz.prog 243 #[.int .i64 n, .int .i64 10] w fun e w' => e = .returned (.string ⟨(Lib.itoa n).toArray⟩) ∧ ∃ k os, w' = grow (w.drewN k) os := Any.internal_strconv_FormatInt_10 Tryz.laysM246 n h0 h1 w htab
def Tryz.lays246_ren : Go.Shelf.Ren := ⟨fun | 246 => 243 | 283 => 264 | 284 => 265 | 285 => 266 | 286 => 267 | 129 => 223 | 317 => 274 | 318 => 275 | 319 => 276 | 320 => 277 | 337 => 279 | 338 => 280 | n => n, fun | 2 => 2 | 3 => 3 | 9 => 9 | 4 => 4 | 171 => 272 | 0 => 0 | 53 => 143 | 37 => 32 | 5 => 5 | 173 => 274 | 212 => 285 | 51 => 217 | 20 => 20 | 213 => 286 | 46 => 182 | 232 => 287 | 233 => 288 | n => n, fun | 17 => 6 | 18 => 7 | 19 => 8 | n => n⟩
theorem Tryz.lays246 : Go.Proofs.Lays.n246 Tryz.prog Tryz.lays246_ren := {
  mixed := by kernel_rfl
  f129 := Tryz.func223.trans (congrArg some (by kernel_rfl))
  f246 := Tryz.func243.trans (congrArg some (by kernel_rfl))
  f283 := Tryz.func264.trans (congrArg some (by kernel_rfl))
  f284 := Tryz.func265.trans (congrArg some (by kernel_rfl))
  f285 := Tryz.func266.trans (congrArg some (by kernel_rfl))
  f286 := Tryz.func267.trans (congrArg some (by kernel_rfl))
  f317 := Tryz.func274.trans (congrArg some (by kernel_rfl))
  f318 := Tryz.func275.trans (congrArg some (by kernel_rfl))
  f319 := Tryz.func276.trans (congrArg some (by kernel_rfl))
  f320 := Tryz.func277.trans (congrArg some (by kernel_rfl))
  f337 := Tryz.func279.trans (congrArg some (by kernel_rfl))
  f338 := Tryz.func280.trans (congrArg some (by kernel_rfl))
  t0 := Tryz.underlying0
  a0 := Tryz.isAgg0
  z0 := Tryz.sizeOf0
  v0 := Tryz.zeroValue0
  t2 := Tryz.underlying2
  a2 := Tryz.isAgg2
  z2 := Tryz.sizeOf2
  v2 := Tryz.zeroValue2
  t3 := Tryz.underlying3
  a3 := Tryz.isAgg3
  z3 := Tryz.sizeOf3
  v3 := Tryz.zeroValue3
  t4 := Tryz.underlying4
  a4 := Tryz.isAgg4
  z4 := Tryz.sizeOf4
  v4 := Tryz.zeroValue4
  t5 := Tryz.underlying5
  a5 := Tryz.isAgg5
  z5 := Tryz.sizeOf5
  v5 := Tryz.zeroValue5
  t9 := Tryz.underlying9
  a9 := Tryz.isAgg9
  z9 := Tryz.sizeOf9
  v9 := Tryz.zeroValue9
  t20 := Tryz.underlying20
  a20 := Tryz.isAgg20
  z20 := Tryz.sizeOf20
  v20 := Tryz.zeroValue20
  t37 := Tryz.underlying32
  a37 := Tryz.isAgg32
  z37 := Tryz.sizeOf32
  v37 := Tryz.zeroValue32
  t46 := Tryz.underlying182
  a46 := Tryz.isAgg182
  z46 := Tryz.sizeOf182
  v46 := Tryz.zeroValue182
  t51 := Tryz.underlying217
  a51 := Tryz.isAgg217
  z51 := Tryz.sizeOf217
  v51 := Tryz.zeroValue217
  t53 := Tryz.underlying143
  a53 := Tryz.isAgg143
  z53 := Tryz.sizeOf143
  v53 := Tryz.zeroValue143
  t171 := Tryz.underlying272
  a171 := Tryz.isAgg272
  z171 := Tryz.sizeOf272
  v171 := Tryz.zeroValue272
  t173 := Tryz.underlying274
  a173 := Tryz.isAgg274
  z173 := Tryz.sizeOf274
  v173 := Tryz.zeroValue274
  t212 := Tryz.underlying285
  a212 := Tryz.isAgg285
  z212 := Tryz.sizeOf285
  v212 := Tryz.zeroValue285
  t213 := Tryz.underlying286
  a213 := Tryz.isAgg286
  z213 := Tryz.sizeOf286
  t232 := Tryz.underlying287
  a232 := Tryz.isAgg287
  z232 := Tryz.sizeOf287
  v232 := Tryz.zeroValue287
  t233 := Tryz.underlying288
  a233 := Tryz.isAgg288
  z233 := Tryz.sizeOf288
  v233 := Tryz.zeroValue288
  g17 := by kernel_rfl
  g18 := by kernel_rfl
  g19 := by kernel_rfl }
open Go.RowKit Go.Sort Go.Lib in
theorem Tryz.internal_strconv_FormatInt_10_small (i : Nat) (hi : i < 100) (w : World) :
    Calls Tryz.prog 243 #[.int .i64 i, .int .i64 10] w fun e w' => e = .returned (.string ⟨(Lib.decDigits i).toArray⟩) ∧ w' = w := Any.internal_strconv_FormatInt_10_small Tryz.lays246 i hi w
def Tryz.laysM243_ren : Go.Shelf.Ren := ⟨fun | 243 => 209 | 246 => 243 | 283 => 264 | 284 => 265 | 285 => 266 | 286 => 267 | 129 => 223 | 317 => 274 | 318 => 275 | 319 => 276 | 320 => 277 | 337 => 279 | 338 => 280 | n => n, fun | 3 => 3 | 9 => 9 | 2 => 2 | 4 => 4 | 171 => 272 | 0 => 0 | 53 => 143 | 37 => 32 | 5 => 5 | 173 => 274 | 212 => 285 | 51 => 217 | 20 => 20 | 213 => 286 | 46 => 182 | 232 => 287 | 233 => 288 | n => n, fun | 17 => 6 | 18 => 7 | 19 => 8 | n => n⟩
theorem Tryz.laysM243 : Go.Proofs.LaysM.n243 Tryz.prog Tryz.laysM243_ren := {
  mixed := by kernel_rfl
  f129 := Tryz.func223.trans (congrArg some (by kernel_rfl))
  f243 := Tryz.func209.trans (congrArg some (by kernel_rfl))
  f246 := Tryz.func243.trans (congrArg some (by kernel_rfl))
  f283 := Tryz.func264.trans (congrArg some (by kernel_rfl))
  f284 := Tryz.func265.trans (congrArg some (by kernel_rfl))
  f285 := Tryz.func266.trans (congrArg some (by kernel_rfl))
  f286 := Tryz.func267.trans (congrArg some (by kernel_rfl))
  f317 := Tryz.func274.trans (congrArg some (by kernel_rfl))
  f318 := Tryz.func275.trans (congrArg some (by kernel_rfl))
  f319 := Tryz.func276.trans (congrArg some (by kernel_rfl))
  f320 := Tryz.func277.trans (congrArg some (by kernel_rfl))
  f337 := Tryz.func279.trans (congrArg some (by kernel_rfl))
  f338 := Tryz.func280.trans (congrArg some (by kernel_rfl))
  t0 := Tryz.underlying0
  a0 := Tryz.isAgg0
  z0 := Tryz.sizeOf0
  v0 := Tryz.zeroValue0
  t2 := Tryz.underlying2
  a2 := Tryz.isAgg2
  z2 := Tryz.sizeOf2
  v2 := Tryz.zeroValue2
  t3 := Tryz.underlying3
  a3 := Tryz.isAgg3
  z3 := Tryz.sizeOf3
  v3 := Tryz.zeroValue3
  t4 := Tryz.underlying4
  a4 := Tryz.isAgg4
  z4 := Tryz.sizeOf4
  v4 := Tryz.zeroValue4
  t5 := Tryz.underlying5
  a5 := Tryz.isAgg5
  z5 := Tryz.sizeOf5
  v5 := Tryz.zeroValue5
  t9 := Tryz.underlying9
  a9 := Tryz.isAgg9
  z9 := Tryz.sizeOf9
  v9 := Tryz.zeroValue9
  t20 := Tryz.underlying20
  a20 := Tryz.isAgg20
  z20 := Tryz.sizeOf20
  v20 := Tryz.zeroValue20
  t37 := Tryz.underlying32
  a37 := Tryz.isAgg32
  z37 := Tryz.sizeOf32
  v37 := Tryz.zeroValue32
  t46 := Tryz.underlying182
  a46 := Tryz.isAgg182
  z46 := Tryz.sizeOf182
  v46 := Tryz.zeroValue182
  t51 := Tryz.underlying217
  a51 := Tryz.isAgg217
  z51 := Tryz.sizeOf217
  v51 := Tryz.zeroValue217
  t53 := Tryz.underlying143
  a53 := Tryz.isAgg143
  z53 := Tryz.sizeOf143
  v53 := Tryz.zeroValue143
  t171 := Tryz.underlying272
  a171 := Tryz.isAgg272
  z171 := Tryz.sizeOf272
  v171 := Tryz.zeroValue272
  t173 := Tryz.underlying274
  a173 := Tryz.isAgg274
  z173 := Tryz.sizeOf274
  v173 := Tryz.zeroValue274
  t212 := Tryz.underlying285
  a212 := Tryz.isAgg285
  z212 := Tryz.sizeOf285
  v212 := Tryz.zeroValue285
  t213 := Tryz.underlying286
  a213 := Tryz.isAgg286
  z213 := Tryz.sizeOf286
  t232 := Tryz.underlying287
  a232 := Tryz.isAgg287
  z232 := Tryz.sizeOf287
  v232 := Tryz.zeroValue287
  t233 := Tryz.underlying288
  a233 := Tryz.isAgg288
  z233 := Tryz.sizeOf288
  v233 := Tryz.zeroValue288
  g17 := by kernel_rfl
  g18 := by kernel_rfl
  g19 := by kernel_rfl
  i0 := by kernel_rfl
  i2 := by kernel_rfl
  i3 := by kernel_rfl
  i4 := by kernel_rfl
  i5 := by kernel_rfl
  i9 := by kernel_rfl
  i20 := by kernel_rfl
  i37 := by kernel_rfl
  i46 := by kernel_rfl
  i51 := by kernel_rfl
  i53 := by kernel_rfl
  i171 := by kernel_rfl
  i173 := by kernel_rfl
  i212 := by kernel_rfl
  i232 := by kernel_rfl
  i233 := by kernel_rfl
  m17 := by kernel_rfl
  m18 := by kernel_rfl
  m19 := by kernel_rfl }
open Go.RowKit Go.Sort Go.Lib in
theorem Tryz.internal_strconv_Itoa (n : Int) (h0 : -9223372036854775808 ≤ n) (h1 : n ≤ 9223372036854775807) (w : World) (htab : Lib.TabIs Tryz.prog w "internal/strconv.uint64pow10" .u64 Lib.pow10Tab) :
    Calls Tryz.prog 209 #[.int .i64 n] w fun e w' => e = .returned (.string ⟨(Lib.itoa n).toArray⟩) ∧ ∃ k os, w' = grow (w.drewN k) os := Any.internal_strconv_Itoa Tryz.laysM243 n h0 h1 w htab
def Tryz.lays243_ren : Go.Shelf.Ren := ⟨fun | 243 => 209 | 246 => 243 | 283 => 264 | 284 => 265 | 285 => 266 | 286 => 267 | 129 => 223 | 317 => 274 | 318 => 275 | 319 => 276 | 320 => 277 | 337 => 279 | 338 => 280 | n => n, fun | 3 => 3 | 9 => 9 | 2 => 2 | 4 => 4 | 171 => 272 | 0 => 0 | 53 => 143 | 37 => 32 | 5 => 5 | 173 => 274 | 212 => 285 | 51 => 217 | 20 => 20 | 213 => 286 | 46 => 182 | 232 => 287 | 233 => 288 | n => n, fun | 17 => 6 | 18 => 7 | 19 => 8 | n => n⟩
theorem Tryz.lays243 : Go.Proofs.Lays.n243 Tryz.prog Tryz.lays243_ren := {
  mixed := by kernel_rfl
  f129 := Tryz.func223.trans (congrArg some (by kernel_rfl))
  f243 := Tryz.func209.trans (congrArg some (by kernel_rfl))
  f246 := Tryz.func243.trans (congrArg some (by kernel_rfl))
  f283 := Tryz.func264.trans (congrArg some (by kernel_rfl))
  f284 := Tryz.func265.trans (congrArg some (by kernel_rfl))
  f285 := Tryz.func266.trans (congrArg some (by kernel_rfl))
  f286 := Tryz.func267.trans (congrArg some (by kernel_rfl))
  f317 := Tryz.func274.trans (congrArg some (by kernel_rfl))
  f318 := Tryz.func275.trans (congrArg some (by kernel_rfl))
  f319 := Tryz.func276.trans (congrArg some (by kernel_rfl))
  f320 := Tryz.func277.trans (congrArg some (by kernel_rfl))
  f337 := Tryz.func279.trans (congrArg some (by kernel_rfl))
  f338 := Tryz.func280.trans (congrArg some (by kernel_rfl))
  t0 := Tryz.underlying0
  a0 := Tryz.isAgg0
  z0 := Tryz.sizeOf0
  v0 := Tryz.zeroValue0
  t2 := Tryz.underlying2
  a2 := Tryz.isAgg2
  z2 := Tryz.sizeOf2
  v2 := Tryz.zeroValue2
  t3 := Tryz.underlying3
  a3 := Tryz.isAgg3
  z3 := Tryz.sizeOf3
  v3 := Tryz.zeroValue3
  t4 := Tryz.underlying4
  a4 := Tryz.isAgg4
  z4 := Tryz.sizeOf4
  v4 := Tryz.zeroValue4
  t5 := Tryz.underlying5
  a5 := Tryz.isAgg5
  z5 := Tryz.sizeOf5
  v5 := Tryz.zeroValue5
  t9 := Tryz.underlying9
  a9 := Tryz.isAgg9
  z9 := Tryz.sizeOf9
  v9 := Tryz.zeroValue9
  t20 := Tryz.underlying20
  a20 := Tryz.isAgg20
  z20 := Tryz.sizeOf20
  v20 := Tryz.zeroValue20
  t37 := Tryz.underlying32
  a37 := Tryz.isAgg32
  z37 := Tryz.sizeOf32
  v37 := Tryz.zeroValue32
  t46 := Tryz.underlying182
  a46 := Tryz.isAgg182
  z46 := Tryz.sizeOf182
  v46 := Tryz.zeroValue182
  t51 := Tryz.underlying217
  a51 := Tryz.isAgg217
  z51 := Tryz.sizeOf217
  v51 := Tryz.zeroValue217
  t53 := Tryz.underlying143
  a53 := Tryz.isAgg143
  z53 := Tryz.sizeOf143
  v53 := Tryz.zeroValue143
  t171 := Tryz.underlying272
  a171 := Tryz.isAgg272
  z171 := Tryz.sizeOf272
  v171 := Tryz.zeroValue272
  t173 := Tryz.underlying274
  a173 := Tryz.isAgg274
  z173 := Tryz.sizeOf274
  v173 := Tryz.zeroValue274
  t212 := Tryz.underlying285
  a212 := Tryz.isAgg285
  z212 := Tryz.sizeOf285
  v212 := Tryz.zeroValue285
  t213 := Tryz.underlying286
  a213 := Tryz.isAgg286
  z213 := Tryz.sizeOf286
  t232 := Tryz.underlying287
  a232 := Tryz.isAgg287
  z232 := Tryz.sizeOf287
  v232 := Tryz.zeroValue287
  t233 := Tryz.underlying288
  a233 := Tryz.isAgg288
  z233 := Tryz.sizeOf288
  v233 := Tryz.zeroValue288
  g17 := by kernel_rfl
  g18 := by kernel_rfl
  g19 := by kernel_rfl }
open Go.RowKit Go.Sort Go.Lib in
theorem Tryz.internal_strconv_Itoa_small (i : Nat) (hi : i < 100) (w : World) :
    Calls Tryz.prog 209 #[.int .i64 i] w fun e w' => e = .returned (.string ⟨(Lib.decDigits i).toArray⟩) ∧ w' = w := Any.internal_strconv_Itoa_small Tryz.lays243 i hi w
def Tryz.laysM171_ren : Go.Shelf.Ren := ⟨fun | 171 => 172 | 243 => 209 | 246 => 243 | 283 => 264 | 284 => 265 | 285 => 266 | 286 => 267 | 129 => 223 | 317 => 274 | 318 => 275 | 319 => 276 | 320 => 277 | 337 => 279 | 338 => 280 | n => n, fun | 3 => 3 | 9 => 9 | 2 => 2 | 4 => 4 | 171 => 272 | 0 => 0 | 53 => 143 | 37 => 32 | 5 => 5 | 173 => 274 | 212 => 285 | 51 => 217 | 20 => 20 | 213 => 286 | 46 => 182 | 232 => 287 | 233 => 288 | n => n, fun | 17 => 6 | 18 => 7 | 19 => 8 | n => n⟩
theorem Tryz.laysM171 : Go.Proofs.LaysM.n171 Tryz.prog Tryz.laysM171_ren := {
  mixed := by kernel_rfl
  f129 := Tryz.func223.trans (congrArg some (by kernel_rfl))
  f171 := Tryz.func172.trans (congrArg some (by kernel_rfl))
  f243 := Tryz.func209.trans (congrArg some (by kernel_rfl))
  f246 := Tryz.func243.trans (congrArg some (by kernel_rfl))
  f283 := Tryz.func264.trans (congrArg some (by kernel_rfl))
  f284 := Tryz.func265.trans (congrArg some (by kernel_rfl))
  f285 := Tryz.func266.trans (congrArg some (by kernel_rfl))
  f286 := Tryz.func267.trans (congrArg some (by kernel_rfl))
  f317 := Tryz.func274.trans (congrArg some (by kernel_rfl))
  f318 := Tryz.func275.trans (congrArg some (by kernel_rfl))
  f319 := Tryz.func276.trans (congrArg some (by kernel_rfl))
  f320 := Tryz.func277.trans (congrArg some (by kernel_rfl))
  f337 := Tryz.func279.trans (congrArg some (by kernel_rfl))
  f338 := Tryz.func280.trans (congrArg some (by kernel_rfl))
  t0 := Tryz.underlying0
  a0 := Tryz.isAgg0
  z0 := Tryz.sizeOf0
  v0 := Tryz.zeroValue0
  t2 := Tryz.underlying2
  a2 := Tryz.isAgg2
  z2 := Tryz.sizeOf2
  v2 := Tryz.zeroValue2
  t3 := Tryz.underlying3
  a3 := Tryz.isAgg3
  z3 := Tryz.sizeOf3
  v3 := Tryz.zeroValue3
  t4 := Tryz.underlying4
  a4 := Tryz.isAgg4
  z4 := Tryz.sizeOf4
  v4 := Tryz.zeroValue4
  t5 := Tryz.underlying5
  a5 := Tryz.isAgg5
  z5 := Tryz.sizeOf5
  v5 := Tryz.zeroValue5
  t9 := Tryz.underlying9
  a9 := Tryz.isAgg9
  z9 := Tryz.sizeOf9
  v9 := Tryz.zeroValue9
  t20 := Tryz.underlying20
  a20 := Tryz.isAgg20
  z20 := Tryz.sizeOf20
  v20 := Tryz.zeroValue20
  t37 := Tryz.underlying32
  a37 := Tryz.isAgg32
  z37 := Tryz.sizeOf32
  v37 := Tryz.zeroValue32
  t46 := Tryz.underlying182
  a46 := Tryz.isAgg182
  z46 := Tryz.sizeOf182
  v46 := Tryz.zeroValue182
  t51 := Tryz.underlying217
  a51 := Tryz.isAgg217
  z51 := Tryz.sizeOf217
  v51 := Tryz.zeroValue217
  t53 := Tryz.underlying143
  a53 := Tryz.isAgg143
  z53 := Tryz.sizeOf143
  v53 := Tryz.zeroValue143
  t171 := Tryz.underlying272
  a171 := Tryz.isAgg272
  z171 := Tryz.sizeOf272
  v171 := Tryz.zeroValue272
  t173 := Tryz.underlying274
  a173 := Tryz.isAgg274
  z173 := Tryz.sizeOf274
  v173 := Tryz.zeroValue274
  t212 := Tryz.underlying285
  a212 := Tryz.isAgg285
  z212 := Tryz.sizeOf285
  v212 := Tryz.zeroValue285
  t213 := Tryz.underlying286
  a213 := Tryz.isAgg286
  z213 := Tryz.sizeOf286
  t232 := Tryz.underlying287
  a232 := Tryz.isAgg287
  z232 := Tryz.sizeOf287
  v232 := Tryz.zeroValue287
  t233 := Tryz.underlying288
  a233 := Tryz.isAgg288
  z233 := Tryz.sizeOf288
  v233 := Tryz.zeroValue288
  g17 := by kernel_rfl
  g18 := by kernel_rfl
  g19 := by kernel_rfl
  i0 := by kernel_rfl
  i2 := by kernel_rfl
  i3 := by kernel_rfl
  i4 := by kernel_rfl
  i5 := by kernel_rfl
  i9 := by kernel_rfl
  i20 := by kernel_rfl
  i37 := by kernel_rfl
  i46 := by kernel_rfl
  i51 := by kernel_rfl
  i53 := by kernel_rfl
  i171 := by kernel_rfl
  i173 := by kernel_rfl
  i212 := by kernel_rfl
  i232 := by kernel_rfl
  i233 := by kernel_rfl
  m17 := by kernel_rfl
  m18 := by kernel_rfl
  m19 := by kernel_rfl }
open Go.RowKit Go.Sort Go.Lib in
theorem Tryz.strconv_Itoa (n : Int) (h0 : -9223372036854775808 ≤ n) (h1 : n ≤ 9223372036854775807) (w : World) (htab : Lib.TabIs Tryz.prog w "internal/strconv.uint64pow10" .u64 Lib.pow10Tab) :
    Calls Tryz.prog 172 #[.int .i64 n] w fun e w' => e = .returned (.string ⟨(Lib.itoa n).toArray⟩) ∧ ∃ k os, w' = grow (w.drewN k) os := Any.strconv_Itoa Tryz.laysM171 n h0 h1 w htab
def Tryz.lays171_ren : Go.Shelf.Ren := ⟨fun | 171 => 172 | 243 => 209 | 246 => 243 | 283 => 264 | 284 => 265 | 285 => 266 | 286 => 267 | 129 => 223 | 317 => 274 | 318 => 275 | 319 => 276 | 320 => 277 | 337 => 279 | 338 => 280 | n => n, fun | 3 => 3 | 9 => 9 | 2 => 2 | 4 => 4 | 171 => 272 | 0 => 0 | 53 => 143 | 37 => 32 | 5 => 5 | 173 => 274 | 212 => 285 | 51 => 217 | 20 => 20 | 213 => 286 | 46 => 182 | 232 => 287 | 233 => 288 | n => n, fun | 17 => 6 | 18 => 7 | 19 => 8 | n => n⟩
theorem Tryz.lays171 : Go.Proofs.Lays.n171 Tryz.prog Tryz.lays171_ren := {
  mixed := by kernel_rfl
  f129 := Tryz.func223.trans (congrArg some (by kernel_rfl))
  f171 := Tryz.func172.trans (congrArg some (by kernel_rfl))
  f243 := Tryz.func209.trans (congrArg some (by kernel_rfl))
  f246 := Tryz.func243.trans (congrArg some (by kernel_rfl))
  f283 := Tryz.func264.trans (congrArg some (by kernel_rfl))
  f284 := Tryz.func265.trans (congrArg some (by kernel_rfl))
  f285 := Tryz.func266.trans (congrArg some (by kernel_rfl))
  f286 := Tryz.func267.trans (congrArg some (by kernel_rfl))
  f317 := Tryz.func274.trans (congrArg some (by kernel_rfl))
  f318 := Tryz.func275.trans (congrArg some (by kernel_rfl))
  f319 := Tryz.func276.trans (congrArg some (by kernel_rfl))
  f320 := Tryz.func277.trans (congrArg some (by kernel_rfl))
  f337 := Tryz.func279.trans (congrArg some (by kernel_rfl))
  f338 := Tryz.func280.trans (congrArg some (by kernel_rfl))
  t0 := Tryz.underlying0
  a0 := Tryz.isAgg0
  z0 := Tryz.sizeOf0
  v0 := Tryz.zeroValue0
  t2 := Tryz.underlying2
  a2 := Tryz.isAgg2
  z2 := Tryz.sizeOf2
  v2 := Tryz.zeroValue2
  t3 := Tryz.underlying3
  a3 := Tryz.isAgg3
  z3 := Tryz.sizeOf3
  v3 := Tryz.zeroValue3
  t4 := Tryz.underlying4
  a4 := Tryz.isAgg4
  z4 := Tryz.sizeOf4
  v4 := Tryz.zeroValue4
  t5 := Tryz.underlying5
  a5 := Tryz.isAgg5
  z5 := Tryz.sizeOf5
  v5 := Tryz.zeroValue5
  t9 := Tryz.underlying9
  a9 := Tryz.isAgg9
  z9 := Tryz.sizeOf9
  v9 := Tryz.zeroValue9
  t20 := Tryz.underlying20
  a20 := Tryz.isAgg20
  z20 := Tryz.sizeOf20
  v20 := Tryz.zeroValue20
  t37 := Tryz.underlying32
  a37 := Tryz.isAgg32
  z37 := Tryz.sizeOf32
  v37 := Tryz.zeroValue32
  t46 := Tryz.underlying182
  a46 := Tryz.isAgg182
  z46 := Tryz.sizeOf182
  v46 := Tryz.zeroValue182
  t51 := Tryz.underlying217
  a51 := Tryz.isAgg217
  z51 := Tryz.sizeOf217
  v51 := Tryz.zeroValue217
  t53 := Tryz.underlying143
  a53 := Tryz.isAgg143
  z53 := Tryz.sizeOf143
  v53 := Tryz.zeroValue143
  t171 := Tryz.underlying272
  a171 := Tryz.isAgg272
  z171 := Tryz.sizeOf272
  v171 := Tryz.zeroValue272
  t173 := Tryz.underlying274
  a173 := Tryz.isAgg274
  z173 := Tryz.sizeOf274
  v173 := Tryz.zeroValue274
  t212 := Tryz.underlying285
  a212 := Tryz.isAgg285
  z212 := Tryz.sizeOf285
  v212 := Tryz.zeroValue285
  t213 := Tryz.underlying286
  a213 := Tryz.isAgg286
  z213 := Tryz.sizeOf286
  t232 := Tryz.underlying287
  a232 := Tryz.isAgg287
  z232 := Tryz.sizeOf287
  v232 := Tryz.zeroValue287
  t233 := Tryz.underlying288
  a233 := Tryz.isAgg288
  z233 := Tryz.sizeOf288
  v233 := Tryz.zeroValue288
  g17 := by kernel_rfl
  g18 := by kernel_rfl
  g19 := by kernel_rfl }
open Go.RowKit Go.Sort Go.Lib in
theorem Tryz.strconv_Itoa_small (i : Nat) (hi : i < 100) (w : World) :
    Calls Tryz.prog 172 #[.int .i64 i] w fun e w' => e = .returned (.string ⟨(Lib.decDigits i).toArray⟩) ∧ w' = w := Any.strconv_Itoa_small Tryz.lays171 i hi w
open Go.RowKit in
theorem Tryz.internal_strconv_Atoi_err (s : ByteArray) (hl0 : 1 ≤ s.size) (hl : s.size ≤ 18) (h : Lib.atoi s.data.toList = none) (w : World) :
    Calls Tryz.prog 181 #[.string s] w fun e w' => e = .returned (.tuple #[.int .i64 0, (.iface 233 (.int .i64 2))]) ∧ (w' = w ∨ ∃ t, w' = Lib.bytesWorld w 5 t) := Any.internal_strconv_Atoi_err Tryz.lays244 s hl0 hl h w
def Tryz.lays247_ren : Go.Shelf.Ren := ⟨fun | 247 => 225 | 287 => 252 | 321 => 269 | 322 => 270 | n => n, fun | 9 => 9 | 3 => 3 | 2 => 2 | 75 => 154 | 4 => 4 | 167 => 233 | 5 => 5 | 53 => 143 | 175 => 259 | 46 => 182 | 37 => 32 | 0 => 0 | 21 => 21 | 80 => 42 | n => n, fun | n => n⟩
theorem Tryz.lays247 : Go.Proofs.Lays.n247 Tryz.prog Tryz.lays247_ren := {
  mixed := by kernel_rfl
  f247 := Tryz.func225.trans (congrArg some (by kernel_rfl))
  f287 := Tryz.func252.trans (congrArg some (by kernel_rfl))
  f321 := Tryz.func269.trans (congrArg some (by kernel_rfl))
  f322 := Tryz.func270.trans (congrArg some (by kernel_rfl))
  t0 := Tryz.underlying0
  a0 := Tryz.isAgg0
  z0 := Tryz.sizeOf0
  v0 := Tryz.zeroValue0
  t2 := Tryz.underlying2
  a2 := Tryz.isAgg2
  z2 := Tryz.sizeOf2
  v2 := Tryz.zeroValue2
  t3 := Tryz.underlying3
  a3 := Tryz.isAgg3
  z3 := Tryz.sizeOf3
  v3 := Tryz.zeroValue3
  t4 := Tryz.underlying4
  a4 := Tryz.isAgg4
  z4 := Tryz.sizeOf4
  v4 := Tryz.zeroValue4
  t5 := Tryz.underlying5
  a5 := Tryz.isAgg5
  z5 := Tryz.sizeOf5
  v5 := Tryz.zeroValue5
  t9 := Tryz.underlying9
  a9 := Tryz.isAgg9
  z9 := Tryz.sizeOf9
  v9 := Tryz.zeroValue9
  t21 := Tryz.underlying21
  a21 := Tryz.isAgg21
  z21 := Tryz.sizeOf21
  v21 := Tryz.zeroValue21
  t37 := Tryz.underlying32
  a37 := Tryz.isAgg32
  z37 := Tryz.sizeOf32
  v37 := Tryz.zeroValue32
  t46 := Tryz.underlying182
  a46 := Tryz.isAgg182
  z46 := Tryz.sizeOf182
  v46 := Tryz.zeroValue182
  t53 := Tryz.underlying143
  a53 := Tryz.isAgg143
  z53 := Tryz.sizeOf143
  v53 := Tryz.zeroValue143
  t75 := Tryz.underlying154
  a75 := Tryz.isAgg154
  z75 := Tryz.sizeOf154
  v75 := Tryz.zeroValue154
  t167 := Tryz.underlying233
  a167 := Tryz.isAgg233
  z167 := Tryz.sizeOf233
  v167 := Tryz.zeroValue233
  t175 := Tryz.underlying259
  a175 := Tryz.isAgg259
  z175 := Tryz.sizeOf259
  v175 := Tryz.zeroValue259 }
open Go.RowKit in
theorem Tryz.internal_strconv_ParseInt_empty (base bits : Int) (w : World) :
    Calls Tryz.prog 225 #[.string ⟨#[]⟩, .int .i64 base, .int .i64 bits] w fun e w' => e = .returned (.tuple #[.int .i64 0, (.iface 233 (.int .i64 2))]) ∧ w' = w := Any.internal_strconv_ParseInt_empty Tryz.lays247 base bits w
open Go.RowKit in
theorem Tryz.internal_strconv_Atoi_empty (w : World) :
    Calls Tryz.prog 181 #[.string ⟨#[]⟩] w fun e w' => e = .returned (.tuple #[.int .i64 0, (.iface 233 (.int .i64 2))]) ∧ w' = w := Any.internal_strconv_Atoi_empty Tryz.lays244 w
open Go.RowKit in
theorem Tryz.internal_strconv_Atoi_fail (s : ByteArray) (hl : s.size ≤ 18) (h : Lib.atoi s.data.toList = none) (w : World) :
    Calls Tryz.prog 181 #[.string s] w fun e w' => e = .returned (.tuple #[.int .i64 0, (.iface 233 (.int .i64 2))]) ∧ (w' = w ∨ ∃ t, w' = Lib.bytesWorld w 5 t) := Any.internal_strconv_Atoi_fail Tryz.lays244 s hl h w
def Tryz.laysM316_ren : Go.Shelf.Ren := ⟨fun | 316 => 253 | n => n, fun | 9 => 9 | 3 => 3 | 4 => 4 | 37 => 32 | 0 => 0 | 127 => 191 | 5 => 5 | n => n, fun | n => n⟩
theorem Tryz.laysM316 : Go.Proofs.LaysM.n316 Tryz.prog Tryz.laysM316_ren := {
  mixed := by kernel_rfl
  f316 := Tryz.func253.trans (congrArg some (by kernel_rfl))
  t0 := Tryz.underlying0
  a0 := Tryz.isAgg0
  z0 := Tryz.sizeOf0
  v0 := Tryz.zeroValue0
  t3 := Tryz.underlying3
  a3 := Tryz.isAgg3
  z3 := Tryz.sizeOf3
  v3 := Tryz.zeroValue3
  t4 := Tryz.underlying4
  a4 := Tryz.isAgg4
  z4 := Tryz.sizeOf4
  v4 := Tryz.zeroValue4
  t9 := Tryz.underlying9
  a9 := Tryz.isAgg9
  z9 := Tryz.sizeOf9
  v9 := Tryz.zeroValue9
  t37 := Tryz.underlying32
  a37 := Tryz.isAgg32
  z37 := Tryz.sizeOf32
  v37 := Tryz.zeroValue32
  t127 := Tryz.underlying191
  a127 := Tryz.isAgg191
  z127 := Tryz.sizeOf191
  v127 := Tryz.zeroValue191
  t5 := Tryz.underlying5
  a5 := Tryz.isAgg5
  z5 := Tryz.sizeOf5
  v5 := Tryz.zeroValue5
  i0 := by kernel_rfl
  i3 := by kernel_rfl
  i4 := by kernel_rfl
  i5 := by kernel_rfl
  i9 := by kernel_rfl
  i37 := by kernel_rfl
  i127 := by kernel_rfl }
open Go.RowKit in
theorem Tryz.stringslite_Clone (s : ByteArray) (w : World) (hlim : s.size ≤ 281474976710656) :
    Calls Tryz.prog 253 #[.string s] w fun e w' => e = .returned (.string s) ∧ Below w.heap.size w w' := Any.stringslite_Clone Tryz.laysM316 s w hlim
def Tryz.laysM279_ren : Go.Shelf.Ren := ⟨fun | 279 => 226 | 316 => 253 | n => n, fun | 9 => 9 | 168 => 236 | 75 => 154 | 210 => 262 | 3 => 3 | 4 => 4 | 37 => 32 | 0 => 0 | 127 => 191 | 80 => 42 | 5 => 5 | n => n, fun | 15 => 0 | n => n⟩
theorem Tryz.laysM279 : Go.Proofs.LaysM.n279 Tryz.prog Tryz.laysM279_ren := {
  mixed := by kernel_rfl
  f279 := Tryz.func226.trans (congrArg some (by kernel_rfl))
  f316 := Tryz.func253.trans (congrArg some (by kernel_rfl))
  t0 := Tryz.underlying0
  a0 := Tryz.isAgg0
  z0 := Tryz.sizeOf0
  v0 := Tryz.zeroValue0
  t3 := Tryz.underlying3
  a3 := Tryz.isAgg3
  z3 := Tryz.sizeOf3
  v3 := Tryz.zeroValue3
  t4 := Tryz.underlying4
  a4 := Tryz.isAgg4
  z4 := Tryz.sizeOf4
  v4 := Tryz.zeroValue4
  t9 := Tryz.underlying9
  a9 := Tryz.isAgg9
  z9 := Tryz.sizeOf9
  v9 := Tryz.zeroValue9
  t37 := Tryz.underlying32
  a37 := Tryz.isAgg32
  z37 := Tryz.sizeOf32
  v37 := Tryz.zeroValue32
  t75 := Tryz.underlying154
  a75 := Tryz.isAgg154
  z75 := Tryz.sizeOf154
  v75 := Tryz.zeroValue154
  t127 := Tryz.underlying191
  a127 := Tryz.isAgg191
  z127 := Tryz.sizeOf191
  v127 := Tryz.zeroValue191
  t168 := Tryz.underlying236
  a168 := Tryz.isAgg236
  z168 := Tryz.sizeOf236
  v168 := Tryz.zeroValue236
  t210 := Tryz.underlying262
  a210 := Tryz.isAgg262
  z210 := Tryz.sizeOf262
  v210 := Tryz.zeroValue262
  g15 := by kernel_rfl
  t5 := Tryz.underlying5
  a5 := Tryz.isAgg5
  z5 := Tryz.sizeOf5
  v5 := Tryz.zeroValue5
  t80 := Tryz.underlying42
  a80 := Tryz.isAgg42
  z80 := Tryz.sizeOf42
  v80 := Tryz.zeroValue42
  i0 := by kernel_rfl
  i3 := by kernel_rfl
  i4 := by kernel_rfl
  i5 := by kernel_rfl
  i9 := by kernel_rfl
  i37 := by kernel_rfl
  i75 := by kernel_rfl
  i80 := by kernel_rfl
  i127 := by kernel_rfl
  i168 := by kernel_rfl
  i210 := by kernel_rfl
  m15 := by kernel_rfl }
open Go.RowKit in
theorem Tryz.strconv_syntaxError (fn s : ByteArray) (ev : Value) (w : World) (hlim : s.size ≤ 281474976710656) (hv : w.cell? ⟨0, 0, none⟩ = some ev) (hev : ev = .nilIface ∨ ∃ te pe, ev = .iface te pe) :
    Calls Tryz.prog 226 #[.string fn, .string s] w fun e w' => ∃ N, e = .returned (.pointer (some ⟨N, 0, none⟩)) ∧ w.heap.size ≤ N ∧ w'.heap[N]? = some (.cells #[.string fn, .string s, ev] 262 (0, 0)) ∧ Below w.heap.size w w' := Any.strconv_syntaxError Tryz.laysM279 fn s ev w hlim hv hev
def Tryz.laysC245_ren : Go.Shelf.Ren := ⟨fun | 245 => 182 | 279 => 226 | 280 => 227 | 281 => 228 | 282 => 229 | 316 => 253 | 171 => 172 | 205 => 254 | 243 => 209 | 246 => 243 | 283 => 264 | 284 => 265 | 285 => 266 | 286 => 267 | 129 => 223 | 317 => 274 | 318 => 275 | 319 => 276 | 320 => 277 | 337 => 279 | 338 => 280 | n => n, fun | 9 => 9 | 3 => 3 | 75 => 154 | 167 => 233 | 4 => 4 | 168 => 236 | 210 => 262 | 37 => 32 | 0 => 0 | 127 => 191 | 145 => 282 | 143 => 280 | 2 => 2 | 171 => 272 | 53 => 143 | 5 => 5 | 173 => 274 | 212 => 285 | 51 => 217 | 20 => 20 | 213 => 286 | 46 => 182 | 232 => 287 | 233 => 288 | 80 => 42 | n => n, fun | 15 => 0 | 16 => 1 | 17 => 6 | 18 => 7 | 19 => 8 | n => n⟩
theorem Tryz.laysC245 : Go.Proofs.LaysC.n245 Tryz.prog Tryz.laysC245_ren := {
  mixed := by kernel_rfl
  f129 := Tryz.func223.trans (congrArg some (by kernel_rfl))
  f171 := Tryz.func172.trans (congrArg some (by kernel_rfl))
  f205 := Tryz.func254.trans (congrArg some (by kernel_rfl))
  f243 := Tryz.func209.trans (congrArg some (by kernel_rfl))
  f245 := Tryz.func182.trans (congrArg some (by kernel_rfl))
  f246 := Tryz.func243.trans (congrArg some (by kernel_rfl))
  f279 := Tryz.func226.trans (congrArg some (by kernel_rfl))
  f280 := Tryz.func227.trans (congrArg some (by kernel_rfl))
  f281 := Tryz.func228.trans (congrArg some (by kernel_rfl))
  f282 := Tryz.func229.trans (congrArg some (by kernel_rfl))
  f283 := Tryz.func264.trans (congrArg some (by kernel_rfl))
  f284 := Tryz.func265.trans (congrArg some (by kernel_rfl))
  f285 := Tryz.func266.trans (congrArg some (by kernel_rfl))
  f286 := Tryz.func267.trans (congrArg some (by kernel_rfl))
  f316 := Tryz.func253.trans (congrArg some (by kernel_rfl))
  f317 := Tryz.func274.trans (congrArg some (by kernel_rfl))
  f318 := Tryz.func275.trans (congrArg some (by kernel_rfl))
  f319 := Tryz.func276.trans (congrArg some (by kernel_rfl))
  f320 := Tryz.func277.trans (congrArg some (by kernel_rfl))
  f337 := Tryz.func279.trans (congrArg some (by kernel_rfl))
  f338 := Tryz.func280.trans (congrArg some (by kernel_rfl))
  t0 := Tryz.underlying0
  a0 := Tryz.isAgg0
  z0 := Tryz.sizeOf0
  v0 := Tryz.zeroValue0
  t2 := Tryz.underlying2
  a2 := Tryz.isAgg2
  z2 := Tryz.sizeOf2
  v2 := Tryz.zeroValue2
  t3 := Tryz.underlying3
  a3 := Tryz.isAgg3
  z3 := Tryz.sizeOf3
  v3 := Tryz.zeroValue3
  t4 := Tryz.underlying4
  a4 := Tryz.isAgg4
  z4 := Tryz.sizeOf4
  v4 := Tryz.zeroValue4
  t5 := Tryz.underlying5
  a5 := Tryz.isAgg5
  z5 := Tryz.sizeOf5
  v5 := Tryz.zeroValue5
  t9 := Tryz.underlying9
  a9 := Tryz.isAgg9
  z9 := Tryz.sizeOf9
  v9 := Tryz.zeroValue9
  t20 := Tryz.underlying20
  a20 := Tryz.isAgg20
  z20 := Tryz.sizeOf20
  v20 := Tryz.zeroValue20
  t37 := Tryz.underlying32
  a37 := Tryz.isAgg32
  z37 := Tryz.sizeOf32
  v37 := Tryz.zeroValue32
  t46 := Tryz.underlying182
  a46 := Tryz.isAgg182
  z46 := Tryz.sizeOf182
  v46 := Tryz.zeroValue182
  t51 := Tryz.underlying217
  a51 := Tryz.isAgg217
  z51 := Tryz.sizeOf217
  v51 := Tryz.zeroValue217
  t53 := Tryz.underlying143
  a53 := Tryz.isAgg143
  z53 := Tryz.sizeOf143
  v53 := Tryz.zeroValue143
  t75 := Tryz.underlying154
  a75 := Tryz.isAgg154
  z75 := Tryz.sizeOf154
  v75 := Tryz.zeroValue154
  t127 := Tryz.underlying191
  a127 := Tryz.isAgg191
  z127 := Tryz.sizeOf191
  v127 := Tryz.zeroValue191
  t143 := Tryz.underlying280
  a143 := Tryz.isAgg280
  z143 := Tryz.sizeOf280
  v143 := Tryz.zeroValue280
  t145 := Tryz.underlying282
  a145 := Tryz.isAgg282
  z145 := Tryz.sizeOf282
  v145 := Tryz.zeroValue282
  t167 := Tryz.underlying233
  a167 := Tryz.isAgg233
  z167 := Tryz.sizeOf233
  v167 := Tryz.zeroValue233
  t168 := Tryz.underlying236
  a168 := Tryz.isAgg236
  z168 := Tryz.sizeOf236
  v168 := Tryz.zeroValue236
  t171 := Tryz.underlying272
  a171 := Tryz.isAgg272
  z171 := Tryz.sizeOf272
  v171 := Tryz.zeroValue272
  t173 := Tryz.underlying274
  a173 := Tryz.isAgg274
  z173 := Tryz.sizeOf274
  v173 := Tryz.zeroValue274
  t210 := Tryz.underlying262
  a210 := Tryz.isAgg262
  z210 := Tryz.sizeOf262
  v210 := Tryz.zeroValue262
  t212 := Tryz.underlying285
  a212 := Tryz.isAgg285
  z212 := Tryz.sizeOf285
  v212 := Tryz.zeroValue285
  t213 := Tryz.underlying286
  a213 := Tryz.isAgg286
  z213 := Tryz.sizeOf286
  t232 := Tryz.underlying287
  a232 := Tryz.isAgg287
  z232 := Tryz.sizeOf287
  v232 := Tryz.zeroValue287
  t233 := Tryz.underlying288
  a233 := Tryz.isAgg288
  z233 := Tryz.sizeOf288
  v233 := Tryz.zeroValue288
  g15 := by kernel_rfl
  g16 := by kernel_rfl
  g17 := by kernel_rfl
  g18 := by kernel_rfl
  g19 := by kernel_rfl
  t80 := Tryz.underlying42
  a80 := Tryz.isAgg42
  z80 := Tryz.sizeOf42
  v80 := Tryz.zeroValue42
  i0 := by kernel_rfl
  i2 := by kernel_rfl
  i3 := by kernel_rfl
  i4 := by kernel_rfl
  i5 := by kernel_rfl
  i9 := by kernel_rfl
  i20 := by kernel_rfl
  i37 := by kernel_rfl
  i46 := by kernel_rfl
  i51 := by kernel_rfl
  i53 := by kernel_rfl
  i75 := by kernel_rfl
  i80 := by kernel_rfl
  i127 := by kernel_rfl
  i143 := by kernel_rfl
  i145 := by kernel_rfl
  i167 := by kernel_rfl
  i168 := by kernel_rfl
  i171 := by kernel_rfl
  i173 := by kernel_rfl
  i210 := by kernel_rfl
  i212 := by kernel_rfl
  i232 := by kernel_rfl
  i233 := by kernel_rfl
  m15 := by kernel_rfl
  m16 := by kernel_rfl
  m17 := by kernel_rfl
  m18 := by kernel_rfl
  m19 := by kernel_rfl
  c0 := by kernel_rfl
  c2 := by kernel_rfl
  c3 := by kernel_rfl
  c4 := by kernel_rfl
  c5 := by kernel_rfl
  c9 := by kernel_rfl
  c20 := by kernel_rfl
  c37 := by kernel_rfl
  c46 := by kernel_rfl
  c51 := by kernel_rfl
  c53 := by kernel_rfl
  c75 := by kernel_rfl
  c80 := by kernel_rfl
  c127 := by kernel_rfl
  c143 := by kernel_rfl
  c145 := by kernel_rfl
  c167 := by kernel_rfl
  c168 := by kernel_rfl
  c171 := by kernel_rfl
  c173 := by kernel_rfl
  c210 := by kernel_rfl
  c212 := by kernel_rfl
  c213 := by kernel_rfl
  c232 := by kernel_rfl
  c233 := by kernel_rfl }
open Go.RowKit in
theorem Tryz.strconv_toError_syntax (fn s : ByteArray) (base bits : Int) (ev : Value) (w : World) (hlim : s.size ≤ 281474976710656) (hv : w.cell? ⟨0, 0, none⟩ = some ev) (hev : ev = .nilIface ∨ ∃ te pe, ev = .iface te pe) :
    Calls Tryz.prog 182 #[.string fn, .string s, .int .i64 base, .int .i64 bits, .iface 233 (.int .i64 2)] w fun e w' => ∃ N, e = .returned (.iface 236 (.pointer (some ⟨N, 0, none⟩))) ∧ w.heap.size ≤ N ∧ w'.heap[N]? = some (.cells #[.string fn, .string s, ev] 262 (0, 0)) ∧ Below w.heap.size w w' := Any.strconv_toError_syntax Tryz.laysC245 fn s base bits ev w hlim hv hev
def Tryz.lays321_ren : Go.Shelf.Ren := ⟨fun | 321 => 269 | n => n, fun | 5 => 5 | n => n, fun | n => n⟩
theorem Tryz.lays321 : Go.Proofs.Lays.n321 Tryz.prog Tryz.lays321_ren := {
  mixed := by kernel_rfl
  f321 := Tryz.func269.trans (congrArg some (by kernel_rfl))
  t5 := Tryz.underlying5
  a5 := Tryz.isAgg5
  z5 := Tryz.sizeOf5
  v5 := Tryz.zeroValue5 }
open Go.RowKit in
theorem Tryz.internal_strconv_lower (c : Int) (w : World) :
    Calls Tryz.prog 269 #[.int .u8 c] w fun e w' => e = .returned (.int .u8 (bits .or .u8 c 32)) ∧ w' = w := Any.internal_strconv_lower Tryz.lays321 c w
def Tryz.lays287_ren : Go.Shelf.Ren := ⟨fun | 287 => 252 | 321 => 269 | 322 => 270 | n => n, fun | 9 => 9 | 3 => 3 | 53 => 143 | 75 => 154 | 4 => 4 | 167 => 233 | 5 => 5 | 46 => 182 | 37 => 32 | 0 => 0 | 21 => 21 | 80 => 42 | n => n, fun | n => n⟩
theorem Tryz.lays287 : Go.Proofs.Lays.n287 Tryz.prog Tryz.lays287_ren := {
  mixed := by kernel_rfl
  f287 := Tryz.func252.trans (congrArg some (by kernel_rfl))
  f321 := Tryz.func269.trans (congrArg some (by kernel_rfl))
  f322 := Tryz.func270.trans (congrArg some (by kernel_rfl))
  t0 := Tryz.underlying0
  a0 := Tryz.isAgg0
  z0 := Tryz.sizeOf0
  v0 := Tryz.zeroValue0
  t3 := Tryz.underlying3
  a3 := Tryz.isAgg3
  z3 := Tryz.sizeOf3
  v3 := Tryz.zeroValue3
  t4 := Tryz.underlying4
  a4 := Tryz.isAgg4
  z4 := Tryz.sizeOf4
  v4 := Tryz.zeroValue4
  t5 := Tryz.underlying5
  a5 := Tryz.isAgg5
  z5 := Tryz.sizeOf5
  v5 := Tryz.zeroValue5
  t9 := Tryz.underlying9
  a9 := Tryz.isAgg9
  z9 := Tryz.sizeOf9
  v9 := Tryz.zeroValue9
  t21 := Tryz.underlying21
  a21 := Tryz.isAgg21
  z21 := Tryz.sizeOf21
  v21 := Tryz.zeroValue21
  t37 := Tryz.underlying32
  a37 := Tryz.isAgg32
  z37 := Tryz.sizeOf32
  v37 := Tryz.zeroValue32
  t46 := Tryz.underlying182
  a46 := Tryz.isAgg182
  z46 := Tryz.sizeOf182
  v46 := Tryz.zeroValue182
  t53 := Tryz.underlying143
  a53 := Tryz.isAgg143
  z53 := Tryz.sizeOf143
  v53 := Tryz.zeroValue143
  t75 := Tryz.underlying154
  a75 := Tryz.isAgg154
  z75 := Tryz.sizeOf154
  v75 := Tryz.zeroValue154
  t167 := Tryz.underlying233
  a167 := Tryz.isAgg233
  z167 := Tryz.sizeOf233
  v167 := Tryz.zeroValue233 }
open Go.RowKit in
theorem Tryz.internal_strconv_ParseUint_10 (t : ByteArray) (hne : t.size ≠ 0) (hmax : t.size ≤ 9223372036854775806) (w : World) :
    Calls Tryz.prog 252 #[.string t, .int .i64 10, .int .i64 0] w fun e w' => e = .returned (Lib.uintTuple 233 (Lib.parseUint10 0 t.data.toList)) ∧ w' = Lib.bytesWorld w 5 t := Any.internal_strconv_ParseUint_10 Tryz.lays287 t hne hmax w
open Go.RowKit in
theorem Tryz.internal_strconv_ParseUint_10_empty (w : World) :
    Calls Tryz.prog 252 #[.string ⟨#[]⟩, .int .i64 10, .int .i64 0] w fun e w' => e = .returned (Lib.uintTuple 233 .syntax) ∧ w' = w := Any.internal_strconv_ParseUint_10_empty Tryz.lays287 w
open Go.RowKit in
theorem Tryz.internal_strconv_ParseUint_10_any (t : ByteArray) (hmax : t.size ≤ 9223372036854775806) (w : World) :
    Calls Tryz.prog 252 #[.string t, .int .i64 10, .int .i64 0] w fun e w' => e = .returned (Lib.uintTuple 233 (Lib.parseMag t.data.toList)) ∧ (w' = w ∨ w' = Lib.bytesWorld w 5 t) := Any.internal_strconv_ParseUint_10_any Tryz.lays287 t hmax w
def Tryz.laysC247_ren : Go.Shelf.Ren := ⟨fun | 247 => 225 | 287 => 252 | 321 => 269 | 322 => 270 | n => n, fun | 9 => 9 | 3 => 3 | 2 => 2 | 75 => 154 | 4 => 4 | 167 => 233 | 5 => 5 | 53 => 143 | 175 => 259 | 46 => 182 | 37 => 32 | 0 => 0 | 21 => 21 | 80 => 42 | n => n, fun | n => n⟩
theorem Tryz.laysC247 : Go.Proofs.LaysC.n247 Tryz.prog Tryz.laysC247_ren := {
  mixed := by kernel_rfl
  f247 := Tryz.func225.trans (congrArg some (by kernel_rfl))
  f287 := Tryz.func252.trans (congrArg some (by kernel_rfl))
  f321 := Tryz.func269.trans (congrArg some (by kernel_rfl))
  f322 := Tryz.func270.trans (congrArg some (by kernel_rfl))
  t0 := Tryz.underlying0
  a0 := Tryz.isAgg0
  z0 := Tryz.sizeOf0
  v0 := Tryz.zeroValue0
  t2 := Tryz.underlying2
  a2 := Tryz.isAgg2
  z2 := Tryz.sizeOf2
  v2 := Tryz.zeroValue2
  t3 := Tryz.underlying3
  a3 := Tryz.isAgg3
  z3 := Tryz.sizeOf3
  v3 := Tryz.zeroValue3
  t4 := Tryz.underlying4
  a4 := Tryz.isAgg4
  z4 := Tryz.sizeOf4
  v4 := Tryz.zeroValue4
  t5 := Tryz.underlying5
  a5 := Tryz.isAgg5
  z5 := Tryz.sizeOf5
  v5 := Tryz.zeroValue5
  t9 := Tryz.underlying9
  a9 := Tryz.isAgg9
  z9 := Tryz.sizeOf9
  v9 := Tryz.zeroValue9
  t21 := Tryz.underlying21
  a21 := Tryz.isAgg21
  z21 := Tryz.sizeOf21
  v21 := Tryz.zeroValue21
  t37 := Tryz.underlying32
  a37 := Tryz.isAgg32
  z37 := Tryz.sizeOf32
  v37 := Tryz.zeroValue32
  t46 := Tryz.underlying182
  a46 := Tryz.isAgg182
  z46 := Tryz.sizeOf182
  v46 := Tryz.zeroValue182
  t53 := Tryz.underlying143
  a53 := Tryz.isAgg143
  z53 := Tryz.sizeOf143
  v53 := Tryz.zeroValue143
  t75 := Tryz.underlying154
  a75 := Tryz.isAgg154
  z75 := Tryz.sizeOf154
  v75 := Tryz.zeroValue154
  t167 := Tryz.underlying233
  a167 := Tryz.isAgg233
  z167 := Tryz.sizeOf233
  v167 := Tryz.zeroValue233
  t175 := Tryz.underlying259
  a175 := Tryz.isAgg259
  z175 := Tryz.sizeOf259
  v175 := Tryz.zeroValue259
  t80 := Tryz.underlying42
  a80 := Tryz.isAgg42
  z80 := Tryz.sizeOf42
  v80 := Tryz.zeroValue42
  i0 := by kernel_rfl
  i2 := by kernel_rfl
  i3 := by kernel_rfl
  i4 := by kernel_rfl
  i5 := by kernel_rfl
  i9 := by kernel_rfl
  i21 := by kernel_rfl
  i37 := by kernel_rfl
  i46 := by kernel_rfl
  i53 := by kernel_rfl
  i75 := by kernel_rfl
  i80 := by kernel_rfl
  i167 := by kernel_rfl
  i175 := by kernel_rfl
  c0 := by kernel_rfl
  c2 := by kernel_rfl
  c3 := by kernel_rfl
  c4 := by kernel_rfl
  c5 := by kernel_rfl
  c9 := by kernel_rfl
  c21 := by kernel_rfl
  c37 := by kernel_rfl
  c46 := by kernel_rfl
  c53 := by kernel_rfl
  c75 := by kernel_rfl
  c80 := by kernel_rfl
  c167 := by kernel_rfl
  c175 := by kernel_rfl }
open Go.RowKit in
theorem Tryz.internal_strconv_ParseInt_10 (s : ByteArray) (hne : s.size ≠ 0) (hmax : s.size ≤ 9223372036854775806) (w : World) :
    Calls Tryz.prog 225 #[.string s, .int .i64 10, .int .i64 0] w fun e w' => e = .returned (Lib.intTuple 233 (Lib.atoiSat s.data.toList) (Lib.atoiAll s.data.toList)) ∧ (w' = w ∨ ∃ t, w' = Lib.bytesWorld w 5 t) := Any.internal_strconv_ParseInt_10 Tryz.laysC247 s hne hmax w
def Tryz.laysC244_ren : Go.Shelf.Ren := ⟨fun | 244 => 181 | 247 => 225 | 287 => 252 | 321 => 269 | 322 => 270 | n => n, fun | 9 => 9 | 3 => 3 | 75 => 154 | 4 => 4 | 5 => 5 | 167 => 233 | 37 => 32 | 0 => 0 | 85 => 234 | 2 => 2 | 53 => 143 | 175 => 259 | 46 => 182 | 21 => 21 | 80 => 42 | n => n, fun | n => n⟩
theorem Tryz.laysC244 : Go.Proofs.LaysC.n244 Tryz.prog Tryz.laysC244_ren := {
  mixed := by kernel_rfl
  f244 := Tryz.func181.trans (congrArg some (by kernel_rfl))
  f247 := Tryz.func225.trans (congrArg some (by kernel_rfl))
  f287 := Tryz.func252.trans (congrArg some (by kernel_rfl))
  f321 := Tryz.func269.trans (congrArg some (by kernel_rfl))
  f322 := Tryz.func270.trans (congrArg some (by kernel_rfl))
  t0 := Tryz.underlying0
  a0 := Tryz.isAgg0
  z0 := Tryz.sizeOf0
  v0 := Tryz.zeroValue0
  t2 := Tryz.underlying2
  a2 := Tryz.isAgg2
  z2 := Tryz.sizeOf2
  v2 := Tryz.zeroValue2
  t3 := Tryz.underlying3
  a3 := Tryz.isAgg3
  z3 := Tryz.sizeOf3
  v3 := Tryz.zeroValue3
  t4 := Tryz.underlying4
  a4 := Tryz.isAgg4
  z4 := Tryz.sizeOf4
  v4 := Tryz.zeroValue4
  t5 := Tryz.underlying5
  a5 := Tryz.isAgg5
  z5 := Tryz.sizeOf5
  v5 := Tryz.zeroValue5
  t9 := Tryz.underlying9
  a9 := Tryz.isAgg9
  z9 := Tryz.sizeOf9
  v9 := Tryz.zeroValue9
  t21 := Tryz.underlying21
  a21 := Tryz.isAgg21
  z21 := Tryz.sizeOf21
  v21 := Tryz.zeroValue21
  t37 := Tryz.underlying32
  a37 := Tryz.isAgg32
  z37 := Tryz.sizeOf32
  v37 := Tryz.zeroValue32
  t46 := Tryz.underlying182
  a46 := Tryz.isAgg182
  z46 := Tryz.sizeOf182
  v46 := Tryz.zeroValue182
  t53 := Tryz.underlying143
  a53 := Tryz.isAgg143
  z53 := Tryz.sizeOf143
  v53 := Tryz.zeroValue143
  t75 := Tryz.underlying154
  a75 := Tryz.isAgg154
  z75 := Tryz.sizeOf154
  v75 := Tryz.zeroValue154
  t85 := Tryz.underlying234
  a85 := Tryz.isAgg234
  z85 := Tryz.sizeOf234
  v85 := Tryz.zeroValue234
  t167 := Tryz.underlying233
  a167 := Tryz.isAgg233
  z167 := Tryz.sizeOf233
  v167 := Tryz.zeroValue233
  t175 := Tryz.underlying259
  a175 := Tryz.isAgg259
  z175 := Tryz.sizeOf259
  v175 := Tryz.zeroValue259
  t80 := Tryz.underlying42
  a80 := Tryz.isAgg42
  z80 := Tryz.sizeOf42
  v80 := Tryz.zeroValue42
  i0 := by kernel_rfl
  i2 := by kernel_rfl
  i3 := by kernel_rfl
  i4 := by kernel_rfl
  i5 := by kernel_rfl
  i9 := by kernel_rfl
  i21 := by kernel_rfl
  i37 := by kernel_rfl
  i46 := by kernel_rfl
  i53 := by kernel_rfl
  i75 := by kernel_rfl
  i80 := by kernel_rfl
  i85 := by kernel_rfl
  i167 := by kernel_rfl
  i175 := by kernel_rfl
  c0 := by kernel_rfl
  c2 := by kernel_rfl
  c3 := by kernel_rfl
  c4 := by kernel_rfl
  c5 := by kernel_rfl
  c9 := by kernel_rfl
  c21 := by kernel_rfl
  c37 := by kernel_rfl
  c46 := by kernel_rfl
  c53 := by kernel_rfl
  c75 := by kernel_rfl
  c80 := by kernel_rfl
  c85 := by kernel_rfl
  c167 := by kernel_rfl
  c175 := by kernel_rfl }
open Go.RowKit in
theorem Tryz.internal_strconv_Atoi_long (s : ByteArray) (h19 : 19 ≤ s.size) (hmax : s.size ≤ 9223372036854775806) (w : World) :
    Calls Tryz.prog 181 #[.string s] w fun e w' => e = .returned (Lib.intTuple 233 (Lib.atoiSat s.data.toList) (Lib.atoiAll s.data.toList)) ∧ (w' = w ∨ ∃ t, w' = Lib.bytesWorld w 5 t) := Any.internal_strconv_Atoi_long Tryz.laysC244 s h19 hmax w
open Go.RowKit in
theorem Tryz.internal_strconv_Atoi_all (s : ByteArray) (hmax : s.size ≤ 9223372036854775806) (w : World) :
    Calls Tryz.prog 181 #[.string s] w fun e w' => e = .returned (Lib.intTuple 233 (Lib.atoiSat s.data.toList) (Lib.atoiAll s.data.toList)) ∧ (w' = w ∨ ∃ t, w' = Lib.bytesWorld w 5 t) := Any.internal_strconv_Atoi_all Tryz.laysC244 s hmax w
def Tryz.laysM280_ren : Go.Shelf.Ren := ⟨fun | 280 => 227 | 316 => 253 | n => n, fun | 9 => 9 | 168 => 236 | 75 => 154 | 210 => 262 | 3 => 3 | 4 => 4 | 37 => 32 | 0 => 0 | 127 => 191 | 80 => 42 | 5 => 5 | n => n, fun | 16 => 1 | n => n⟩
theorem Tryz.laysM280 : Go.Proofs.LaysM.n280 Tryz.prog Tryz.laysM280_ren := {
  mixed := by kernel_rfl
  f280 := Tryz.func227.trans (congrArg some (by kernel_rfl))
  f316 := Tryz.func253.trans (congrArg some (by kernel_rfl))
  t0 := Tryz.underlying0
  a0 := Tryz.isAgg0
  z0 := Tryz.sizeOf0
  v0 := Tryz.zeroValue0
  t3 := Tryz.underlying3
  a3 := Tryz.isAgg3
  z3 := Tryz.sizeOf3
  v3 := Tryz.zeroValue3
  t4 := Tryz.underlying4
  a4 := Tryz.isAgg4
  z4 := Tryz.sizeOf4
  v4 := Tryz.zeroValue4
  t9 := Tryz.underlying9
  a9 := Tryz.isAgg9
  z9 := Tryz.sizeOf9
  v9 := Tryz.zeroValue9
  t37 := Tryz.underlying32
  a37 := Tryz.isAgg32
  z37 := Tryz.sizeOf32
  v37 := Tryz.zeroValue32
  t75 := Tryz.underlying154
  a75 := Tryz.isAgg154
  z75 := Tryz.sizeOf154
  v75 := Tryz.zeroValue154
  t127 := Tryz.underlying191
  a127 := Tryz.isAgg191
  z127 := Tryz.sizeOf191
  v127 := Tryz.zeroValue191
  t168 := Tryz.underlying236
  a168 := Tryz.isAgg236
  z168 := Tryz.sizeOf236
  v168 := Tryz.zeroValue236
  t210 := Tryz.underlying262
  a210 := Tryz.isAgg262
  z210 := Tryz.sizeOf262
  v210 := Tryz.zeroValue262
  g16 := by kernel_rfl
  t5 := Tryz.underlying5
  a5 := Tryz.isAgg5
  z5 := Tryz.sizeOf5
  v5 := Tryz.zeroValue5
  t80 := Tryz.underlying42
  a80 := Tryz.isAgg42
  z80 := Tryz.sizeOf42
  v80 := Tryz.zeroValue42
  i0 := by kernel_rfl
  i3 := by kernel_rfl
  i4 := by kernel_rfl
  i5 := by kernel_rfl
  i9 := by kernel_rfl
  i37 := by kernel_rfl
  i75 := by kernel_rfl
  i80 := by kernel_rfl
  i127 := by kernel_rfl
  i168 := by kernel_rfl
  i210 := by kernel_rfl
  m16 := by kernel_rfl }
open Go.RowKit in
theorem Tryz.strconv_rangeError (fn s : ByteArray) (ev : Value) (w : World) (hlim : s.size ≤ 281474976710656) (hv : w.cell? ⟨1, 0, none⟩ = some ev) (hev : ev = .nilIface ∨ ∃ te pe, ev = .iface te pe) :
    Calls Tryz.prog 227 #[.string fn, .string s] w fun e w' => ∃ N, e = .returned (.pointer (some ⟨N, 0, none⟩)) ∧ w.heap.size ≤ N ∧ w'.heap[N]? = some (.cells #[.string fn, .string s, ev] 262 (0, 0)) ∧ Below w.heap.size w w' := Any.strconv_rangeError Tryz.laysM280 fn s ev w hlim hv hev
open Go.RowKit in
theorem Tryz.strconv_toError_range (fn s : ByteArray) (base bits : Int) (ev : Value) (w : World) (hlim : s.size ≤ 281474976710656) (hv : w.cell? ⟨1, 0, none⟩ = some ev) (hev : ev = .nilIface ∨ ∃ te pe, ev = .iface te pe) :
    Calls Tryz.prog 182 #[.string fn, .string s, .int .i64 base, .int .i64 bits, .iface 233 (.int .i64 1)] w fun e w' => ∃ N, e = .returned (.iface 236 (.pointer (some ⟨N, 0, none⟩))) ∧ w.heap.size ≤ N ∧ w'.heap[N]? = some (.cells #[.string fn, .string s, ev] 262 (0, 0)) ∧ Below w.heap.size w w' := Any.strconv_toError_range Tryz.laysC245 fn s base bits ev w hlim hv hev
def Tryz.laysC172_ren : Go.Shelf.Ren := ⟨fun | 172 => 130 | 244 => 181 | 245 => 182 | 247 => 225 | 279 => 226 | 280 => 227 | 281 => 228 | 282 => 229 | 287 => 252 | 316 => 253 | 171 => 172 | 205 => 254 | 321 => 269 | 322 => 270 | 243 => 209 | 246 => 243 | 283 => 264 | 284 => 265 | 285 => 266 | 286 => 267 | 129 => 223 | 317 => 274 | 318 => 275 | 319 => 276 | 320 => 277 | 337 => 279 | 338 => 280 | n => n, fun | 9 => 9 | 3 => 3 | 75 => 154 | 76 => 155 | 4 => 4 | 5 => 5 | 167 => 233 | 37 => 32 | 0 => 0 | 85 => 234 | 2 => 2 | 168 => 236 | 53 => 143 | 175 => 259 | 46 => 182 | 210 => 262 | 127 => 191 | 145 => 282 | 143 => 280 | 21 => 21 | 171 => 272 | 173 => 274 | 212 => 285 | 51 => 217 | 20 => 20 | 213 => 286 | 232 => 287 | 233 => 288 | 80 => 42 | n => n, fun | 15 => 0 | 16 => 1 | 17 => 6 | 18 => 7 | 19 => 8 | n => n⟩
theorem Tryz.laysC172 : Go.Proofs.LaysC.n172 Tryz.prog Tryz.laysC172_ren := {
  mixed := by kernel_rfl
  f129 := Tryz.func223.trans (congrArg some (by kernel_rfl))
  f171 := Tryz.func172.trans (congrArg some (by kernel_rfl))
  f172 := Tryz.func130.trans (congrArg some (by kernel_rfl))
  f205 := Tryz.func254.trans (congrArg some (by kernel_rfl))
  f243 := Tryz.func209.trans (congrArg some (by kernel_rfl))
  f244 := Tryz.func181.trans (congrArg some (by kernel_rfl))
  f245 := Tryz.func182.trans (congrArg some (by kernel_rfl))
  f246 := Tryz.func243.trans (congrArg some (by kernel_rfl))
  f247 := Tryz.func225.trans (congrArg some (by kernel_rfl))
  f279 := Tryz.func226.trans (congrArg some (by kernel_rfl))
  f280 := Tryz.func227.trans (congrArg some (by kernel_rfl))
  f281 := Tryz.func228.trans (congrArg some (by kernel_rfl))
  f282 := Tryz.func229.trans (congrArg some (by kernel_rfl))
  f283 := Tryz.func264.trans (congrArg some (by kernel_rfl))
  f284 := Tryz.func265.trans (congrArg some (by kernel_rfl))
  f285 := Tryz.func266.trans (congrArg some (by kernel_rfl))
  f286 := Tryz.func267.trans (congrArg some (by kernel_rfl))
  f287 := Tryz.func252.trans (congrArg some (by kernel_rfl))
  f316 := Tryz.func253.trans (congrArg some (by kernel_rfl))
  f317 := Tryz.func274.trans (congrArg some (by kernel_rfl))
  f318 := Tryz.func275.trans (congrArg some (by kernel_rfl))
  f319 := Tryz.func276.trans (congrArg some (by kernel_rfl))
  f320 := Tryz.func277.trans (congrArg some (by kernel_rfl))
  f321 := Tryz.func269.trans (congrArg some (by kernel_rfl))
  f322 := Tryz.func270.trans (congrArg some (by kernel_rfl))
  f337 := Tryz.func279.trans (congrArg some (by kernel_rfl))
  f338 := Tryz.func280.trans (congrArg some (by kernel_rfl))
  t0 := Tryz.underlying0
  a0 := Tryz.isAgg0
  z0 := Tryz.sizeOf0
  v0 := Tryz.zeroValue0
  t2 := Tryz.underlying2
  a2 := Tryz.isAgg2
  z2 := Tryz.sizeOf2
  v2 := Tryz.zeroValue2
  t3 := Tryz.underlying3
  a3 := Tryz.isAgg3
  z3 := Tryz.sizeOf3
  v3 := Tryz.zeroValue3
  t4 := Tryz.underlying4
  a4 := Tryz.isAgg4
  z4 := Tryz.sizeOf4
  v4 := Tryz.zeroValue4
  t5 := Tryz.underlying5
  a5 := Tryz.isAgg5
  z5 := Tryz.sizeOf5
  v5 := Tryz.zeroValue5
  t9 := Tryz.underlying9
  a9 := Tryz.isAgg9
  z9 := Tryz.sizeOf9
  v9 := Tryz.zeroValue9
  t20 := Tryz.underlying20
  a20 := Tryz.isAgg20
  z20 := Tryz.sizeOf20
  v20 := Tryz.zeroValue20
  t21 := Tryz.underlying21
  a21 := Tryz.isAgg21
  z21 := Tryz.sizeOf21
  v21 := Tryz.zeroValue21
  t37 := Tryz.underlying32
  a37 := Tryz.isAgg32
  z37 := Tryz.sizeOf32
  v37 := Tryz.zeroValue32
  t46 := Tryz.underlying182
  a46 := Tryz.isAgg182
  z46 := Tryz.sizeOf182
  v46 := Tryz.zeroValue182
  t51 := Tryz.underlying217
  a51 := Tryz.isAgg217
  z51 := Tryz.sizeOf217
  v51 := Tryz.zeroValue217
  t53 := Tryz.underlying143
  a53 := Tryz.isAgg143
  z53 := Tryz.sizeOf143
  v53 := Tryz.zeroValue143
  t75 := Tryz.underlying154
  a75 := Tryz.isAgg154
  z75 := Tryz.sizeOf154
  v75 := Tryz.zeroValue154
  t76 := Tryz.underlying155
  a76 := Tryz.isAgg155
  z76 := Tryz.sizeOf155
  v76 := Tryz.zeroValue155
  t85 := Tryz.underlying234
  a85 := Tryz.isAgg234
  z85 := Tryz.sizeOf234
  v85 := Tryz.zeroValue234
  t127 := Tryz.underlying191
  a127 := Tryz.isAgg191
  z127 := Tryz.sizeOf191
  v127 := Tryz.zeroValue191
  t143 := Tryz.underlying280
  a143 := Tryz.isAgg280
  z143 := Tryz.sizeOf280
  v143 := Tryz.zeroValue280
  t145 := Tryz.underlying282
  a145 := Tryz.isAgg282
  z145 := Tryz.sizeOf282
  v145 := Tryz.zeroValue282
  t167 := Tryz.underlying233
  a167 := Tryz.isAgg233
  z167 := Tryz.sizeOf233
  v167 := Tryz.zeroValue233
  t168 := Tryz.underlying236
  a168 := Tryz.isAgg236
  z168 := Tryz.sizeOf236
  v168 := Tryz.zeroValue236
  t171 := Tryz.underlying272
  a171 := Tryz.isAgg272
  z171 := Tryz.sizeOf272
  v171 := Tryz.zeroValue272
  t173 := Tryz.underlying274
  a173 := Tryz.isAgg274
  z173 := Tryz.sizeOf274
  v173 := Tryz.zeroValue274
  t175 := Tryz.underlying259
  a175 := Tryz.isAgg259
  z175 := Tryz.sizeOf259
  v175 := Tryz.zeroValue259
  t210 := Tryz.underlying262
  a210 := Tryz.isAgg262
  z210 := Tryz.sizeOf262
  v210 := Tryz.zeroValue262
  t212 := Tryz.underlying285
  a212 := Tryz.isAgg285
  z212 := Tryz.sizeOf285
  v212 := Tryz.zeroValue285
  t213 := Tryz.underlying286
  a213 := Tryz.isAgg286
  z213 := Tryz.sizeOf286
  t232 := Tryz.underlying287
  a232 := Tryz.isAgg287
  z232 := Tryz.sizeOf287
  v232 := Tryz.zeroValue287
  t233 := Tryz.underlying288
  a233 := Tryz.isAgg288
  z233 := Tryz.sizeOf288
  v233 := Tryz.zeroValue288
  g15 := by kernel_rfl
  g16 := by kernel_rfl
  g17 := by kernel_rfl
  g18 := by kernel_rfl
  g19 := by kernel_rfl
  t80 := Tryz.underlying42
  a80 := Tryz.isAgg42
  z80 := Tryz.sizeOf42
  v80 := Tryz.zeroValue42
  i0 := by kernel_rfl
  i2 := by kernel_rfl
  i3 := by kernel_rfl
  i4 := by kernel_rfl
  i5 := by kernel_rfl
  i9 := by kernel_rfl
  i20 := by kernel_rfl
  i21 := by kernel_rfl
  i37 := by kernel_rfl
  i46 := by kernel_rfl
  i51 := by kernel_rfl
  i53 := by kernel_rfl
  i75 := by kernel_rfl
  i76 := by kernel_rfl
  i80 := by kernel_rfl
  i85 := by kernel_rfl
  i127 := by kernel_rfl
  i143 := by kernel_rfl
  i145 := by kernel_rfl
  i167 := by kernel_rfl
  i168 := by kernel_rfl
  i171 := by kernel_rfl
  i173 := by kernel_rfl
  i175 := by kernel_rfl
  i210 := by kernel_rfl
  i212 := by kernel_rfl
  i232 := by kernel_rfl
  i233 := by kernel_rfl
  m15 := by kernel_rfl
  m16 := by kernel_rfl
  m17 := by kernel_rfl
  m18 := by kernel_rfl
  m19 := by kernel_rfl
  c0 := by kernel_rfl
  c2 := by kernel_rfl
  c3 := by kernel_rfl
  c4 := by kernel_rfl
  c5 := by kernel_rfl
  c9 := by kernel_rfl
  c20 := by kernel_rfl
  c21 := by kernel_rfl
  c37 := by kernel_rfl
  c46 := by kernel_rfl
  c51 := by kernel_rfl
  c53 := by kernel_rfl
  c75 := by kernel_rfl
  c76 := by kernel_rfl
  c80 := by kernel_rfl
  c85 := by kernel_rfl
  c127 := by kernel_rfl
  c143 := by kernel_rfl
  c145 := by kernel_rfl
  c167 := by kernel_rfl
  c168 := by kernel_rfl
  c171 := by kernel_rfl
  c173 := by kernel_rfl
  c175 := by kernel_rfl
  c210 := by kernel_rfl
  c212 := by kernel_rfl
  c213 := by kernel_rfl
  c232 := by kernel_rfl
  c233 := by kernel_rfl }
open Go.RowKit in
theorem Tryz.strconv_Atoi_ok (s : ByteArray) (hmax : s.size ≤ 9223372036854775806) (v : Int) (h : Lib.atoiAll s.data.toList = .ok v) (w : World) :
    Calls Tryz.prog 130 #[.string s] w fun e w' => e = .returned (.tuple #[.int .i64 v, .nilIface]) ∧ (w' = w ∨ ∃ t, w' = Lib.bytesWorld w 5 t) := Any.strconv_Atoi_ok Tryz.laysC172 s hmax v h w
open Go.RowKit in
theorem Tryz.strconv_Atoi_syntax (s : ByteArray) (hlim : s.size ≤ 281474976710656) (h : Lib.atoiAll s.data.toList = .syntax) (ev : Value) (w : World) (hv : w.cell? ⟨0, 0, none⟩ = some ev) (hev : ev = .nilIface ∨ ∃ te pe, ev = .iface te pe) :
    Calls Tryz.prog 130 #[.string s] w fun e w' => ∃ N, e = .returned (.tuple #[.int .i64 (0), .iface 236 (.pointer (some ⟨N, 0, none⟩))]) ∧ w.heap.size ≤ N ∧ w'.heap[N]? = some (.cells #[.string ⟨#[65, 116, 111, 105]⟩, .string s, ev] 262 (0, 0)) ∧ Below w.heap.size w w' := Any.strconv_Atoi_syntax Tryz.laysC172 s hlim h ev w hv hev
open Go.RowKit in
theorem Tryz.strconv_Atoi_range (s : ByteArray) (hlim : s.size ≤ 281474976710656) (h : Lib.atoiAll s.data.toList = .range) (ev : Value) (w : World) (hv : w.cell? ⟨1, 0, none⟩ = some ev) (hev : ev = .nilIface ∨ ∃ te pe, ev = .iface te pe) :
    Calls Tryz.prog 130 #[.string s] w fun e w' => ∃ N, e = .returned (.tuple #[.int .i64 (Lib.atoiSat s.data.toList), .iface 236 (.pointer (some ⟨N, 0, none⟩))]) ∧ w.heap.size ≤ N ∧ w'.heap[N]? = some (.cells #[.string ⟨#[65, 116, 111, 105]⟩, .string s, ev] 262 (0, 0)) ∧ Below w.heap.size w w' := Any.strconv_Atoi_range Tryz.laysC172 s hlim h ev w hv hev
open Go.RowKit in
theorem Tryz.strconv_Atoi_syntax_var (s : ByteArray) (hlim : s.size ≤ 281474976710656) (h : Lib.atoiAll s.data.toList = .syntax) (tp : TypeId) (p : Value) (w : World) (hvar : w.var? Tryz.prog "strconv.ErrSyntax" = some #[.iface tp p]) :
    Calls Tryz.prog 130 #[.string s] w fun e w' => ∃ N, e = .returned (.tuple #[.int .i64 0, .iface 236 (.pointer (some ⟨N, 0, none⟩))]) ∧ w.heap.size ≤ N ∧ w'.heap[N]? = some (.cells #[.string ⟨#[65, 116, 111, 105]⟩, .string s, .iface tp p] 262 (0, 0)) ∧ Below w.heap.size w w' := Any.strconv_Atoi_syntax_var Tryz.laysC172 s hlim h tp p w hvar
open Go.RowKit in
theorem Tryz.strconv_Atoi_range_var (s : ByteArray) (hlim : s.size ≤ 281474976710656) (h : Lib.atoiAll s.data.toList = .range) (tp : TypeId) (p : Value) (w : World) (hvar : w.var? Tryz.prog "strconv.ErrRange" = some #[.iface tp p]) :
    Calls Tryz.prog 130 #[.string s] w fun e w' => ∃ N, e = .returned (.tuple #[.int .i64 (Lib.atoiSat s.data.toList), .iface 236 (.pointer (some ⟨N, 0, none⟩))]) ∧ w.heap.size ≤ N ∧ w'.heap[N]? = some (.cells #[.string ⟨#[65, 116, 111, 105]⟩, .string s, .iface tp p] 262 (0, 0)) ∧ Below w.heap.size w w' := Any.strconv_Atoi_range_var Tryz.laysC172 s hlim h tp p w hvar
def Tryz.lays217_ren : Go.Shelf.Ren := ⟨fun | 217 => 260 | 266 => 272 | n => n, fun | 9 => 9 | 5 => 5 | 3 => 3 | n => n, fun | n => n⟩
theorem Tryz.lays217 : Go.Proofs.Lays.n217 Tryz.prog Tryz.lays217_ren := {
  mixed := by kernel_rfl
  f217 := Tryz.func260.trans (congrArg some (by kernel_rfl))
  f266 := Tryz.func272.trans (congrArg some (by kernel_rfl))
  t3 := Tryz.underlying3
  a3 := Tryz.isAgg3
  z3 := Tryz.sizeOf3
  v3 := Tryz.zeroValue3
  t5 := Tryz.underlying5
  a5 := Tryz.isAgg5
  z5 := Tryz.sizeOf5
  v5 := Tryz.zeroValue5
  t9 := Tryz.underlying9
  a9 := Tryz.isAgg9
  z9 := Tryz.sizeOf9
  v9 := Tryz.zeroValue9 }
open Go.RowKit Go.Lib in
theorem Tryz.stringslite_IndexByte (s : ByteArray) (c : Int) (w : World) :
    Calls Tryz.prog 260 #[.string s, .int .u8 c] w fun e w' => e = .returned (.int .i64 (Lib.indexByte s.data.toList c.toNat.toUInt8)) ∧ w' = w := Any.stringslite_IndexByte Tryz.lays217 s c w
def Tryz.lays224_ren : Go.Shelf.Ren := ⟨fun | 224 => 262 | n => n, fun | 3 => 3 | n => n, fun | n => n⟩
theorem Tryz.lays224 : Go.Proofs.Lays.n224 Tryz.prog Tryz.lays224_ren := {
  mixed := by kernel_rfl
  f224 := Tryz.func262.trans (congrArg some (by kernel_rfl))
  t3 := Tryz.underlying3
  a3 := Tryz.isAgg3
  z3 := Tryz.sizeOf3
  v3 := Tryz.zeroValue3 }
open Go.RowKit Go.Lib in
theorem Tryz.bytealg_Cutover (n : Int) (h0 : 0 ≤ n) (h1 : n < 4611686018427387904) (w : World) :
    Calls Tryz.prog 262 #[.int .i64 n] w fun e w' => e = .returned (.int .i64 ((n + 16) / 8)) ∧ w' = w := Any.bytealg_Cutover Tryz.lays224 n h0 h1 w
def Tryz.lays314_ren : Go.Shelf.Ren := ⟨fun | 314 => 273 | n => n, fun | 9 => 9 | 51 => 217 | 3 => 3 | 4 => 4 | 5 => 5 | 46 => 182 | n => n, fun | n => n⟩
theorem Tryz.lays314 : Go.Proofs.Lays.n314 Tryz.prog Tryz.lays314_ren := {
  mixed := by kernel_rfl
  f314 := Tryz.func273.trans (congrArg some (by kernel_rfl))
  t3 := Tryz.underlying3
  a3 := Tryz.isAgg3
  z3 := Tryz.sizeOf3
  v3 := Tryz.zeroValue3
  t4 := Tryz.underlying4
  a4 := Tryz.isAgg4
  z4 := Tryz.sizeOf4
  v4 := Tryz.zeroValue4
  t5 := Tryz.underlying5
  a5 := Tryz.isAgg5
  z5 := Tryz.sizeOf5
  v5 := Tryz.zeroValue5
  t9 := Tryz.underlying9
  a9 := Tryz.isAgg9
  z9 := Tryz.sizeOf9
  v9 := Tryz.zeroValue9
  t46 := Tryz.underlying182
  a46 := Tryz.isAgg182
  z46 := Tryz.sizeOf182
  v46 := Tryz.zeroValue182
  t51 := Tryz.underlying217
  a51 := Tryz.isAgg217
  z51 := Tryz.sizeOf217
  v51 := Tryz.zeroValue217 }
open Go.RowKit Go.Lib in
theorem Tryz.bytealg_hashStr (sep : ByteArray) (hs : sep.size < 4294967281) (w : World) :
    Calls Tryz.prog 273 #[.string sep] w fun e w' => e = .returned (.tuple #[.int .u32 (RK.H sep.data.toList % 4294967296), .int .u32 (16777619 ^ sep.size % 4294967296)]) ∧ w' = w := Any.bytealg_hashStr Tryz.lays314 sep hs w
def Tryz.lays267_ren : Go.Shelf.Ren := ⟨fun | 267 => 263 | 314 => 273 | n => n, fun | 9 => 9 | 3 => 3 | 146 => 250 | 51 => 217 | 4 => 4 | 5 => 5 | 46 => 182 | n => n, fun | n => n⟩
theorem Tryz.lays267 : Go.Proofs.Lays.n267 Tryz.prog Tryz.lays267_ren := {
  mixed := by kernel_rfl
  f267 := Tryz.func263.trans (congrArg some (by kernel_rfl))
  f314 := Tryz.func273.trans (congrArg some (by kernel_rfl))
  t3 := Tryz.underlying3
  a3 := Tryz.isAgg3
  z3 := Tryz.sizeOf3
  v3 := Tryz.zeroValue3
  t4 := Tryz.underlying4
  a4 := Tryz.isAgg4
  z4 := Tryz.sizeOf4
  v4 := Tryz.zeroValue4
  t5 := Tryz.underlying5
  a5 := Tryz.isAgg5
  z5 := Tryz.sizeOf5
  v5 := Tryz.zeroValue5
  t9 := Tryz.underlying9
  a9 := Tryz.isAgg9
  z9 := Tryz.sizeOf9
  v9 := Tryz.zeroValue9
  t46 := Tryz.underlying182
  a46 := Tryz.isAgg182
  z46 := Tryz.sizeOf182
  v46 := Tryz.zeroValue182
  t51 := Tryz.underlying217
  a51 := Tryz.isAgg217
  z51 := Tryz.sizeOf217
  v51 := Tryz.zeroValue217
  t146 := Tryz.underlying250
  a146 := Tryz.isAgg250
  z146 := Tryz.sizeOf250
  v146 := Tryz.zeroValue250 }
open Go.RowKit Go.Lib in
theorem Tryz.bytealg_IndexRabinKarp (s sep : ByteArray) (h1 : 1 ≤ sep.size) (h2 : sep.size ≤ s.size) (hs : s.size < 4294967281) (w : World) :
    Calls Tryz.prog 263 #[.string s, .string sep] w fun e w' => e = .returned (.int .i64 (Lib.index s.data.toList sep.data.toList)) ∧ w' = w := Any.bytealg_IndexRabinKarp Tryz.lays267 s sep h1 h2 hs w
def Tryz.lays219_ren : Go.Shelf.Ren := ⟨fun | 219 => 239 | 217 => 260 | 225 => 261 | 224 => 262 | 267 => 263 | 266 => 272 | 314 => 273 | n => n, fun | 9 => 9 | 3 => 3 | 4 => 4 | 5 => 5 | 46 => 182 | 146 => 250 | 51 => 217 | n => n, fun | 1 => 2 | n => n⟩
theorem Tryz.lays219 : Go.Proofs.Lays.n219 Tryz.prog Tryz.lays219_ren := {
  mixed := by kernel_rfl
  f217 := Tryz.func260.trans (congrArg some (by kernel_rfl))
  f219 := Tryz.func239.trans (congrArg some (by kernel_rfl))
  f224 := Tryz.func262.trans (congrArg some (by kernel_rfl))
  f225 := Tryz.func261.trans (congrArg some (by kernel_rfl))
  f266 := Tryz.func272.trans (congrArg some (by kernel_rfl))
  f267 := Tryz.func263.trans (congrArg some (by kernel_rfl))
  f314 := Tryz.func273.trans (congrArg some (by kernel_rfl))
  t3 := Tryz.underlying3
  a3 := Tryz.isAgg3
  z3 := Tryz.sizeOf3
  v3 := Tryz.zeroValue3
  t4 := Tryz.underlying4
  a4 := Tryz.isAgg4
  z4 := Tryz.sizeOf4
  v4 := Tryz.zeroValue4
  t5 := Tryz.underlying5
  a5 := Tryz.isAgg5
  z5 := Tryz.sizeOf5
  v5 := Tryz.zeroValue5
  t9 := Tryz.underlying9
  a9 := Tryz.isAgg9
  z9 := Tryz.sizeOf9
  v9 := Tryz.zeroValue9
  t46 := Tryz.underlying182
  a46 := Tryz.isAgg182
  z46 := Tryz.sizeOf182
  v46 := Tryz.zeroValue182
  t51 := Tryz.underlying217
  a51 := Tryz.isAgg217
  z51 := Tryz.sizeOf217
  v51 := Tryz.zeroValue217
  t146 := Tryz.underlying250
  a146 := Tryz.isAgg250
  z146 := Tryz.sizeOf250
  v146 := Tryz.zeroValue250
  g1 := by kernel_rfl }
open Go.RowKit Go.Lib in
theorem Tryz.stringslite_Index_one (s : ByteArray) (c : UInt8) (w : World) :
    Calls Tryz.prog 239 #[.string s, .string ⟨#[c]⟩] w fun e w' => e = .returned (.int .i64 (Lib.indexByte s.data.toList c)) ∧ w' = w := Any.stringslite_Index_one Tryz.lays219 s c w
open Go.RowKit Go.Lib in
theorem Tryz.stringslite_Index (s sub : ByteArray) (m : Int) (w : World) (hs : s.size < 4294967281) (hm : w.cell? ⟨2, 0, none⟩ = some (.int .i64 m)) :
    Calls Tryz.prog 239 #[.string s, .string sub] w fun e w' => e = .returned (.int .i64 (Lib.index s.data.toList sub.data.toList)) ∧ w' = w := Any.stringslite_Index Tryz.lays219 s sub m w hs hm
def Tryz.lays143_ren : Go.Shelf.Ren := ⟨fun | 143 => 197 | 219 => 239 | 217 => 260 | 225 => 261 | 224 => 262 | 267 => 263 | 266 => 272 | 314 => 273 | n => n, fun | 9 => 9 | 3 => 3 | 4 => 4 | 5 => 5 | 46 => 182 | 146 => 250 | 51 => 217 | n => n, fun | 1 => 2 | n => n⟩
theorem Tryz.lays143 : Go.Proofs.Lays.n143 Tryz.prog Tryz.lays143_ren := {
  mixed := by kernel_rfl
  f143 := Tryz.func197.trans (congrArg some (by kernel_rfl))
  f217 := Tryz.func260.trans (congrArg some (by kernel_rfl))
  f219 := Tryz.func239.trans (congrArg some (by kernel_rfl))
  f224 := Tryz.func262.trans (congrArg some (by kernel_rfl))
  f225 := Tryz.func261.trans (congrArg some (by kernel_rfl))
  f266 := Tryz.func272.trans (congrArg some (by kernel_rfl))
  f267 := Tryz.func263.trans (congrArg some (by kernel_rfl))
  f314 := Tryz.func273.trans (congrArg some (by kernel_rfl))
  t3 := Tryz.underlying3
  a3 := Tryz.isAgg3
  z3 := Tryz.sizeOf3
  v3 := Tryz.zeroValue3
  t4 := Tryz.underlying4
  a4 := Tryz.isAgg4
  z4 := Tryz.sizeOf4
  v4 := Tryz.zeroValue4
  t5 := Tryz.underlying5
  a5 := Tryz.isAgg5
  z5 := Tryz.sizeOf5
  v5 := Tryz.zeroValue5
  t9 := Tryz.underlying9
  a9 := Tryz.isAgg9
  z9 := Tryz.sizeOf9
  v9 := Tryz.zeroValue9
  t46 := Tryz.underlying182
  a46 := Tryz.isAgg182
  z46 := Tryz.sizeOf182
  v46 := Tryz.zeroValue182
  t51 := Tryz.underlying217
  a51 := Tryz.isAgg217
  z51 := Tryz.sizeOf217
  v51 := Tryz.zeroValue217
  t146 := Tryz.underlying250
  a146 := Tryz.isAgg250
  z146 := Tryz.sizeOf250
  v146 := Tryz.zeroValue250
  g1 := by kernel_rfl }
open Go.RowKit Go.Lib in
theorem Tryz.strings_Index_one (s : ByteArray) (c : UInt8) (w : World) :
    Calls Tryz.prog 197 #[.string s, .string ⟨#[c]⟩] w fun e w' => e = .returned (.int .i64 (Lib.indexByte s.data.toList c)) ∧ w' = w := Any.strings_Index_one Tryz.lays143 s c w
open Go.RowKit Go.Lib in
theorem Tryz.strings_Index (s sub : ByteArray) (m : Int) (w : World) (hs : s.size < 4294967281) (hm : w.cell? ⟨2, 0, none⟩ = some (.int .i64 m)) :
    Calls Tryz.prog 197 #[.string s, .string sub] w fun e w' => e = .returned (.int .i64 (Lib.index s.data.toList sub.data.toList)) ∧ w' = w := Any.strings_Index Tryz.lays143 s sub m w hs hm
def Tryz.lays138_ren : Go.Shelf.Ren := ⟨fun | 138 => 195 | 195 => 236 | 218 => 237 | 143 => 197 | 219 => 239 | 217 => 260 | 225 => 261 | 224 => 262 | 267 => 263 | 266 => 272 | 314 => 273 | n => n, fun | 9 => 9 | 3 => 3 | 4 => 4 | 5 => 5 | 0 => 0 | 46 => 182 | 146 => 250 | 51 => 217 | n => n, fun | 1 => 2 | n => n⟩
theorem Tryz.lays138 : Go.Proofs.Lays.n138 Tryz.prog Tryz.lays138_ren := {
  mixed := by kernel_rfl
  f138 := Tryz.func195.trans (congrArg some (by kernel_rfl))
  f143 := Tryz.func197.trans (congrArg some (by kernel_rfl))
  f195 := Tryz.func236.trans (congrArg some (by kernel_rfl))
  f217 := Tryz.func260.trans (congrArg some (by kernel_rfl))
  f218 := Tryz.func237.trans (congrArg some (by kernel_rfl))
  f219 := Tryz.func239.trans (congrArg some (by kernel_rfl))
  f224 := Tryz.func262.trans (congrArg some (by kernel_rfl))
  f225 := Tryz.func261.trans (congrArg some (by kernel_rfl))
  f266 := Tryz.func272.trans (congrArg some (by kernel_rfl))
  f267 := Tryz.func263.trans (congrArg some (by kernel_rfl))
  f314 := Tryz.func273.trans (congrArg some (by kernel_rfl))
  t0 := Tryz.underlying0
  a0 := Tryz.isAgg0
  z0 := Tryz.sizeOf0
  v0 := Tryz.zeroValue0
  t3 := Tryz.underlying3
  a3 := Tryz.isAgg3
  z3 := Tryz.sizeOf3
  v3 := Tryz.zeroValue3
  t4 := Tryz.underlying4
  a4 := Tryz.isAgg4
  z4 := Tryz.sizeOf4
  v4 := Tryz.zeroValue4
  t5 := Tryz.underlying5
  a5 := Tryz.isAgg5
  z5 := Tryz.sizeOf5
  v5 := Tryz.zeroValue5
  t9 := Tryz.underlying9
  a9 := Tryz.isAgg9
  z9 := Tryz.sizeOf9
  v9 := Tryz.zeroValue9
  t46 := Tryz.underlying182
  a46 := Tryz.isAgg182
  z46 := Tryz.sizeOf182
  v46 := Tryz.zeroValue182
  t51 := Tryz.underlying217
  a51 := Tryz.isAgg217
  z51 := Tryz.sizeOf217
  v51 := Tryz.zeroValue217
  t146 := Tryz.underlying250
  a146 := Tryz.isAgg250
  z146 := Tryz.sizeOf250
  v146 := Tryz.zeroValue250
  g1 := by kernel_rfl }
open Go.RowKit Go.Lib in
theorem Tryz.strings_Count_one (s : ByteArray) (c : UInt8) (w : World) :
    Calls Tryz.prog 195 #[.string s, .string ⟨#[c]⟩] w fun e w' => e = .returned (.int .i64 (Lib.countByte s.data.toList c)) ∧ w' = w := Any.strings_Count_one Tryz.lays138 s c w
open Go.RowKit Go.Lib in
theorem Tryz.strings_Count (s sub : ByteArray) (m : Int) (w : World) (hs : s.size < 4294967281) (hm : w.cell? ⟨2, 0, none⟩ = some (.int .i64 m)) (h2 : 2 ≤ sub.size) :
    Calls Tryz.prog 195 #[.string s, .string sub] w fun e w' => e = .returned (.int .i64 (Lib.countB s sub)) ∧ w' = w := Any.strings_Count Tryz.lays138 s sub m w hs hm h2
def Tryz.laysM219_ren : Go.Shelf.Ren := ⟨fun | 219 => 239 | 217 => 260 | 225 => 261 | 224 => 262 | 267 => 263 | 266 => 272 | 314 => 273 | n => n, fun | 9 => 9 | 3 => 3 | 4 => 4 | 5 => 5 | 46 => 182 | 146 => 250 | 51 => 217 | n => n, fun | 1 => 2 | n => n⟩
theorem Tryz.laysM219 : Go.Proofs.LaysM.n219 Tryz.prog Tryz.laysM219_ren := {
  mixed := by kernel_rfl
  f217 := Tryz.func260.trans (congrArg some (by kernel_rfl))
  f219 := Tryz.func239.trans (congrArg some (by kernel_rfl))
  f224 := Tryz.func262.trans (congrArg some (by kernel_rfl))
  f225 := Tryz.func261.trans (congrArg some (by kernel_rfl))
  f266 := Tryz.func272.trans (congrArg some (by kernel_rfl))
  f267 := Tryz.func263.trans (congrArg some (by kernel_rfl))
  f314 := Tryz.func273.trans (congrArg some (by kernel_rfl))
  t3 := Tryz.underlying3
  a3 := Tryz.isAgg3
  z3 := Tryz.sizeOf3
  v3 := Tryz.zeroValue3
  t4 := Tryz.underlying4
  a4 := Tryz.isAgg4
  z4 := Tryz.sizeOf4
  v4 := Tryz.zeroValue4
  t5 := Tryz.underlying5
  a5 := Tryz.isAgg5
  z5 := Tryz.sizeOf5
  v5 := Tryz.zeroValue5
  t9 := Tryz.underlying9
  a9 := Tryz.isAgg9
  z9 := Tryz.sizeOf9
  v9 := Tryz.zeroValue9
  t46 := Tryz.underlying182
  a46 := Tryz.isAgg182
  z46 := Tryz.sizeOf182
  v46 := Tryz.zeroValue182
  t51 := Tryz.underlying217
  a51 := Tryz.isAgg217
  z51 := Tryz.sizeOf217
  v51 := Tryz.zeroValue217
  t146 := Tryz.underlying250
  a146 := Tryz.isAgg250
  z146 := Tryz.sizeOf250
  v146 := Tryz.zeroValue250
  g1 := by kernel_rfl
  i3 := by kernel_rfl
  i4 := by kernel_rfl
  i5 := by kernel_rfl
  i9 := by kernel_rfl
  i46 := by kernel_rfl
  i51 := by kernel_rfl
  i146 := by kernel_rfl
  m1 := by kernel_rfl
  s1_3 := fun w h => Go.Proofs.cell_of_shapedOpen_int (zero := #[.int .i64 0]) (t := 3) h (of_decide_eq_true (by kernel_rfl)) (by kernel_rfl) rfl (by kernel_rfl) (by kernel_rfl) Tryz.underlying3 }
open Go.RowKit Go.Lib in
theorem Tryz.stringslite_Index_shaped (s sub : ByteArray) (w : World) (h : w.ShapedOpen Tryz.prog) (hs : s.size < 4294967281) :
    Calls Tryz.prog 239 #[.string s, .string sub] w fun e w' => e = .returned (.int .i64 (Lib.index s.data.toList sub.data.toList)) ∧ w' = w := Any.stringslite_Index_shaped Tryz.laysM219 s sub w h hs
def Tryz.laysM143_ren : Go.Shelf.Ren := ⟨fun | 143 => 197 | 219 => 239 | 217 => 260 | 225 => 261 | 224 => 262 | 267 => 263 | 266 => 272 | 314 => 273 | n => n, fun | 9 => 9 | 3 => 3 | 4 => 4 | 5 => 5 | 46 => 182 | 146 => 250 | 51 => 217 | n => n, fun | 1 => 2 | n => n⟩
theorem Tryz.laysM143 : Go.Proofs.LaysM.n143 Tryz.prog Tryz.laysM143_ren := {
  mixed := by kernel_rfl
  f143 := Tryz.func197.trans (congrArg some (by kernel_rfl))
  f217 := Tryz.func260.trans (congrArg some (by kernel_rfl))
  f219 := Tryz.func239.trans (congrArg some (by kernel_rfl))
  f224 := Tryz.func262.trans (congrArg some (by kernel_rfl))
  f225 := Tryz.func261.trans (congrArg some (by kernel_rfl))
  f266 := Tryz.func272.trans (congrArg some (by kernel_rfl))
  f267 := Tryz.func263.trans (congrArg some (by kernel_rfl))
  f314 := Tryz.func273.trans (congrArg some (by kernel_rfl))
  t3 := Tryz.underlying3
  a3 := Tryz.isAgg3
  z3 := Tryz.sizeOf3
  v3 := Tryz.zeroValue3
  t4 := Tryz.underlying4
  a4 := Tryz.isAgg4
  z4 := Tryz.sizeOf4
  v4 := Tryz.zeroValue4
  t5 := Tryz.underlying5
  a5 := Tryz.isAgg5
  z5 := Tryz.sizeOf5
  v5 := Tryz.zeroValue5
  t9 := Tryz.underlying9
  a9 := Tryz.isAgg9
  z9 := Tryz.sizeOf9
  v9 := Tryz.zeroValue9
  t46 := Tryz.underlying182
  a46 := Tryz.isAgg182
  z46 := Tryz.sizeOf182
  v46 := Tryz.zeroValue182
  t51 := Tryz.underlying217
  a51 := Tryz.isAgg217
  z51 := Tryz.sizeOf217
  v51 := Tryz.zeroValue217
  t146 := Tryz.underlying250
  a146 := Tryz.isAgg250
  z146 := Tryz.sizeOf250
  v146 := Tryz.zeroValue250
  g1 := by kernel_rfl
  i3 := by kernel_rfl
  i4 := by kernel_rfl
  i5 := by kernel_rfl
  i9 := by kernel_rfl
  i46 := by kernel_rfl
  i51 := by kernel_rfl
  i146 := by kernel_rfl
  m1 := by kernel_rfl
  s1_3 := fun w h => Go.Proofs.cell_of_shapedOpen_int (zero := #[.int .i64 0]) (t := 3) h (of_decide_eq_true (by kernel_rfl)) (by kernel_rfl) rfl (by kernel_rfl) (by kernel_rfl) Tryz.underlying3 }
open Go.RowKit Go.Lib in
theorem Tryz.strings_Index_shaped (s sub : ByteArray) (w : World) (h : w.ShapedOpen Tryz.prog) (hs : s.size < 4294967281) :
    Calls Tryz.prog 197 #[.string s, .string sub] w fun e w' => e = .returned (.int .i64 (Lib.index s.data.toList sub.data.toList)) ∧ w' = w := Any.strings_Index_shaped Tryz.laysM143 s sub w h hs
def Tryz.laysM138_ren : Go.Shelf.Ren := ⟨fun | 138 => 195 | 195 => 236 | 218 => 237 | 143 => 197 | 219 => 239 | 217 => 260 | 225 => 261 | 224 => 262 | 267 => 263 | 266 => 272 | 314 => 273 | n => n, fun | 9 => 9 | 3 => 3 | 4 => 4 | 5 => 5 | 0 => 0 | 46 => 182 | 146 => 250 | 51 => 217 | n => n, fun | 1 => 2 | n => n⟩
theorem Tryz.laysM138 : Go.Proofs.LaysM.n138 Tryz.prog Tryz.laysM138_ren := {
  mixed := by kernel_rfl
  f138 := Tryz.func195.trans (congrArg some (by kernel_rfl))
  f143 := Tryz.func197.trans (congrArg some (by kernel_rfl))
  f195 := Tryz.func236.trans (congrArg some (by kernel_rfl))
  f217 := Tryz.func260.trans (congrArg some (by kernel_rfl))
  f218 := Tryz.func237.trans (congrArg some (by kernel_rfl))
  f219 := Tryz.func239.trans (congrArg some (by kernel_rfl))
  f224 := Tryz.func262.trans (congrArg some (by kernel_rfl))
  f225 := Tryz.func261.trans (congrArg some (by kernel_rfl))
  f266 := Tryz.func272.trans (congrArg some (by kernel_rfl))
  f267 := Tryz.func263.trans (congrArg some (by kernel_rfl))
  f314 := Tryz.func273.trans (congrArg some (by kernel_rfl))
  t0 := Tryz.underlying0
  a0 := Tryz.isAgg0
  z0 := Tryz.sizeOf0
  v0 := Tryz.zeroValue0
  t3 := Tryz.underlying3
  a3 := Tryz.isAgg3
  z3 := Tryz.sizeOf3
  v3 := Tryz.zeroValue3
  t4 := Tryz.underlying4
  a4 := Tryz.isAgg4
  z4 := Tryz.sizeOf4
  v4 := Tryz.zeroValue4
  t5 := Tryz.underlying5
  a5 := Tryz.isAgg5
  z5 := Tryz.sizeOf5
  v5 := Tryz.zeroValue5
  t9 := Tryz.underlying9
  a9 := Tryz.isAgg9
  z9 := Tryz.sizeOf9
  v9 := Tryz.zeroValue9
  t46 := Tryz.underlying182
  a46 := Tryz.isAgg182
  z46 := Tryz.sizeOf182
  v46 := Tryz.zeroValue182
  t51 := Tryz.underlying217
  a51 := Tryz.isAgg217
  z51 := Tryz.sizeOf217
  v51 := Tryz.zeroValue217
  t146 := Tryz.underlying250
  a146 := Tryz.isAgg250
  z146 := Tryz.sizeOf250
  v146 := Tryz.zeroValue250
  g1 := by kernel_rfl
  i0 := by kernel_rfl
  i3 := by kernel_rfl
  i4 := by kernel_rfl
  i5 := by kernel_rfl
  i9 := by kernel_rfl
  i46 := by kernel_rfl
  i51 := by kernel_rfl
  i146 := by kernel_rfl
  m1 := by kernel_rfl
  s1_3 := fun w h => Go.Proofs.cell_of_shapedOpen_int (zero := #[.int .i64 0]) (t := 3) h (of_decide_eq_true (by kernel_rfl)) (by kernel_rfl) rfl (by kernel_rfl) (by kernel_rfl) Tryz.underlying3 }
open Go.RowKit Go.Lib in
theorem Tryz.strings_Count_shaped (s sub : ByteArray) (w : World) (h : w.ShapedOpen Tryz.prog) (hs : s.size < 4294967281) (h2 : 2 ≤ sub.size) :
    Calls Tryz.prog 195 #[.string s, .string sub] w fun e w' => e = .returned (.int .i64 (Lib.countB s sub)) ∧ w' = w := Any.strings_Count_shaped Tryz.laysM138 s sub w h hs h2
def Tryz.lays206_ren : Go.Shelf.Ren := ⟨fun | 206 => 224 | n => n, fun | 9 => 9 | 4 => 4 | 3 => 3 | n => n, fun | n => n⟩
theorem Tryz.lays206 : Go.Proofs.Lays.n206 Tryz.prog Tryz.lays206_ren := {
  mixed := by kernel_rfl
  f206 := Tryz.func224.trans (congrArg some (by kernel_rfl))
  t3 := Tryz.underlying3
  a3 := Tryz.isAgg3
  z3 := Tryz.sizeOf3
  v3 := Tryz.zeroValue3
  t4 := Tryz.underlying4
  a4 := Tryz.isAgg4
  z4 := Tryz.sizeOf4
  v4 := Tryz.zeroValue4
  t9 := Tryz.underlying9
  a9 := Tryz.isAgg9
  z9 := Tryz.sizeOf9
  v9 := Tryz.zeroValue9 }
open Go.RowKit Go.Lib in
theorem Tryz.stringslite_HasPrefix (s p : ByteArray) (w : World) :
    Calls Tryz.prog 224 #[.string s, .string p] w fun e w' => e = .returned (.bool (Lib.hasPrefix s.data.toList p.data.toList)) ∧ w' = w := Any.stringslite_HasPrefix Tryz.lays206 s p w
def Tryz.lays99_ren : Go.Shelf.Ren := ⟨fun | 99 => 211 | 206 => 224 | n => n, fun | 9 => 9 | 4 => 4 | 3 => 3 | n => n, fun | n => n⟩
theorem Tryz.lays99 : Go.Proofs.Lays.n99 Tryz.prog Tryz.lays99_ren := {
  mixed := by kernel_rfl
  f99 := Tryz.func211.trans (congrArg some (by kernel_rfl))
  f206 := Tryz.func224.trans (congrArg some (by kernel_rfl))
  t3 := Tryz.underlying3
  a3 := Tryz.isAgg3
  z3 := Tryz.sizeOf3
  v3 := Tryz.zeroValue3
  t4 := Tryz.underlying4
  a4 := Tryz.isAgg4
  z4 := Tryz.sizeOf4
  v4 := Tryz.zeroValue4
  t9 := Tryz.underlying9
  a9 := Tryz.isAgg9
  z9 := Tryz.sizeOf9
  v9 := Tryz.zeroValue9 }
open Go.RowKit Go.Lib in
theorem Tryz.strings_HasPrefix (s p : ByteArray) (w : World) :
    Calls Tryz.prog 211 #[.string s, .string p] w fun e w' => e = .returned (.bool (Lib.hasPrefix s.data.toList p.data.toList)) ∧ w' = w := Any.strings_HasPrefix Tryz.lays99 s p w
open Go.RowKit Go.Lib in
theorem Tryz.strings_Count_any (s sep : ByteArray) (m : Int) (w : World) (hs : s.size < 4294967281) (hm : w.cell? ⟨2, 0, none⟩ = some (.int .i64 m)) (h1 : 1 ≤ sep.size) :
    Calls Tryz.prog 195 #[.string s, .string sep] w fun e w' => e = .returned (.int .i64 (Lib.countB s sep)) ∧ w' = w := Any.strings_Count_any Tryz.lays138 s sep m w hs hm h1
def Tryz.lays154_ren : Go.Shelf.Ren := ⟨fun | 154 => 152 | 138 => 195 | 165 => 196 | 143 => 197 | 166 => 114 | 197 => 198 | 169 => 115 | 195 => 236 | 218 => 237 | 240 => 171 | 241 => 238 | 219 => 239 | 260 => 240 | 276 => 208 | 277 => 259 | 217 => 260 | 225 => 261 | 224 => 262 | 267 => 263 | 266 => 272 | 314 => 273 | n => n, fun | 9 => 9 | 3 => 3 | 4 => 4 | 72 => 152 | 0 => 0 | 76 => 155 | 105 => 205 | 21 => 21 | 5 => 5 | 70 => 150 | 20 => 20 | 37 => 32 | 75 => 154 | 127 => 191 | 164 => 219 | 46 => 182 | 119 => 267 | 139 => 270 | 138 => 269 | 146 => 250 | 51 => 217 | 80 => 42 | n => n, fun | 1 => 2 | 3 => 3 | 4 => 4 | n => n⟩
theorem Tryz.lays154 : Go.Proofs.Lays.n154 Tryz.prog Tryz.lays154_ren := {
  mixed := by kernel_rfl
  f138 := Tryz.func195.trans (congrArg some (by kernel_rfl))
  f143 := Tryz.func197.trans (congrArg some (by kernel_rfl))
  f154 := Tryz.func152.trans (congrArg some (by kernel_rfl))
  f165 := Tryz.func196.trans (congrArg some (by kernel_rfl))
  f166 := Tryz.func114.trans (congrArg some (by kernel_rfl))
  f169 := Tryz.func115.trans (congrArg some (by kernel_rfl))
  f195 := Tryz.func236.trans (congrArg some (by kernel_rfl))
  f197 := Tryz.func198.trans (congrArg some (by kernel_rfl))
  f217 := Tryz.func260.trans (congrArg some (by kernel_rfl))
  f218 := Tryz.func237.trans (congrArg some (by kernel_rfl))
  f219 := Tryz.func239.trans (congrArg some (by kernel_rfl))
  f224 := Tryz.func262.trans (congrArg some (by kernel_rfl))
  f225 := Tryz.func261.trans (congrArg some (by kernel_rfl))
  f240 := Tryz.func171.trans (congrArg some (by kernel_rfl))
  f241 := Tryz.func238.trans (congrArg some (by kernel_rfl))
  f260 := Tryz.func240.trans (congrArg some (by kernel_rfl))
  f266 := Tryz.func272.trans (congrArg some (by kernel_rfl))
  f267 := Tryz.func263.trans (congrArg some (by kernel_rfl))
  f276 := Tryz.func208.trans (congrArg some (by kernel_rfl))
  f277 := Tryz.func259.trans (congrArg some (by kernel_rfl))
  f314 := Tryz.func273.trans (congrArg some (by kernel_rfl))
  t0 := Tryz.underlying0
  a0 := Tryz.isAgg0
  z0 := Tryz.sizeOf0
  v0 := Tryz.zeroValue0
  t3 := Tryz.underlying3
  a3 := Tryz.isAgg3
  z3 := Tryz.sizeOf3
  v3 := Tryz.zeroValue3
  t4 := Tryz.underlying4
  a4 := Tryz.isAgg4
  z4 := Tryz.sizeOf4
  v4 := Tryz.zeroValue4
  t5 := Tryz.underlying5
  a5 := Tryz.isAgg5
  z5 := Tryz.sizeOf5
  v5 := Tryz.zeroValue5
  t9 := Tryz.underlying9
  a9 := Tryz.isAgg9
  z9 := Tryz.sizeOf9
  v9 := Tryz.zeroValue9
  t20 := Tryz.underlying20
  a20 := Tryz.isAgg20
  z20 := Tryz.sizeOf20
  v20 := Tryz.zeroValue20
  t21 := Tryz.underlying21
  a21 := Tryz.isAgg21
  z21 := Tryz.sizeOf21
  v21 := Tryz.zeroValue21
  t37 := Tryz.underlying32
  a37 := Tryz.isAgg32
  z37 := Tryz.sizeOf32
  v37 := Tryz.zeroValue32
  t46 := Tryz.underlying182
  a46 := Tryz.isAgg182
  z46 := Tryz.sizeOf182
  v46 := Tryz.zeroValue182
  t51 := Tryz.underlying217
  a51 := Tryz.isAgg217
  z51 := Tryz.sizeOf217
  v51 := Tryz.zeroValue217
  t70 := Tryz.underlying150
  a70 := Tryz.isAgg150
  z70 := Tryz.sizeOf150
  v70 := Tryz.zeroValue150
  t72 := Tryz.underlying152
  a72 := Tryz.isAgg152
  z72 := Tryz.sizeOf152
  v72 := Tryz.zeroValue152
  t75 := Tryz.underlying154
  a75 := Tryz.isAgg154
  z75 := Tryz.sizeOf154
  v75 := Tryz.zeroValue154
  t76 := Tryz.underlying155
  a76 := Tryz.isAgg155
  z76 := Tryz.sizeOf155
  v76 := Tryz.zeroValue155
  t105 := Tryz.underlying205
  a105 := Tryz.isAgg205
  z105 := Tryz.sizeOf205
  v105 := Tryz.zeroValue205
  t119 := Tryz.underlying267
  a119 := Tryz.isAgg267
  z119 := Tryz.sizeOf267
  t127 := Tryz.underlying191
  a127 := Tryz.isAgg191
  z127 := Tryz.sizeOf191
  v127 := Tryz.zeroValue191
  t138 := Tryz.underlying269
  a138 := Tryz.isAgg269
  z138 := Tryz.sizeOf269
  v138 := Tryz.zeroValue269
  t139 := Tryz.underlying270
  a139 := Tryz.isAgg270
  z139 := Tryz.sizeOf270
  v139 := Tryz.zeroValue270
  t146 := Tryz.underlying250
  a146 := Tryz.isAgg250
  z146 := Tryz.sizeOf250
  v146 := Tryz.zeroValue250
  t164 := Tryz.underlying219
  a164 := Tryz.isAgg219
  z164 := Tryz.sizeOf219
  v164 := Tryz.zeroValue219
  g1 := by kernel_rfl
  g3 := by kernel_rfl
  g4 := by kernel_rfl }
theorem Tryz.Builder_Extra_154 : Builder.Extra Tryz.prog Tryz.lays154_ren := {
  sizeBuilder := by kernel_rfl
  liesBuilder := by kernel_rfl
  t5 := Tryz.underlying5
  a5 := Tryz.isAgg5
  z5 := Tryz.sizeOf5
  v5 := Tryz.zeroValue5
  infoByte := by kernel_rfl
  cellsByte := by kernel_rfl
  sizeByte := by kernel_rfl
  neB5 := by decide }
open Go.RowKit Go.Lib in
theorem Tryz.strings_Replace_some (s old new : ByteArray) (n : Int) (m : Int) (w : World) (hs : s.size < 4294967281) (hm : w.cell? ⟨2, 0, none⟩ = some (.int .i64 m)) (h1 : 1 ≤ old.size) (hne : old ≠ new) (hn0 : n ≠ 0) (hc0 : Lib.countB s old ≠ 0) (hlen : s.size + Lib.countB s old * new.size ≤ 140737488355328) :
    Calls Tryz.prog 152 #[.string s, .string old, .string new, .int .i64 n] w fun e w' =>
      e = .returned (.string ⟨(Lib.replaceK old.data.toList new.data.toList (Lib.replaceNum s.data.toList old.data.toList n) s.data.toList).toArray⟩) ∧ Below w.heap.size w w' := Any.strings_Replace_some Tryz.lays154 Tryz.Builder_Extra_154 s old new n m w hs hm h1 hne hn0 hc0 hlen
open Go.RowKit Go.Lib in
theorem Tryz.strings_Replace_none (s old new : ByteArray) (n : Int) (w : World) (h : old = new ∨ n = 0) :
    Calls Tryz.prog 152 #[.string s, .string old, .string new, .int .i64 n] w fun e w' => e = .returned (.string s) ∧ w' = w := Any.strings_Replace_none Tryz.lays154 s old new n w h
open Go.RowKit Go.Lib in
theorem Tryz.strings_Replace_absent (s old new : ByteArray) (n : Int) (m : Int) (w : World) (hs : s.size < 4294967281) (hm : w.cell? ⟨2, 0, none⟩ = some (.int .i64 m)) (h1 : 1 ≤ old.size) (hne : old ≠ new) (hn0 : n ≠ 0) (hc0 : Lib.countB s old = 0) :
    Calls Tryz.prog 152 #[.string s, .string old, .string new, .int .i64 n] w fun e w' => e = .returned (.string s) ∧ w' = w := Any.strings_Replace_absent Tryz.lays154 s old new n m w hs hm h1 hne hn0 hc0
open Go.RowKit Go.Lib in
theorem Tryz.strings_Replace (s old new : ByteArray) (n : Int) (m : Int) (w : World) (hs : s.size < 4294967281) (hm : w.cell? ⟨2, 0, none⟩ = some (.int .i64 m)) (h1 : 1 ≤ old.size) (hlen : s.size + Lib.countB s old * new.size ≤ 140737488355328) :
    Calls Tryz.prog 152 #[.string s, .string old, .string new, .int .i64 n] w fun e w' =>
      e = .returned (.string ⟨(Lib.replace s.data.toList old.data.toList new.data.toList n).toArray⟩) ∧ Below w.heap.size w w' := Any.strings_Replace Tryz.lays154 Tryz.Builder_Extra_154 s old new n m w hs hm h1 hlen
def Tryz.laysM154_ren : Go.Shelf.Ren := ⟨fun | 154 => 152 | 138 => 195 | 165 => 196 | 143 => 197 | 166 => 114 | 197 => 198 | 169 => 115 | 195 => 236 | 218 => 237 | 240 => 171 | 241 => 238 | 219 => 239 | 260 => 240 | 276 => 208 | 277 => 259 | 217 => 260 | 225 => 261 | 224 => 262 | 267 => 263 | 266 => 272 | 314 => 273 | n => n, fun | 9 => 9 | 3 => 3 | 4 => 4 | 72 => 152 | 0 => 0 | 76 => 155 | 105 => 205 | 21 => 21 | 5 => 5 | 70 => 150 | 20 => 20 | 37 => 32 | 75 => 154 | 127 => 191 | 164 => 219 | 46 => 182 | 119 => 267 | 139 => 270 | 138 => 269 | 146 => 250 | 51 => 217 | 80 => 42 | n => n, fun | 1 => 2 | 3 => 3 | 4 => 4 | n => n⟩
theorem Tryz.laysM154 : Go.Proofs.LaysM.n154 Tryz.prog Tryz.laysM154_ren := {
  mixed := by kernel_rfl
  f138 := Tryz.func195.trans (congrArg some (by kernel_rfl))
  f143 := Tryz.func197.trans (congrArg some (by kernel_rfl))
  f154 := Tryz.func152.trans (congrArg some (by kernel_rfl))
  f165 := Tryz.func196.trans (congrArg some (by kernel_rfl))
  f166 := Tryz.func114.trans (congrArg some (by kernel_rfl))
  f169 := Tryz.func115.trans (congrArg some (by kernel_rfl))
  f195 := Tryz.func236.trans (congrArg some (by kernel_rfl))
  f197 := Tryz.func198.trans (congrArg some (by kernel_rfl))
  f217 := Tryz.func260.trans (congrArg some (by kernel_rfl))
  f218 := Tryz.func237.trans (congrArg some (by kernel_rfl))
  f219 := Tryz.func239.trans (congrArg some (by kernel_rfl))
  f224 := Tryz.func262.trans (congrArg some (by kernel_rfl))
  f225 := Tryz.func261.trans (congrArg some (by kernel_rfl))
  f240 := Tryz.func171.trans (congrArg some (by kernel_rfl))
  f241 := Tryz.func238.trans (congrArg some (by kernel_rfl))
  f260 := Tryz.func240.trans (congrArg some (by kernel_rfl))
  f266 := Tryz.func272.trans (congrArg some (by kernel_rfl))
  f267 := Tryz.func263.trans (congrArg some (by kernel_rfl))
  f276 := Tryz.func208.trans (congrArg some (by kernel_rfl))
  f277 := Tryz.func259.trans (congrArg some (by kernel_rfl))
  f314 := Tryz.func273.trans (congrArg some (by kernel_rfl))
  t0 := Tryz.underlying0
  a0 := Tryz.isAgg0
  z0 := Tryz.sizeOf0
  v0 := Tryz.zeroValue0
  t3 := Tryz.underlying3
  a3 := Tryz.isAgg3
  z3 := Tryz.sizeOf3
  v3 := Tryz.zeroValue3
  t4 := Tryz.underlying4
  a4 := Tryz.isAgg4
  z4 := Tryz.sizeOf4
  v4 := Tryz.zeroValue4
  t5 := Tryz.underlying5
  a5 := Tryz.isAgg5
  z5 := Tryz.sizeOf5
  v5 := Tryz.zeroValue5
  t9 := Tryz.underlying9
  a9 := Tryz.isAgg9
  z9 := Tryz.sizeOf9
  v9 := Tryz.zeroValue9
  t20 := Tryz.underlying20
  a20 := Tryz.isAgg20
  z20 := Tryz.sizeOf20
  v20 := Tryz.zeroValue20
  t21 := Tryz.underlying21
  a21 := Tryz.isAgg21
  z21 := Tryz.sizeOf21
  v21 := Tryz.zeroValue21
  t37 := Tryz.underlying32
  a37 := Tryz.isAgg32
  z37 := Tryz.sizeOf32
  v37 := Tryz.zeroValue32
  t46 := Tryz.underlying182
  a46 := Tryz.isAgg182
  z46 := Tryz.sizeOf182
  v46 := Tryz.zeroValue182
  t51 := Tryz.underlying217
  a51 := Tryz.isAgg217
  z51 := Tryz.sizeOf217
  v51 := Tryz.zeroValue217
  t70 := Tryz.underlying150
  a70 := Tryz.isAgg150
  z70 := Tryz.sizeOf150
  v70 := Tryz.zeroValue150
  t72 := Tryz.underlying152
  a72 := Tryz.isAgg152
  z72 := Tryz.sizeOf152
  v72 := Tryz.zeroValue152
  t75 := Tryz.underlying154
  a75 := Tryz.isAgg154
  z75 := Tryz.sizeOf154
  v75 := Tryz.zeroValue154
  t76 := Tryz.underlying155
  a76 := Tryz.isAgg155
  z76 := Tryz.sizeOf155
  v76 := Tryz.zeroValue155
  t105 := Tryz.underlying205
  a105 := Tryz.isAgg205
  z105 := Tryz.sizeOf205
  v105 := Tryz.zeroValue205
  t119 := Tryz.underlying267
  a119 := Tryz.isAgg267
  z119 := Tryz.sizeOf267
  t127 := Tryz.underlying191
  a127 := Tryz.isAgg191
  z127 := Tryz.sizeOf191
  v127 := Tryz.zeroValue191
  t138 := Tryz.underlying269
  a138 := Tryz.isAgg269
  z138 := Tryz.sizeOf269
  v138 := Tryz.zeroValue269
  t139 := Tryz.underlying270
  a139 := Tryz.isAgg270
  z139 := Tryz.sizeOf270
  v139 := Tryz.zeroValue270
  t146 := Tryz.underlying250
  a146 := Tryz.isAgg250
  z146 := Tryz.sizeOf250
  v146 := Tryz.zeroValue250
  t164 := Tryz.underlying219
  a164 := Tryz.isAgg219
  z164 := Tryz.sizeOf219
  v164 := Tryz.zeroValue219
  g1 := by kernel_rfl
  g3 := by kernel_rfl
  g4 := by kernel_rfl
  t80 := Tryz.underlying42
  a80 := Tryz.isAgg42
  z80 := Tryz.sizeOf42
  v80 := Tryz.zeroValue42
  i0 := by kernel_rfl
  i3 := by kernel_rfl
  i4 := by kernel_rfl
  i5 := by kernel_rfl
  i9 := by kernel_rfl
  i20 := by kernel_rfl
  i21 := by kernel_rfl
  i37 := by kernel_rfl
  i46 := by kernel_rfl
  i51 := by kernel_rfl
  i70 := by kernel_rfl
  i72 := by kernel_rfl
  i75 := by kernel_rfl
  i76 := by kernel_rfl
  i80 := by kernel_rfl
  i105 := by kernel_rfl
  i127 := by kernel_rfl
  i138 := by kernel_rfl
  i139 := by kernel_rfl
  i146 := by kernel_rfl
  i164 := by kernel_rfl
  m1 := by kernel_rfl
  s1_3 := fun w h => Go.Proofs.cell_of_shapedOpen_int (zero := #[.int .i64 0]) (t := 3) h (of_decide_eq_true (by kernel_rfl)) (by kernel_rfl) rfl (by kernel_rfl) (by kernel_rfl) Tryz.underlying3
  m3 := by kernel_rfl
  m4 := by kernel_rfl }
theorem Tryz.Builder_Extra_M154 : Builder.Extra Tryz.prog Tryz.laysM154_ren := {
  sizeBuilder := by kernel_rfl
  liesBuilder := by kernel_rfl
  t5 := Tryz.underlying5
  a5 := Tryz.isAgg5
  z5 := Tryz.sizeOf5
  v5 := Tryz.zeroValue5
  infoByte := by kernel_rfl
  cellsByte := by kernel_rfl
  sizeByte := by kernel_rfl
  neB5 := by decide }
open Go.RowKit Go.Lib in
theorem Tryz.strings_Replace_shaped (s old new : ByteArray) (n : Int) (w : World) (h : w.ShapedOpen Tryz.prog) (hs : s.size < 4294967281) (h1 : 1 ≤ old.size) (hlen : s.size + Lib.countB s old * new.size ≤ 140737488355328) :
    Calls Tryz.prog 152 #[.string s, .string old, .string new, .int .i64 n] w fun e w' =>
      e = .returned (.string ⟨(Lib.replace s.data.toList old.data.toList new.data.toList n).toArray⟩) ∧ Below w.heap.size w w' := Any.strings_Replace_shaped Tryz.laysM154 Tryz.Builder_Extra_M154 s old new n w h hs h1 hlen
def Tryz.lays197_ren : Go.Shelf.Ren := ⟨fun | 197 => 198 | 260 => 240 | n => n, fun | 9 => 9 | 21 => 21 | 3 => 3 | 4 => 4 | 5 => 5 | 105 => 205 | 119 => 267 | 0 => 0 | 46 => 182 | 139 => 270 | 138 => 269 | n => n, fun | 3 => 3 | 4 => 4 | n => n⟩
theorem Tryz.lays197 : Go.Proofs.Lays.n197 Tryz.prog Tryz.lays197_ren := {
  mixed := by kernel_rfl
  f197 := Tryz.func198.trans (congrArg some (by kernel_rfl))
  f260 := Tryz.func240.trans (congrArg some (by kernel_rfl))
  t0 := Tryz.underlying0
  a0 := Tryz.isAgg0
  z0 := Tryz.sizeOf0
  v0 := Tryz.zeroValue0
  t3 := Tryz.underlying3
  a3 := Tryz.isAgg3
  z3 := Tryz.sizeOf3
  v3 := Tryz.zeroValue3
  t4 := Tryz.underlying4
  a4 := Tryz.isAgg4
  z4 := Tryz.sizeOf4
  v4 := Tryz.zeroValue4
  t5 := Tryz.underlying5
  a5 := Tryz.isAgg5
  z5 := Tryz.sizeOf5
  v5 := Tryz.zeroValue5
  t9 := Tryz.underlying9
  a9 := Tryz.isAgg9
  z9 := Tryz.sizeOf9
  v9 := Tryz.zeroValue9
  t21 := Tryz.underlying21
  a21 := Tryz.isAgg21
  z21 := Tryz.sizeOf21
  v21 := Tryz.zeroValue21
  t46 := Tryz.underlying182
  a46 := Tryz.isAgg182
  z46 := Tryz.sizeOf182
  v46 := Tryz.zeroValue182
  t105 := Tryz.underlying205
  a105 := Tryz.isAgg205
  z105 := Tryz.sizeOf205
  v105 := Tryz.zeroValue205
  t119 := Tryz.underlying267
  a119 := Tryz.isAgg267
  z119 := Tryz.sizeOf267
  t138 := Tryz.underlying269
  a138 := Tryz.isAgg269
  z138 := Tryz.sizeOf269
  v138 := Tryz.zeroValue269
  t139 := Tryz.underlying270
  a139 := Tryz.isAgg270
  z139 := Tryz.sizeOf270
  v139 := Tryz.zeroValue270
  g3 := by kernel_rfl
  g4 := by kernel_rfl }
open Go.RowKit Go.Lib in
theorem Tryz.utf8_DecodeRuneInString_ascii (s : ByteArray) (x : UInt8) (w : World) (h0 : s.data.toList[0]? = some x) (hx : x.toNat < 128) :
    Calls Tryz.prog 198 #[.string s] w fun e w' => e = .returned (.tuple #[.int .i32 x.toNat, .int .i64 1]) ∧ w' = w := Any.utf8_DecodeRuneInString_ascii Tryz.lays197 s x w h0 hx
open Go.RowKit Go.Lib in
theorem Tryz.utf8_RuneCountInString_ascii (s : ByteArray) (w : World) (hs : s.size < 4294967281) (hascii : ∀ (j : Nat) b, s.data.toList[j]? = some b → b.toNat < 128) :
    Calls Tryz.prog 236 #[.string s] w fun e w' => e = .returned (.int .i64 s.size) ∧ w' = w.iter s s.size := Any.utf8_RuneCountInString_ascii Tryz.lays195 s w hs hascii
def Tryz.lays264_ren : Go.Shelf.Ren := ⟨fun | 264 => 245 | n => n, fun | 53 => 143 | 46 => 182 | n => n, fun | n => n⟩
theorem Tryz.lays264 : Go.Proofs.Lays.n264 Tryz.prog Tryz.lays264_ren := {
  mixed := by kernel_rfl
  f264 := Tryz.func245.trans (congrArg some (by kernel_rfl))
  t46 := Tryz.underlying182
  a46 := Tryz.isAgg182
  z46 := Tryz.sizeOf182
  v46 := Tryz.zeroValue182
  t53 := Tryz.underlying143
  a53 := Tryz.isAgg143
  z53 := Tryz.sizeOf143
  v53 := Tryz.zeroValue143 }
open Go.RowKit Go.Lib in
theorem Tryz.bits_Mul64 (x y : Nat) (hx : x < 18446744073709551616) (hy : y < 18446744073709551616) (w : World) :
    Calls Tryz.prog 245 #[.int .u64 x, .int .u64 y] w fun e w' => e = .returned (.tuple #[.int .u64 ((x * y / 18446744073709551616 : Nat) : Int), .int .u64 ((x * y % 18446744073709551616 : Nat) : Int)]) ∧ w' = w := Any.bits_Mul64 Tryz.lays264 x y hx hy w
def Tryz.lays212_ren : Go.Shelf.Ren := ⟨fun | 212 => 210 | 263 => 244 | 264 => 245 | n => n, fun | 46 => 182 | 51 => 217 | 146 => 250 | 53 => 143 | 148 => 252 | n => n, fun | n => n⟩
theorem Tryz.lays212 : Go.Proofs.Lays.n212 Tryz.prog Tryz.lays212_ren := {
  mixed := by kernel_rfl
  f212 := Tryz.func210.trans (congrArg some (by kernel_rfl))
  f263 := Tryz.func244.trans (congrArg some (by kernel_rfl))
  f264 := Tryz.func245.trans (congrArg some (by kernel_rfl))
  t46 := Tryz.underlying182
  a46 := Tryz.isAgg182
  z46 := Tryz.sizeOf182
  v46 := Tryz.zeroValue182
  t51 := Tryz.underlying217
  a51 := Tryz.isAgg217
  z51 := Tryz.sizeOf217
  v51 := Tryz.zeroValue217
  t53 := Tryz.underlying143
  a53 := Tryz.isAgg143
  z53 := Tryz.sizeOf143
  v53 := Tryz.zeroValue143
  t146 := Tryz.underlying250
  a146 := Tryz.isAgg250
  z146 := Tryz.sizeOf250
  v146 := Tryz.zeroValue250
  t148 := Tryz.underlying252
  a148 := Tryz.isAgg252
  z148 := Tryz.sizeOf252
  v148 := Tryz.zeroValue252 }
open Go.RowKit Go.Lib in
theorem Tryz.bits_Mul (x y : Nat) (hx : x < 18446744073709551616) (hy : y < 18446744073709551616) (w : World) :
    Calls Tryz.prog 210 #[.int .u64 x, .int .u64 y] w fun e w' => e = .returned (.tuple #[.int .u64 ((x * y / 18446744073709551616 : Nat) : Int), .int .u64 ((x * y % 18446744073709551616 : Nat) : Int)]) ∧ w' = w := Any.bits_Mul Tryz.lays212 x y hx hy w
def Tryz.lays105_ren : Go.Shelf.Ren := ⟨fun | 105 => 173 | 212 => 210 | 99 => 211 | 165 => 196 | 166 => 114 | 170 => 212 | 169 => 115 | 263 => 244 | 264 => 245 | 206 => 224 | 240 => 171 | 241 => 238 | 276 => 208 | 277 => 259 | n => n, fun | 9 => 9 | 3 => 3 | 4 => 4 | 20 => 20 | 0 => 0 | 46 => 182 | 109 => 221 | 5 => 5 | 72 => 152 | 76 => 155 | 51 => 217 | 146 => 250 | 53 => 143 | 148 => 252 | 70 => 150 | 37 => 32 | 75 => 154 | 127 => 191 | 164 => 219 | 80 => 42 | n => n, fun | n => n⟩
theorem Tryz.lays105 : Go.Proofs.Lays.n105 Tryz.prog Tryz.lays105_ren := {
  mixed := by kernel_rfl
  f99 := Tryz.func211.trans (congrArg some (by kernel_rfl))
  f105 := Tryz.func173.trans (congrArg some (by kernel_rfl))
  f165 := Tryz.func196.trans (congrArg some (by kernel_rfl))
  f166 := Tryz.func114.trans (congrArg some (by kernel_rfl))
  f169 := Tryz.func115.trans (congrArg some (by kernel_rfl))
  f170 := Tryz.func212.trans (congrArg some (by kernel_rfl))
  f206 := Tryz.func224.trans (congrArg some (by kernel_rfl))
  f212 := Tryz.func210.trans (congrArg some (by kernel_rfl))
  f240 := Tryz.func171.trans (congrArg some (by kernel_rfl))
  f241 := Tryz.func238.trans (congrArg some (by kernel_rfl))
  f263 := Tryz.func244.trans (congrArg some (by kernel_rfl))
  f264 := Tryz.func245.trans (congrArg some (by kernel_rfl))
  f276 := Tryz.func208.trans (congrArg some (by kernel_rfl))
  f277 := Tryz.func259.trans (congrArg some (by kernel_rfl))
  t0 := Tryz.underlying0
  a0 := Tryz.isAgg0
  z0 := Tryz.sizeOf0
  v0 := Tryz.zeroValue0
  t3 := Tryz.underlying3
  a3 := Tryz.isAgg3
  z3 := Tryz.sizeOf3
  v3 := Tryz.zeroValue3
  t4 := Tryz.underlying4
  a4 := Tryz.isAgg4
  z4 := Tryz.sizeOf4
  v4 := Tryz.zeroValue4
  t5 := Tryz.underlying5
  a5 := Tryz.isAgg5
  z5 := Tryz.sizeOf5
  v5 := Tryz.zeroValue5
  t9 := Tryz.underlying9
  a9 := Tryz.isAgg9
  z9 := Tryz.sizeOf9
  v9 := Tryz.zeroValue9
  t20 := Tryz.underlying20
  a20 := Tryz.isAgg20
  z20 := Tryz.sizeOf20
  v20 := Tryz.zeroValue20
  t37 := Tryz.underlying32
  a37 := Tryz.isAgg32
  z37 := Tryz.sizeOf32
  v37 := Tryz.zeroValue32
  t46 := Tryz.underlying182
  a46 := Tryz.isAgg182
  z46 := Tryz.sizeOf182
  v46 := Tryz.zeroValue182
  t51 := Tryz.underlying217
  a51 := Tryz.isAgg217
  z51 := Tryz.sizeOf217
  v51 := Tryz.zeroValue217
  t53 := Tryz.underlying143
  a53 := Tryz.isAgg143
  z53 := Tryz.sizeOf143
  v53 := Tryz.zeroValue143
  t70 := Tryz.underlying150
  a70 := Tryz.isAgg150
  z70 := Tryz.sizeOf150
  v70 := Tryz.zeroValue150
  t72 := Tryz.underlying152
  a72 := Tryz.isAgg152
  z72 := Tryz.sizeOf152
  v72 := Tryz.zeroValue152
  t75 := Tryz.underlying154
  a75 := Tryz.isAgg154
  z75 := Tryz.sizeOf154
  v75 := Tryz.zeroValue154
  t76 := Tryz.underlying155
  a76 := Tryz.isAgg155
  z76 := Tryz.sizeOf155
  v76 := Tryz.zeroValue155
  t109 := Tryz.underlying221
  a109 := Tryz.isAgg221
  z109 := Tryz.sizeOf221
  v109 := Tryz.zeroValue221
  t127 := Tryz.underlying191
  a127 := Tryz.isAgg191
  z127 := Tryz.sizeOf191
  v127 := Tryz.zeroValue191
  t146 := Tryz.underlying250
  a146 := Tryz.isAgg250
  z146 := Tryz.sizeOf250
  v146 := Tryz.zeroValue250
  t148 := Tryz.underlying252
  a148 := Tryz.isAgg252
  z148 := Tryz.sizeOf252
  v148 := Tryz.zeroValue252
  t164 := Tryz.underlying219
  a164 := Tryz.isAgg219
  z164 := Tryz.sizeOf219
  v164 := Tryz.zeroValue219 }
theorem Tryz.Builder_Extra_105 : Builder.Extra Tryz.prog Tryz.lays105_ren := {
  sizeBuilder := by kernel_rfl
  liesBuilder := by kernel_rfl
  t5 := Tryz.underlying5
  a5 := Tryz.isAgg5
  z5 := Tryz.sizeOf5
  v5 := Tryz.zeroValue5
  infoByte := by kernel_rfl
  cellsByte := by kernel_rfl
  sizeByte := by kernel_rfl
  neB5 := by decide }
open Go.RowKit Go.Lib in
theorem Tryz.strings_Repeat_main (s : ByteArray) (c : Nat) (w : World) (hc2 : 2 ≤ c) (hc : c ≤ 9223372036854775807) (hlen : s.size * c ≤ 140737488355328) (h0 : 0 < s.size) :
    Calls Tryz.prog 173 #[.string s, .int .i64 c] w fun e w' => e = .returned (.string ⟨(Lib.repeatL s.data.toList c).toArray⟩) ∧ Below w.heap.size w w' := Any.strings_Repeat_main Tryz.lays105 Tryz.Builder_Extra_105 s c w hc2 hc hlen h0
open Go.RowKit Go.Lib in
theorem Tryz.strings_Repeat_zero (s : ByteArray) (w : World) :
    Calls Tryz.prog 173 #[.string s, .int .i64 0] w fun e w' => e = .returned (.string ⟨#[]⟩) ∧ w' = w := Any.strings_Repeat_zero Tryz.lays105 s w
open Go.RowKit Go.Lib in
theorem Tryz.strings_Repeat_one (s : ByteArray) (w : World) :
    Calls Tryz.prog 173 #[.string s, .int .i64 1] w fun e w' => e = .returned (.string s) ∧ w' = w := Any.strings_Repeat_one Tryz.lays105 s w
open Go.RowKit Go.Lib in
theorem Tryz.strings_Repeat_empty (s : ByteArray) (c : Nat) (w : World) (hc2 : 2 ≤ c) (hc : c ≤ 9223372036854775807) (h0 : s.size = 0) :
    Calls Tryz.prog 173 #[.string s, .int .i64 c] w fun e w' => e = .returned (.string ⟨#[]⟩) ∧ w' = w := Any.strings_Repeat_empty Tryz.lays105 s c w hc2 hc h0
open Go.RowKit Go.Lib in
theorem Tryz.strings_Repeat_negative (s : ByteArray) (c : Int) (w : World) (hc : c < 0) :
    Calls Tryz.prog 173 #[.string s, .int .i64 c] w fun e w' => e = .panicked [{ v := repeatPanic Tryz.lays105_ren "strings: negative Repeat count", recovered := false }] ∧ w' = w := Any.strings_Repeat_negative Tryz.lays105 s c w hc
open Go.RowKit Go.Lib in
theorem Tryz.strings_Repeat_overflow (s : ByteArray) (c : Nat) (w : World) (hc : c ≤ 9223372036854775807) (hs : s.size ≤ 9223372036854775807) (hbig : 9223372036854775807 < s.size * c) :
    Calls Tryz.prog 173 #[.string s, .int .i64 c] w fun e w' => e = .panicked [{ v := repeatPanic Tryz.lays105_ren "strings: Repeat output length overflow", recovered := false }] ∧ w' = w := Any.strings_Repeat_overflow Tryz.lays105 s c w hc hs hbig
open Go.RowKit Go.Lib in
theorem Tryz.strings_Repeat (s : ByteArray) (c : Nat) (w : World) (hc : c ≤ 9223372036854775807) (hlen : s.size * c ≤ 140737488355328) :
    Calls Tryz.prog 173 #[.string s, .int .i64 c] w fun e w' => e = .returned (.string ⟨(Lib.repeatL s.data.toList c).toArray⟩) ∧ Below w.heap.size w w' := Any.strings_Repeat Tryz.lays105 Tryz.Builder_Extra_105 s c w hc hlen
def Tryz.lays260_ren : Go.Shelf.Ren := ⟨fun | 260 => 240 | n => n, fun | 9 => 9 | 21 => 21 | 3 => 3 | 4 => 4 | 5 => 5 | 119 => 267 | 0 => 0 | 46 => 182 | 139 => 270 | 138 => 269 | n => n, fun | 3 => 3 | 4 => 4 | n => n⟩
theorem Tryz.lays260 : Go.Proofs.Lays.n260 Tryz.prog Tryz.lays260_ren := {
  mixed := by kernel_rfl
  f260 := Tryz.func240.trans (congrArg some (by kernel_rfl))
  t0 := Tryz.underlying0
  a0 := Tryz.isAgg0
  z0 := Tryz.sizeOf0
  v0 := Tryz.zeroValue0
  t3 := Tryz.underlying3
  a3 := Tryz.isAgg3
  z3 := Tryz.sizeOf3
  v3 := Tryz.zeroValue3
  t4 := Tryz.underlying4
  a4 := Tryz.isAgg4
  z4 := Tryz.sizeOf4
  v4 := Tryz.zeroValue4
  t5 := Tryz.underlying5
  a5 := Tryz.isAgg5
  z5 := Tryz.sizeOf5
  v5 := Tryz.zeroValue5
  t9 := Tryz.underlying9
  a9 := Tryz.isAgg9
  z9 := Tryz.sizeOf9
  v9 := Tryz.zeroValue9
  t21 := Tryz.underlying21
  a21 := Tryz.isAgg21
  z21 := Tryz.sizeOf21
  v21 := Tryz.zeroValue21
  t46 := Tryz.underlying182
  a46 := Tryz.isAgg182
  z46 := Tryz.sizeOf182
  v46 := Tryz.zeroValue182
  t119 := Tryz.underlying267
  a119 := Tryz.isAgg267
  z119 := Tryz.sizeOf267
  t138 := Tryz.underlying269
  a138 := Tryz.isAgg269
  z138 := Tryz.sizeOf269
  v138 := Tryz.zeroValue269
  t139 := Tryz.underlying270
  a139 := Tryz.isAgg270
  z139 := Tryz.sizeOf270
  v139 := Tryz.zeroValue270
  g3 := by kernel_rfl
  g4 := by kernel_rfl }
open Go.RowKit Go.Lib in
theorem Tryz.utf8_decodeRuneInStringSlow (s : ByteArray) (w : World) (hT : Lib.Utf8Tabs 3 4 w) :
    Calls Tryz.prog 240 #[.string s] w fun e w' => e = .returned (.tuple #[.int .i32 (Lib.decodeGo s).1, .int .i64 (Lib.decodeGo s).2]) ∧ Below w.heap.size w w' := Any.utf8_decodeRuneInStringSlow Tryz.lays260 s w hT
open Go.RowKit Go.Lib in
theorem Tryz.utf8_DecodeRuneInString (s : ByteArray) (w : World) (hT : Lib.Utf8Tabs 3 4 w) :
    Calls Tryz.prog 198 #[.string s] w fun e w' => e = .returned (.tuple #[.int .i32 (Lib.decodeGo s).1, .int .i64 (Lib.decodeGo s).2]) ∧ Below w.heap.size w w' := Any.utf8_DecodeRuneInString Tryz.lays197 s w hT
def Tryz.laysNm216_ren : Go.Shelf.Ren := ⟨fun | 16 => 74 | n => n, fun | 24 => 22 | 9 => 9 | 4 => 4 | n => n, fun | n => n⟩
theorem Tryz.laysNm216 : Go.Proofs.Lays2.n16 Tryz.prog Tryz.laysNm216_ren := {
  mixed := by kernel_rfl
  f16 := Tryz.func74.trans (congrArg some (by kernel_rfl))
  t4 := Tryz.underlying4
  a4 := Tryz.isAgg4
  z4 := Tryz.sizeOf4
  v4 := Tryz.zeroValue4
  t9 := Tryz.underlying9
  a9 := Tryz.isAgg9
  z9 := Tryz.sizeOf9
  v9 := Tryz.zeroValue9
  t24 := Tryz.underlying22
  a24 := Tryz.isAgg22
  z24 := Tryz.sizeOf22
  v24 := Tryz.zeroValue22
  i9 := by kernel_rfl }
open Go.RowKit Go.Lib in
theorem Tryz.slices_Clone_string (b off n c : Nat) (zs : List ByteArray) (w : World) (hz : n ≤ zs.length) (hbig : n * 16 ≤ 140737488355328) (hc : ∀ j, j < zs.length → w.cell? ⟨b, off + j, none⟩ = some (.string (zs.getD j ByteArray.empty))) :
    Calls Tryz.prog 74 #[.slice (some ⟨b, off, none⟩) n c] w fun e w' => ∃ v', e = .returned v' ∧ w'.ownsRow w.heap.size 9 1 v' n ((zs.take n).map (Value.string)) ∧ v' ≠ .slice none 0 0 ∧ Below w.heap.size w w' := Any.slices_Clone_string Tryz.laysNm216 b off n c zs w hz hbig hc
open Go.RowKit Go.Lib in
theorem Tryz.slices_Clone_string_nil (n c : Nat) (w : World) :
    Calls Tryz.prog 74 #[.slice none n c] w fun e w' => e = .returned (.slice none 0 0) ∧ w' = w := Any.slices_Clone_string_nil Tryz.laysNm216 n c w
open Go.RowKit Go.Lib in
theorem Tryz.slices_Clone_string_zero (a : Addr) (c : Nat) (w : World) :
    Calls Tryz.prog 74 #[.slice (some a) 0 c] w fun e w' => ∃ v', e = .returned v' ∧ w'.ownsRow w.heap.size 9 1 v' 0 [] ∧ v' ≠ .slice none 0 0 ∧ Below w.heap.size w w' := Any.slices_Clone_string_zero Tryz.laysNm216 a c w
def Tryz.lays194_ren : Go.Shelf.Ren := ⟨fun | 194 => 258 | n => n, fun | 31 => 22 | 9 => 9 | 3 => 3 | 4 => 4 | 0 => 0 | n => n, fun | n => n⟩
theorem Tryz.lays194 : Go.Proofs.Lays.n194 Tryz.prog Tryz.lays194_ren := {
  mixed := by kernel_rfl
  f194 := Tryz.func258.trans (congrArg some (by kernel_rfl))
  t0 := Tryz.underlying0
  a0 := Tryz.isAgg0
  z0 := Tryz.sizeOf0
  v0 := Tryz.zeroValue0
  t3 := Tryz.underlying3
  a3 := Tryz.isAgg3
  z3 := Tryz.sizeOf3
  v3 := Tryz.zeroValue3
  t4 := Tryz.underlying4
  a4 := Tryz.isAgg4
  z4 := Tryz.sizeOf4
  v4 := Tryz.zeroValue4
  t9 := Tryz.underlying9
  a9 := Tryz.isAgg9
  z9 := Tryz.sizeOf9
  v9 := Tryz.zeroValue9
  t31 := Tryz.underlying22
  a31 := Tryz.isAgg22
  z31 := Tryz.sizeOf22
  v31 := Tryz.zeroValue22 }
open Go.RowKit Go.Lib Go.Sort in
theorem Tryz.slices_Compact_string_arr (blk off cap : Nat) (d : Array (List UInt8)) (w : World) (hH : Holds encStr w blk off d) (hsz : d.size ≤ 9223372036854775807) (hcap : d.size ≤ cap) :
    Calls Tryz.prog 258 #[.slice (some ⟨blk, off, none⟩) d.size cap] w fun e w' => e = .returned (.slice (some ⟨blk, off, none⟩) (compactUpTo d d.size).length cap) ∧ ∃ q, w' = putRow encStr (Sort.ahead w q) blk off (compactUpTo d d.size ++ List.replicate (d.size - (compactUpTo d d.size).length) []).toArray := Any.slices_Compact_string_arr Tryz.lays194 blk off cap d w hH hsz hcap
open Go.RowKit Go.Lib Go.Sort in
theorem Tryz.slices_Compact_string (blk off cap : Nat) (zs : List (List UInt8)) (w : World) (hH : Holds encStr w blk off zs.toArray) (hsz : zs.length ≤ 9223372036854775807) (hcap : zs.length ≤ cap) :
    Calls Tryz.prog 258 #[.slice (some ⟨blk, off, none⟩) zs.length cap] w fun e w' => e = .returned (.slice (some ⟨blk, off, none⟩) (Lib.compact zs).length cap) ∧ ∃ q, w' = putRow encStr (Sort.ahead w q) blk off (Lib.compact zs ++ List.replicate (zs.length - (Lib.compact zs).length) []).toArray := Any.slices_Compact_string Tryz.lays194 blk off cap zs w hH hsz hcap
open Go.RowKit Go.Lib Go.Sort in
theorem Tryz.slices_Compact_string_empty (a : Option Addr) (cap : Nat) (w : World) :
    Calls Tryz.prog 258 #[.slice a 0 cap] w fun e w' => e = .returned (.slice a 0 cap) ∧ w' = w := Any.slices_Compact_string_empty Tryz.lays194 a cap w
open Go.RowKit Go.Lib Go.Sort in
theorem Tryz.slices_Compact_string_cells (b off n c : Nat) (Sx : Nat → ByteArray) (w : World) (hbig : n ≤ 9223372036854775807) (hcap : n ≤ c) (hc : ∀ i, i < n → w.cell? ⟨b, off + i, none⟩ = some (.string (Sx i))) (hf : ∀ j, j < n → w.frozen? ⟨b, off + j, none⟩ = false) :
    Calls Tryz.prog 258 #[.slice (some ⟨b, off, none⟩) n c] w fun e w' => e = .returned (.slice (some ⟨b, off, none⟩) (Lib.compact (Lib.strsOf Sx n)).length c) ∧ ∃ q, w' = (w.drewN q).setCells b off ((Lib.compact (Lib.strsOf Sx n) ++ List.replicate (n - (Lib.compact (Lib.strsOf Sx n)).length) []).map encStr) := Any.slices_Compact_string_cells Tryz.lays194 b off n c Sx w hbig hcap hc hf
def Tryz.laysSlE041_f74_ren : Go.Shelf.Ren := ⟨fun | 41 => 74 | n => n, fun | 22 => 22 | 23 => 9 | 4 => 4 | n => n, fun | n => n⟩
theorem Tryz.laysSlE041_f74 : Go.Proofs.SlLaysE0.n41 Tryz.prog Tryz.laysSlE041_f74_ren := {
  mixed := by kernel_rfl
  f41 := ⟨Tryz.f74.name, by decide, Tryz.func74.trans (congrArg some (by kernel_rfl))⟩
  t4 := Tryz.underlying4
  a4 := Tryz.isAgg4
  z4 := Tryz.sizeOf4
  v4 := Tryz.zeroValue4
  t22 := Tryz.underlying22
  a22 := Tryz.isAgg22
  z22 := Tryz.sizeOf22
  v22 := Tryz.zeroValue22 }
open Go.RowKit Go.Lib in
theorem Tryz.slices_Clone (i0 : TypeInfo) (z : Value) (size bytes : Nat) (hi : Tryz.prog.info? 9 = some i0) (hz0 : i0.zero = some z) (hz1 : i0.size = size) (hz2 : i0.bytes = bytes) (hzs : z.cells.size = size) (hsz : 0 < size) (z23 : ∀ w, (Go.sizeOf 9).run Tryz.prog w = .ok size w) (b off n c : Nat) (news : List Value) (w : World) (hl : news.length = n * size) (hn : n ≤ maxLen) (hbig : n * bytes ≤ 140737488355328) (hc : ∀ j u, news[j]? = some u → w.cell? ⟨b, off + j, none⟩ = some u) (h1 : ∀ u ∈ news, u.oneCell' = true) :
    Calls Tryz.prog 74 #[.slice (some ⟨b, off, none⟩) n c] w fun e w' => ∃ v', e = .returned v' ∧ w'.ownsRow w.heap.size 9 size v' n news ∧ v' ≠ .slice none 0 0 ∧ Below w.heap.size w w' := AnyE.slices_Clone Tryz.laysSlE041_f74 i0 z size bytes hi hz0 hz1 hz2 hzs hsz z23 b off n c news w hl hn hbig hc h1
open Go.RowKit Go.Lib in
theorem Tryz.slices_Clone_nil (n c : Nat) (w : World) :
    Calls Tryz.prog 74 #[.slice none n c] w fun e w' => e = .returned (.slice none 0 0) ∧ w' = w := AnyE.slices_Clone_nil Tryz.laysSlE041_f74 n c w
def Tryz.laysSlM6_f126_ren : Go.Shelf.Ren := ⟨fun | 6 => 126 | 8 => 177 | 9 => 176 | 19 => 222 | 20 => 223 | 21 => 213 | 22 => 214 | 23 => 215 | 24 => 216 | 25 => 217 | 26 => 218 | 27 => 219 | 28 => 220 | 29 => 221 | 36 => 246 | 31 => 247 | 32 => 248 | 37 => 249 | 38 => 250 | 39 => 251 | 41 => 268 | n => n, fun | 27 => 22 | 29 => 9 | 3 => 3 | 32 => 182 | 26 => 22 | 0 => 0 | 44 => 217 | 46 => 143 | 4 => 4 | 36 => 226 | 35 => 225 | 41 => 122 | 5 => 5 | 9 => 9 | 53 => 254 | 57 => 257 | 63 => 276 | 64 => 277 | n => n, fun | n => n⟩
theorem Tryz.laysSlM6_f126 : Go.Proofs.SlLaysM.n6 Tryz.prog Tryz.laysSlM6_f126_ren := {
  mixed := by kernel_rfl
  f6 := ⟨Tryz.f126.name, by decide, Tryz.func126.trans (congrArg some (by kernel_rfl))⟩
  f8 := Tryz.func177.trans (congrArg some (by kernel_rfl))
  f9 := ⟨Tryz.f176.name, by decide, Tryz.func176.trans (congrArg some (by kernel_rfl))⟩
  f19 := Tryz.func222.trans (congrArg some (by kernel_rfl))
  f20 := Tryz.func223.trans (congrArg some (by kernel_rfl))
  f21 := ⟨Tryz.f213.name, by decide, Tryz.func213.trans (congrArg some (by kernel_rfl))⟩
  f22 := ⟨Tryz.f214.name, by decide, Tryz.func214.trans (congrArg some (by kernel_rfl))⟩
  f23 := ⟨Tryz.f215.name, by decide, Tryz.func215.trans (congrArg some (by kernel_rfl))⟩
  f24 := ⟨Tryz.f216.name, by decide, Tryz.func216.trans (congrArg some (by kernel_rfl))⟩
  f25 := ⟨Tryz.f217.name, by decide, Tryz.func217.trans (congrArg some (by kernel_rfl))⟩
  f26 := ⟨Tryz.f218.name, by decide, Tryz.func218.trans (congrArg some (by kernel_rfl))⟩
  f27 := ⟨Tryz.f219.name, by decide, Tryz.func219.trans (congrArg some (by kernel_rfl))⟩
  f28 := ⟨Tryz.f220.name, by decide, Tryz.func220.trans (congrArg some (by kernel_rfl))⟩
  f29 := ⟨Tryz.f221.name, by decide, Tryz.func221.trans (congrArg some (by kernel_rfl))⟩
  f31 := Tryz.func247.trans (congrArg some (by kernel_rfl))
  f32 := Tryz.func248.trans (congrArg some (by kernel_rfl))
  f36 := ⟨Tryz.f246.name, by decide, Tryz.func246.trans (congrArg some (by kernel_rfl))⟩
  f37 := ⟨Tryz.f249.name, by decide, Tryz.func249.trans (congrArg some (by kernel_rfl))⟩
  f38 := ⟨Tryz.f250.name, by decide, Tryz.func250.trans (congrArg some (by kernel_rfl))⟩
  f39 := ⟨Tryz.f251.name, by decide, Tryz.func251.trans (congrArg some (by kernel_rfl))⟩
  f41 := ⟨Tryz.f268.name, by decide, Tryz.func268.trans (congrArg some (by kernel_rfl))⟩
  t0 := Tryz.underlying0
  a0 := Tryz.isAgg0
  z0 := Tryz.sizeOf0
  v0 := Tryz.zeroValue0
  t3 := Tryz.underlying3
  a3 := Tryz.isAgg3
  z3 := Tryz.sizeOf3
  v3 := Tryz.zeroValue3
  t4 := Tryz.underlying4
  a4 := Tryz.isAgg4
  z4 := Tryz.sizeOf4
  v4 := Tryz.zeroValue4
  t5 := Tryz.underlying5
  a5 := Tryz.isAgg5
  z5 := Tryz.sizeOf5
  v5 := Tryz.zeroValue5
  t9 := Tryz.underlying9
  a9 := Tryz.isAgg9
  z9 := Tryz.sizeOf9
  v9 := Tryz.zeroValue9
  t26 := Tryz.underlying22
  a26 := Tryz.isAgg22
  z26 := Tryz.sizeOf22
  v26 := Tryz.zeroValue22
  t27 := Tryz.underlying22
  a27 := Tryz.isAgg22
  z27 := Tryz.sizeOf22
  v27 := Tryz.zeroValue22
  t29 := Tryz.underlying9
  a29 := Tryz.isAgg9
  z29 := Tryz.sizeOf9
  v29 := Tryz.zeroValue9
  t32 := Tryz.underlying182
  a32 := Tryz.isAgg182
  z32 := Tryz.sizeOf182
  v32 := Tryz.zeroValue182
  t35 := Tryz.underlying225
  a35 := Tryz.isAgg225
  z35 := Tryz.sizeOf225
  v35 := Tryz.zeroValue225
  t36 := Tryz.underlying226
  a36 := Tryz.isAgg226
  z36 := Tryz.sizeOf226
  v36 := Tryz.zeroValue226
  t41 := Tryz.underlying122
  a41 := Tryz.isAgg122
  z41 := Tryz.sizeOf122
  v41 := Tryz.zeroValue122
  t44 := Tryz.underlying217
  a44 := Tryz.isAgg217
  z44 := Tryz.sizeOf217
  v44 := Tryz.zeroValue217
  t46 := Tryz.underlying143
  a46 := Tryz.isAgg143
  z46 := Tryz.sizeOf143
  v46 := Tryz.zeroValue143
  t53 := Tryz.underlying254
  a53 := Tryz.isAgg254
  z53 := Tryz.sizeOf254
  v53 := Tryz.zeroValue254
  t57 := Tryz.underlying257
  a57 := Tryz.isAgg257
  z57 := Tryz.sizeOf257
  v57 := Tryz.zeroValue257
  t63 := Tryz.underlying276
  a63 := Tryz.isAgg276
  z63 := Tryz.sizeOf276
  v63 := Tryz.zeroValue276
  t64 := Tryz.underlying277
  a64 := Tryz.isAgg277
  z64 := Tryz.sizeOf277
  v64 := Tryz.zeroValue277 }
open Go.Sort Go.RowKit in
theorem Tryz.slices_Sort_string (blk off cap : Nat) (ss : List (List UInt8)) (w : World) (hH : Holds encStr w blk off ss.toArray) (hblk : blk < w.heap.size) (hsz : ss.length < 4611686018427387904) :
    Calls Tryz.prog 126 #[.slice (some ⟨blk, off, none⟩) ss.length cap] w fun e w' =>
      e = .returned (.tuple #[]) ∧ ∃ n os, w' = grow (putRow encStr (Sort.ahead w n) blk off (ss.mergeSort fun x y => decide (x ≤ y)).toArray) os := AnyM.slices_Sort_string Tryz.laysSlM6_f126 blk off cap ss w hH hblk hsz
open Go.RowKit Go.Sort in
theorem Tryz.slices_Sort_string_none (p : Option Addr) (cap : Nat) (w : World) :
    Calls Tryz.prog 126 #[.slice p 0 cap] w fun e w' => e = .returned (.tuple #[]) ∧ w' = w := AnyM.slices_Sort_string_none Tryz.laysSlM6_f126 p cap w
end Go.Proofs
/- The builder's WriteString here; frame.All. -/
namespace Go.Proofs.YthogefmngddnbaaGreatDoor
open Go.RowKit

theorem sizeBuilder : (Tryz.prog.info? 152).map (·.size) = some 2 := by kernel_rfl
set_option maxRecDepth 100000 in
theorem copyCheck_fresh (b : Nat) (u : Value) (w : World) (hb : w.heap[b]? = some (.cells #[.pointer none, u] 152 (0, 0))) :
    Calls Tryz.prog 171 #[.pointer (some ⟨b, 0, none⟩)] w fun e w' => e = .returned (.tuple #[]) ∧ w' = w.setCell ⟨b, 0, none⟩ (.pointer (some ⟨b, 0, none⟩)) := by
  have c0 : w.cell? ⟨b, 0, none⟩ = some (.pointer none) := cell_of_at hb 0
  have f0 : w.frozen? ⟨b, 0, none⟩ = false := free_of_at hb 0
  have s0 : w.shape? b = some (152, 2) := by simp [World.shape?, hb]
  have hlt := lt_of_at hb
  obtain ⟨j, hj, hjs⟩ := Option.map_eq_some_iff.1 sizeBuilder
  clear hb
  go_enter Tryz.func171, Tryz.ntmps171
  go_wp2
  rw [Lib.run_to_unsafe w ⟨b, 0, none⟩ Tryz.underlying150 Tryz.underlying219 hj (by rw [hjs]; decide) s0 (Nat.zero_lt_succ 1)]
  simp only [Result.andThen]
  rw [Oper.upon_value]
  go_wp2
  rw [run_callFunc_extern Tryz.func208 (by kernel_rfl) (by kernel_rfl) (by kernel_rfl) (e := Extern.AbiNoEscape.same) (by kernel_rfl)]
  rw [Lib.run_noEscape]
  simp only [Result.andThen]
  rw [Oper.upon_value]
  go_wp2
  rw [Lib.run_from_unsafe w ⟨b, 0, none⟩ Tryz.underlying219 Tryz.underlying150 hj s0 (by kernel_rfl)]
  simp only [Result.andThen]
  rw [Oper.upon_value]
  go_wp2
  go_end0
  exact ⟨rfl, rfl⟩
set_option maxRecDepth 100000 in
theorem copyCheck_used (b : Nat) (u : Value) (w : World) (hb : w.heap[b]? = some (.cells #[.pointer (some ⟨b, 0, none⟩), u] 152 (0, 0))) :
    Calls Tryz.prog 171 #[.pointer (some ⟨b, 0, none⟩)] w fun e w' => e = .returned (.tuple #[]) ∧ w' = w := by
  have c0 : w.cell? ⟨b, 0, none⟩ = some (.pointer (some ⟨b, 0, none⟩)) := cell_of_at hb 0
  have hlt := lt_of_at hb
  obtain ⟨j, hj, _⟩ := Option.map_eq_some_iff.1 sizeBuilder
  clear hb
  go_enter Tryz.func171, Tryz.ntmps171
  go_wp2
  rw [Lib.run_neq_ptr_same w _ Tryz.underlying150 hj]
  go_wp2
  go_end0
  exact ⟨rfl, rfl⟩

theorem info5 : (Tryz.prog.info? 5).map (fun i => (i.zero, i.size, i.bytes)) = some (some (.int .u8 0), 1, 1) := by kernel_rfl
/-- a builder that has been used: in which block, with what bytes -/
def BuP (B b : Nat) (bs : List Value) (w : World) (e : Ending) (w' : World) : Prop :=
  e = .returned (.tuple #[]) ∧ Lib.BuilderAtF 152 5 B b (.pointer (some ⟨b, 0, none⟩)) bs w' ∧ Below B w w'
theorem copyCheck_any (B b : Nat) (bs : List Value) (w : World) (h : Lib.IsBuilderF 152 5 B b bs w) : Calls Tryz.prog 171 #[.pointer (some ⟨b, 0, none⟩)] w (BuP B b bs w) := by
  rcases h with h | h
  · have h' := h
    obtain ⟨_, v, hb, _⟩ := h'
    refine (copyCheck_fresh b v w hb).mono ?_
    rintro e w' ⟨rfl, rfl⟩
    exact ⟨rfl, h.used _, (Below.refl B w).setCell (p := ⟨b, 0, none⟩) h.1 _⟩
  · have h' := h
    obtain ⟨_, v, hb, _⟩ := h'
    refine (copyCheck_used b v w hb).mono ?_
    rintro e w' ⟨rfl, rfl⟩
    exact ⟨rfl, h, Below.refl B _⟩
def BuWP (B b : Nat) (n : Nat) (bs : List Value) (w : World) (e : Ending) (w' : World) : Prop :=
  e = .returned (.tuple #[.int .i64 n, .nilIface]) ∧ Lib.IsBuilderF 152 5 B b bs w' ∧ Below B w w'
set_option maxRecDepth 100000 in
set_option maxHeartbeats 400000 in
theorem writeString_any (B b : Nat) (bs : List Value) (s : ByteArray) (w : World) (h : Lib.IsBuilderF 152 5 B b bs w) (hlen : bs.length + s.size ≤ 140737488355328) (hBw : B ≤ w.heap.size) :
    Calls Tryz.prog 114 #[.pointer (some ⟨b, 0, none⟩), .string s] w (BuWP B b s.size (bs ++ Lib.strCells s) w) := by
  obtain ⟨i0, hi, hz0, hz1, hz2⟩ := info_parts info5
  go_enter Tryz.func114, Tryz.ntmps114
  go_wp2_with fail
  refine (copyCheck_any B b bs _ h).mono ?_
  rintro e w1 ⟨rfl, h1, hb1⟩
  obtain ⟨hB, v, hbk, hown, hne⟩ := h1
  have c1 : w1.cell? ⟨b, 1, none⟩ = some v := cell_of_at hbk 1
  go_wp2_with (at_builtin; refine Lib.wpList_append_own_stringF _ rfl _ _ 32 9 rfl B 5 i0 under32 under9s hi hz0 hz1 hz2 _ _ _ rfl hown s rfl ?c3 ?c4 ?c5 ?_)
  case c3 => unfold maxLen; omega
  case c4 => omega
  case c5 => have := hb1.size; omega
  intro v' w2 hown' hgrow _
  have hlt : b < w1.heap.size := lt_of_at hbk
  have hb2 : w2.heap[b]? = some (.cells #[.pointer (some ⟨b, 0, none⟩), v] 152 (0, 0)) := by
    rw [hgrow.block b hlt (fun e => hne e.symm)]
    exact hbk
  have f1 : w2.frozen? ⟨b, 1, none⟩ = false := free_of_at hb2 1
  have d1 : w2.cell? ⟨b, 1, none⟩ = some v := cell_of_at hb2 1
  have hlt2 := lt_of_at hb2
  obtain ⟨ao, n', cap, rfl⟩ : ∃ ao n' cap, v' = .slice ao n' cap := by
    rcases hown'.2 with ⟨hv, _⟩ | ⟨g, cap, cur, fz, hv, _⟩
    · exact ⟨_, _, _, hv⟩
    · exact ⟨_, _, _, hv⟩
  go_wp2
  go_ret2
  refine ⟨rfl, ?_, ?_⟩
  · exact .inr (Lib.BuilderAtF.put (T := 152) (e := 5) hB hb2 (bs' := bs ++ Lib.strCells s) (by simpa [Lib.strCells_length] using hown') (by decide))
  · exact (hb1.grown hgrow (by have := hb1.size; omega) (fun k hk => (hown.lt k hk).1)).setCell (p := ⟨b, 1, none⟩) hB _
theorem bu_mod0 {B b : Nat} {bs : List Value} {w w' : World} (h : Lib.IsBuilderF 152 5 B b bs w) (m : Mod BSet.none w w') : Lib.IsBuilderF 152 5 B b bs w' := by
  have key : ∀ p, Lib.BuilderAtF 152 5 B b p bs w → Lib.BuilderAtF 152 5 B b p bs w' := by
    rintro p ⟨hB, v, hb, hown, hne⟩
    refine ⟨hB, v, m.at hb (fun h => h), ⟨hown.1, ?_⟩, hne⟩
    rcases hown.2 with h2 | ⟨g, cap, cur, fz, h3, h4, h5, h6⟩
    · exact .inl h2
    · exact .inr ⟨g, cap, cur, fz, h3, h4, m.at h5 (fun h => h), h6⟩
  rcases h with h | h
  · exact .inl (key _ h)
  · exact .inr (key _ h)
theorem bu_new (w : World) (B : Nat) (hB : B ≤ w.heap.size) : Lib.IsBuilderF 152 5 B w.heap.size [] (w.alloc (.cells #[.pointer none, .slice none 0 0] 152)) :=
  .inl ⟨hB, _, at_new, ⟨rfl, .inl ⟨rfl, rfl⟩⟩, by simp [Value.ownBlock]⟩

theorem Mod.below {F : BSet} {w a b : World} (m : Mod F w a) (h : Below w.heap.size a b) : Mod F w b :=
  ⟨h.os.trans m.os, h.output.trans m.output, Nat.le_trans m.size h.size, fun k hk hn => (h.block k hk).trans (m.block k hk hn)⟩
def framesL (xs : List ByteArray) : List UInt8 := (xs.map fun s => (frameOf s).data.toList).flatten
def framesOf (xs : List ByteArray) : ByteArray := ⟨(framesL xs).toArray⟩
def AllP (xs : List ByteArray) (w : World) (e : Ending) (w' : World) : Prop :=
  e = .returned (if xs.all (fun s => decide (s.size ≤ 70000)) then .tuple #[.string (framesOf xs), .int .i64 0] else .tuple #[.string ⟨#[]⟩, .int .i64 11]) ∧ Mod BSet.none w w'
theorem framesL_snoc (xs : List ByteArray) (j : Nat) (h : j < xs.length) : framesL (xs.take (j + 1)) = framesL (xs.take j) ++ (frameOf xs[j]).data.toList := by
  rw [List.take_succ_eq_append_getElem h]; simp only [framesL, List.map_append, List.flatten_append, List.map_cons, List.map_nil, List.flatten_cons, List.flatten_nil, List.append_nil]
theorem framesL_le (xs : List ByteArray) (j : Nat) : (framesL (xs.take j)).length ≤ (framesL xs).length := by
  conv => rhs; rw [← List.take_append_drop j xs]
  simp only [framesL, List.map_append, List.flatten_append, List.length_append]
  omega
set_option maxRecDepth 100000 in
set_option maxHeartbeats 1000000 in
theorem all_any (v : Value) (xs : List ByteArray) (w : World) (hv : SlAt w.heap v (strs xs)) (hs : ∀ s, s ∈ xs → s.size ≤ 1099511627776) (hl : (framesL xs).length ≤ 1099511627776) (ht : SumTab w) (hsz : 9 ≤ w.heap.size) : Calls Tryz.prog 65 #[v] w (AllP xs w) := by
  have HT := Lib.hid ht
  have HV := Lib.hid hv
  obtain ⟨a, c, rfl, hlm, hx⟩ := hv
  rw [strs_length] at hx hlm ⊢
  unfold maxLen at hlm
  have HX := Lib.hid hx
  clear ht hx
  go_enter Tryz.func65, Tryz.ntmps65
  go_wp2
  go_loopw [11] (fun i wr => ∃ j : Nat, j ≤ xs.length ∧ i = .int .i64 j ∧ (∀ q (hq : q < xs.length), q < j → xs[q].size ≤ 70000) ∧ Lib.IsBuilderF 152 5 w.heap.size w.heap.size (Lib.byteCells (framesL (xs.take j))) wr ∧ Mod BSet.none w wr) (fun i _ => xs.length - (intOf i).toNat)
  case atStart => exact ⟨0, Nat.zero_le _, rfl, fun _ _ hq => absurd hq (by omega), bu_new _ _ (Nat.le_refl _), (Mod.refl _ _).alloc _⟩
  case round =>
    obtain ⟨j, hj, rfl, hok, hbu, hbel⟩ := hrel
    obtain ⟨wo, rfl⟩ : ∃ wo : World, wo = wr := ⟨_, rfl⟩
    have HB := Lib.hid hbu
    have HOK := Lib.hid hok
    have hle := framesL_le xs j
    have hwo := hbel.size
    have HBel := Lib.hid hbel
    clear hbu hok hbel
    have hj9 : xs.length ≤ 9223372036854775807 := hlm
    have hjb : ((framesL (xs.take j)).length : Int) ≤ 1099511627776 := by omega
    by_cases hlt : j < xs.length
    · have hne : strs xs ≠ [] := by intro h; have h2 := congrArg List.length h; rw [strs_length, List.length_nil] at h2; omega
      obtain ⟨b, o, cs, t, fr, rfl, hb, hcs⟩ := HX.out hne
      have hcell : wo.cell? ⟨b, o + j, none⟩ = some (.string xs[j]) := by
        have hb' : wo.heap[b]? = some (.cells cs t fr) := HBel.out.at hb (fun h => h)
        rw [cell_of_at hb', hcs j (by simpa using hlt)]
        simp [strs, hlt]
      have hblt : b < wo.heap.size := Nat.lt_of_lt_of_le (lt_of_at hb) hwo
      have hsj := hs _ (List.getElem_mem hlt)
      have hsn := Lib.hid (framesL_snoc xs j hlt)
      have hle1 := framesL_le xs (j + 1)
      obtain ⟨x, hx⟩ : ∃ x, xs[j] = x := ⟨_, rfl⟩
      have HXj := Lib.hid hx
      rw [hx] at hcell hsj
      have hszo : 9 ≤ wo.heap.size := by omega
      have hto : SumTab wo := HT.out.mod HBel.out (fun _ h => h.elim)
      have HTO := Lib.hid hto
      clear hb hcs hx hto
      by_cases hbig : x.size ≤ 70000
      · have hfl : (frameOf x).size = (frameOf x).data.toList.length := by simp
        have hlf : (framesL (xs.take j)).length + (frameOf x).size ≤ 1099511627776 := by
          have := hsn.out
          rw [HXj.out] at this
          rw [this, List.length_append] at hle1
          omega
        clear hfl hle1
        go_wp2_with fail
        refine (fput_any x _ hsj HTO.out hszo).mono ?_
        rintro e w1 ⟨rfl, hm⟩
        rw [if_pos hbig]
        have hm1 := hm.size
        have HB1 := Lib.hid (bu_mod0 HB.out hm)
        have HM := Lib.hid hm
        clear hm
        go_wp2_with fail
        refine (writeString_any w.heap.size w.heap.size _ _ _ HB1.out (by simp [Lib.byteCells]; omega) (by omega)).mono ?_
        rintro e w2 ⟨rfl, h2, hb2⟩
        have HB2 := Lib.hid h2
        have HBel2 := Lib.hid hb2
        clear h2 hb2
        go_wp2
        go_roundw
        case rel =>
          refine ⟨j + 1, by omega, by go_num, ?_, ?_, ?_⟩
          · intro q hq hq1
            by_cases h : q = j
            · subst h; rw [HXj.out]; exact hbig
            · exact HOK.out q hq (by omega)
          · rw [hsn.out, HXj.out]
            have := HB2.out
            simpa [Lib.byteCells, Lib.strCells] using this
          · exact (HBel.out.trans HM.out (fun _ _ h => h)).below HBel2.out
        case measure => simp [intOf]; omega
      · have hall : xs.all (fun s => decide (s.size ≤ 70000)) = false := by
          rw [List.all_eq_false]
          exact ⟨xs[j], List.getElem_mem hlt, by rw [HXj.out]; simpa using hbig⟩
        have HA := Lib.hid hall
        clear hall hle1
        go_wp2_with fail
        refine (fput_any x _ hsj HTO.out hszo).mono ?_
        rintro e w1 ⟨rfl, hm⟩
        rw [if_neg hbig]
        have hm1 := hm.size
        have HM := Lib.hid hm
        clear hm
        go_wp2
        go_ret2
        refine ⟨?_, HBel.out.trans HM.out (fun _ _ h => h)⟩
        rw [HA.out]; rfl
    · have hall : xs.all (fun s => decide (s.size ≤ 70000)) = true := by
        rw [List.all_eq_true]
        intro s hs
        obtain ⟨q, hq, rfl⟩ := List.getElem_of_mem hs
        simpa using HOK.out q hq (by omega)
      have hfull : xs.take j = xs := List.take_of_length_le (by omega)
      have HA := Lib.hid hall
      have HBB : Lib.IsBuilderF 152 5 w.heap.size w.heap.size (Lib.byteCells (framesL xs)) wo := by have := HB.out; rw [hfull] at this; exact this
      have HB' := Lib.hid HBB
      clear hall hfull HBB
      go_wp2_with fail
      refine (Tryz.Builder_String_any_k w.heap.size w.heap.size (framesL xs) wo HB'.out hwo).mono ?_
      rintro e w1 ⟨rfl, _, hb1, _⟩
      have Hb1 := Lib.hid hb1
      clear hb1
      go_wp2
      go_ret2
      refine ⟨?_, HBel.out.below Hb1.out⟩
      rw [HA.out]; rfl
end Go.Proofs.YthogefmngddnbaaGreatDoor
/- Names of segments: plain. -/
namespace Go.Proofs.YthogefmngddnbaaGreatDoor
open Go.RowKit

def digs (n : Nat) : List UInt8 := List.replicate (8 - Lib.nDigits n) 48 ++ Lib.decDigits n
def segL (n : Nat) : List UInt8 := 119 :: 46 :: digs n
def segName (n : Nat) : ByteArray := ⟨(segL n).toArray⟩
/-- wal.Segment -/
def segI (v : Int) : ByteArray := if 1 ≤ v ∧ v ≤ 99999999 then segName v.toNat else ⟨#[]⟩
/-- wal.Number -/
def numOf (s : ByteArray) : Option Nat :=
  match Lib.atoiAll (Lib.trimPrefix s.data.toList [119, 46]) with
  | .ok v => if Lib.hasPrefix s.data.toList [119, 46] = true ∧ segI v = s then some v.toNat else none
  | _ => none

theorem nDigits_le8 {n : Nat} (h : n ≤ 99999999) : Lib.nDigits n ≤ 8 := by
  have key : ∀ (k n : Nat), n < 10 ^ (k + 1) → Lib.nDigits n ≤ k + 1 := by
    intro k
    induction k with
    | zero => intro n hn; rw [Lib.nDigits_small (by omega)]; omega
    | succ k ih =>
      intro n hn
      by_cases h : n < 10
      · rw [Lib.nDigits_small h]; omega
      · rw [Lib.nDigits_big h]
        have := ih (n / 10) (by rw [Nat.div_lt_iff_lt_mul (by decide)]; rw [Nat.pow_succ] at hn; exact hn)
        omega
  exact key 7 n (by omega)
theorem digs_length {n : Nat} (h : n ≤ 99999999) : (digs n).length = 8 := by
  have := nDigits_le8 h
  unfold digs
  rw [List.length_append, List.length_replicate, Lib.decDigits_length]; omega
theorem segName_size {n : Nat} (h : n ≤ 99999999) : (segName n).size = 10 := by
  show (segL n).length = 10
  unfold segL
  rw [List.length_cons, List.length_cons, digs_length h]
theorem decFrom_append : ∀ (l r : List UInt8) (acc : Nat), Lib.decFrom acc (l ++ r) = (Lib.decFrom acc l).bind fun a => Lib.decFrom a r := by
  intro l
  induction l with
  | nil => intro r acc; rfl
  | cons b l ih =>
    intro r acc
    simp only [List.cons_append, Lib.decFrom]
    split
    · exact ih _ _
    · rfl
theorem digit_of (d : Nat) (h : d < 10) : Lib.digitVal (UInt8.ofNat (48 + d)) = some d := by
  unfold Lib.digitVal
  have : (UInt8.ofNat (48 + d)).toNat = 48 + d := by rw [UInt8.toNat_ofNat']; omega
  rw [this, if_pos (by omega)]
  congr 1
  omega
theorem decFrom_digits (n : Nat) : ∀ acc, Lib.decFrom acc (Lib.decDigits n) = some (acc * 10 ^ Lib.nDigits n + n) := by
  induction n using Nat.strongRecOn with
  | ind n ih =>
    intro acc
    by_cases h : n < 10
    · rw [Lib.decDigits_one h, Lib.nDigits_small h]
      simp only [Lib.decFrom, digit_of n h, Nat.pow_one]
    · rw [Lib.decDigits, dif_neg h, decFrom_append, ih (n / 10) (by omega), Lib.nDigits_big h]
      simp only [Option.bind_some, Lib.decFrom, digit_of (n % 10) (by omega)]
      congr 1
      rw [Nat.pow_succ, ← Nat.mul_assoc]
      omega
theorem decFrom_zeros (k : Nat) : Lib.decFrom 0 (List.replicate k 48) = some 0 := by
  induction k with
  | zero => rfl
  | succ k ih => rw [List.replicate_succ]; exact ih
theorem decNat_digs (n : Nat) : Lib.decNat (digs n) = some n := by
  have hne : (digs n).isEmpty = false := by
    unfold digs
    have := Lib.nDigits_pos n
    have h2 := Lib.decDigits_length n
    cases hd : Lib.decDigits n with
    | nil => rw [hd] at h2; simp at h2; omega
    | cons a l => simp
  unfold Lib.decNat
  rw [hne]
  simp only [Bool.false_eq_true, if_false]
  unfold digs
  rw [decFrom_append, decFrom_zeros]
  simp only [Option.bind_some]
  rw [decFrom_digits]; simp
theorem digs_head {n : Nat} {b : UInt8} {r : List UInt8} (h : digs n = b :: r) : 48 ≤ b.toNat ∧ b.toNat ≤ 57 := by
  have h2 := decNat_digs n
  rw [h] at h2
  unfold Lib.decNat at h2
  simp only [List.isEmpty_cons, Bool.false_eq_true, if_false, Lib.decFrom] at h2
  cases hd : Lib.digitVal b with
  | none => rw [hd] at h2; cases h2
  | some d =>
    unfold Lib.digitVal at hd
    split at hd
    · assumption
    · cases hd
theorem atoi_digs {n : Nat} (h : n ≤ 99999999) : Lib.atoiAll (digs n) = .ok (n : Int) := by
  have hl := digs_length h
  rw [Lib.atoiAll_short _ (by omega)]
  have h2 := decNat_digs n
  cases hd : digs n with
  | nil => rw [hd] at hl; cases hl
  | cons b r =>
    have hb := digs_head hd
    rw [hd] at h2
    have h1 : (b == 45) = false := by
      rw [beq_eq_false_iff_ne]; rintro rfl; revert hb; decide
    have h3 : (b == 43) = false := by
      rw [beq_eq_false_iff_ne]; rintro rfl; revert hb; decide
    simp only [Lib.atoi, h1, h3, Bool.false_eq_true, if_false, h2]
    rfl
theorem prefix_seg (n : Nat) : Lib.hasPrefix (segL n) [119, 46] = true := by unfold Lib.hasPrefix segL; simp
theorem segI_of {n : Nat} (h1 : 1 ≤ n) (h : n ≤ 99999999) : segI (n : Int) = segName n := by
  unfold segI; rw [if_pos ⟨by omega, by omega⟩]; rfl
theorem numOf_seg {n : Nat} (h1 : 1 ≤ n) (h : n ≤ 99999999) : numOf (segName n) = some n := by
  unfold numOf
  have hp : Lib.hasPrefix (segName n).data.toList [119, 46] = true := prefix_seg n
  have ht : Lib.trimPrefix (segName n).data.toList [119, 46] = digs n := by unfold Lib.trimPrefix; rw [hp]; rfl
  rw [ht, atoi_digs h]
  simp only
  rw [if_pos ⟨hp, segI_of h1 h⟩]
  simp
theorem numOf_some {s : ByteArray} {n : Nat} (h : numOf s = some n) : 1 ≤ n ∧ n ≤ 99999999 ∧ s = segName n := by
  unfold numOf at h
  split at h
  · next v hv =>
    split at h
    · next hc =>
      cases h
      obtain ⟨hp, hs⟩ := hc
      unfold segI at hs
      split at hs
      · next hb => exact ⟨by omega, by omega, hs.symm⟩
      · subst hs; exact absurd hp (by decide)
    · cases h
  · cases h
end Go.Proofs.YthogefmngddnbaaGreatDoor
/- wal.Segment, Number, Head: the walks. -/
namespace Go.Proofs.YthogefmngddnbaaGreatDoor
open Go.RowKit

/-- what the code reads in the program's variables -/
structure Globs (w : World) : Prop where
  sum : SumTab w
  pow : Lib.TabIs Tryz.prog w "internal/strconv.uint64pow10" .u64 Lib.pow10Tab
  syn : ∃ te pe, w.cell? ⟨0, 0, none⟩ = some (.iface te pe)
  rng : ∃ te pe, w.cell? ⟨1, 0, none⟩ = some (.iface te pe)
  size : 9 ≤ w.heap.size
theorem pow_global : Tryz.prog.globalNamed "internal/strconv.uint64pow10" = some 6 := by kernel_rfl
theorem Globs.mod {w w' : World} {F : BSet} (h : Globs w) (m : Mod F w w') (hF : ∀ k, F k → 9 ≤ k) : Globs w' := by
  have hn : ∀ k, k < 9 → ¬ F k := fun k hk hf => absurd (hF k hf) (by omega)
  refine ⟨h.sum.mod m hF, ?_, ?_, ?_, Nat.le_trans h.size m.size⟩
  · have := h.pow
    unfold Lib.TabIs World.var? at this ⊢
    rw [pow_global] at this ⊢
    simp only [Option.bind_some] at this ⊢
    rw [m.block 6 (by have := h.size; omega) (hn 6 (by decide))]
    exact this
  · obtain ⟨te, pe, hc⟩ := h.syn
    exact ⟨te, pe, m.cell hc (hn 0 (by decide))⟩
  · obtain ⟨te, pe, hc⟩ := h.rng
    exact ⟨te, pe, m.cell hc (hn 1 (by decide))⟩
theorem Globs.mod0 {w w' : World} (h : Globs w) (m : Mod BSet.none w w') : Globs w' := h.mod m (fun _ h => h.elim)

theorem mod_shelfGrow (w : World) (k : Nat) (os : Array Obj) : Mod BSet.none w (Sort.grow (w.drewN k) os) :=
  ⟨rfl, rfl, by simp [Sort.grow], fun j hj _ => by
    show (w.heap ++ os)[j]? = w.heap[j]?
    rw [Array.getElem?_append_left hj]⟩
theorem repeat_zero (c : Nat) : Lib.repeatL [48] c = List.replicate c 48 := by
  induction c with
  | zero => rfl
  | succ c ih => rw [List.replicate_succ]; simp [Lib.repeatL, ih]

def SegP (v : Int) (w : World) (e : Ending) (w' : World) : Prop := e = .returned (.string (segI v)) ∧ Mod BSet.none w w'
set_option maxRecDepth 100000 in
set_option maxHeartbeats 400000 in
theorem segment_any (v : Int) (w : World) (h0 : -9223372036854775808 ≤ v) (h1 : v ≤ 9223372036854775807) (hg : Globs w) : Calls Tryz.prog 118 #[.int .i64 v] w (SegP v w) := by
  have HG := Lib.hid hg
  clear hg
  by_cases hlo : v < 1
  · have hs : segI v = ⟨#[]⟩ := by unfold segI; rw [if_neg (by omega)]
    have HS := Lib.hid hs
    clear hs
    go_enter Tryz.func118, Tryz.ntmps118
    go_wp2
    go_ret
    exact ⟨by rw [HS.out]; rfl, Mod.refl _ _⟩
  · by_cases hhi : 99999999 < v
    · have hs : segI v = ⟨#[]⟩ := by unfold segI; rw [if_neg (by omega)]
      have HS := Lib.hid hs
      clear hs
      go_enter Tryz.func118, Tryz.ntmps118
      go_wp2
      go_ret
      exact ⟨by rw [HS.out]; rfl, Mod.refl _ _⟩
    · obtain ⟨n, rfl⟩ : ∃ n : Nat, v = n := ⟨v.toNat, by omega⟩
      have hs := Lib.hid (segI_of (n := n) (by omega) (by omega))
      have hd8 := nDigits_le8 (n := n) (by omega)
      have hit : Lib.itoa (n : Int) = Lib.decDigits n := by unfold Lib.itoa; rw [if_neg (by omega)]; simp
      have hdl := Lib.decDigits_length n
      obtain ⟨t, ht⟩ : ∃ t : ByteArray, (⟨(Lib.itoa (n : Int)).toArray⟩ : ByteArray) = t := ⟨_, rfl⟩
      have htl : t.size = Lib.nDigits n := by rw [← ht, hit, size_mk, hdl]
      have HT := Lib.hid ht
      have HI := Lib.hid hit
      obtain ⟨q, hq⟩ : ∃ q : Nat, 8 - Lib.nDigits n = q := ⟨_, rfl⟩
      have hqz : (8 : Int) - (t.size : Int) = (q : Int) := by omega
      have HQ := Lib.hid hq
      have hq8 : q ≤ 8 := by omega
      have htl8 : t.size ≤ 8 := by omega
      obtain ⟨z, hz⟩ : ∃ z : ByteArray, (⟨(Lib.repeatL [48] q).toArray⟩ : ByteArray) = z := ⟨_, rfl⟩
      have hzl : z.size ≤ 8 := by rw [← hz, size_mk, repeat_zero, List.length_replicate]; exact hq8
      have HZ := Lib.hid hz
      clear hit hdl ht htl hq hd8 hz
      go_enter Tryz.func118, Tryz.ntmps118
      go_wp2_with fail
      refine (Tryz.strconv_Itoa n h0 h1 _ (by exact HG.out.pow)).mono ?_
      rintro e w1 ⟨rfl, k, os, rfl⟩
      rw [HT.out]
      have hm1 := Lib.hid (mod_shelfGrow w k os)
      go_wp2_with fail
      refine (Tryz.strings_Repeat ⟨#[48]⟩ q _ (by omega) (by rw [show (⟨#[48]⟩ : ByteArray).size = 1 from rfl]; omega)).mono ?_
      rintro e w2 ⟨rfl, hb2⟩
      have hm2 := Lib.hid (hm1.out.below (hb2.mono hm1.out.size))
      obtain ⟨y, hy⟩ : ∃ y : ByteArray, (⟨#[119, 46]⟩ : ByteArray) = y := ⟨_, rfl⟩
      have HY := Lib.hid hy
      have hyl : y.size = 2 := by rw [← hy]; rfl
      rw [show (⟨(Lib.repeatL (⟨#[48]⟩ : ByteArray).data.toList q).toArray⟩ : ByteArray) = z from HZ.out]
      clear hy hb2
      go_wp2
      go_ret
      refine ⟨?_, hm2.out⟩
      rw [hs.out, ← HT.out, HI.out, ← HZ.out, repeat_zero, ← HQ.out]
      rfl

theorem mod_bytesWorld {w w' : World} (h : w' = w ∨ ∃ t, w' = Lib.bytesWorld w 5 t) : Mod BSet.none w w' := by
  rcases h with rfl | ⟨t, rfl⟩
  · exact Mod.refl _ _
  · exact Mod.of_below (Lib.bytesWorld_below w 5 t)
def NumP (s : ByteArray) (w : World) (e : Ending) (w' : World) : Prop :=
  e = .returned (.tuple #[.int .i64 (((numOf s).getD 0 : Nat) : Int), .bool (numOf s).isSome]) ∧ Mod BSet.none w w'
set_option maxRecDepth 100000 in
set_option maxHeartbeats 1000000 in
theorem number_any (s : ByteArray) (w : World) (hs : s.size ≤ 1099511627776) (hg : Globs w) : Calls Tryz.prog 76 #[.string s] w (NumP s w) := by
  have HG := Lib.hid hg
  clear hg
  obtain ⟨t, ht⟩ : ∃ t : ByteArray, (⟨(Lib.trimPrefix s.data.toList [119, 46]).toArray⟩ : ByteArray) = t := ⟨_, rfl⟩
  have htd : Lib.trimPrefix s.data.toList [119, 46] = t.data.toList := by rw [← ht]
  have htl : t.size ≤ s.size := by
    rw [← ht, size_mk]
    unfold Lib.trimPrefix
    split
    · rw [List.length_drop]; simp
    · simp
  have HT := Lib.hid ht
  have hnum : numOf s = match Lib.atoiAll t.data.toList with
    | .ok v => if Lib.hasPrefix s.data.toList [119, 46] = true ∧ segI v = s then some v.toNat else none
    | _ => none := by unfold numOf; rw [htd] <;> rfl
  obtain ⟨p, hp⟩ : ∃ p, Lib.hasPrefix s.data.toList [119, 46] = p := ⟨_, rfl⟩
  have HP := Lib.hid hp
  rw [hp] at hnum
  clear ht htd hp
  rcases ha : Lib.atoiAll t.data.toList with v | _ | _
  ·
    rw [ha] at hnum
    simp only at hnum
    have hvb := Lib.atoiAll_bounds ha
    have HA := Lib.hid ha
    have HN := Lib.hid hnum
    clear ha hnum
    cases p with
    | false =>
      have hn : numOf s = none := by rw [HN.out, if_neg (fun h => by cases h.1)]
      have HN2 := Lib.hid hn
      clear hn
      go_enter Tryz.func76, Tryz.ntmps76
      go_wp2_with fail
      refine (Tryz.strings_CutPrefix s ⟨#[119, 46]⟩ _).mono ?_
      rintro e w1 ⟨rfl, rfl⟩
      rw [show (⟨(Lib.trimPrefix s.data.toList (⟨#[119, 46]⟩ : ByteArray).data.toList).toArray⟩ : ByteArray) = t from HT.out, show Lib.hasPrefix s.data.toList (⟨#[119, 46]⟩ : ByteArray).data.toList = false from HP.out]
      go_wp2_with fail
      refine (Tryz.strconv_Atoi_ok t (by omega) v HA.out _).mono ?_
      rintro e w2 ⟨rfl, hw⟩
      have hm := Lib.hid (mod_bytesWorld hw)
      clear hw
      go_wp2
      go_ret2
      exact ⟨by rw [HN2.out]; rfl, hm.out⟩
    | true =>
      go_enter Tryz.func76, Tryz.ntmps76
      go_wp2_with fail
      refine (Tryz.strings_CutPrefix s ⟨#[119, 46]⟩ _).mono ?_
      rintro e w1 ⟨rfl, rfl⟩
      rw [show (⟨(Lib.trimPrefix s.data.toList (⟨#[119, 46]⟩ : ByteArray).data.toList).toArray⟩ : ByteArray) = t from HT.out, show Lib.hasPrefix s.data.toList (⟨#[119, 46]⟩ : ByteArray).data.toList = true from HP.out]
      go_wp2_with fail
      refine (Tryz.strconv_Atoi_ok t (by omega) v HA.out _).mono ?_
      rintro e w2 ⟨rfl, hw⟩
      have hm := Lib.hid (mod_bytesWorld hw)
      clear hw
      go_wp2_with fail
      refine (segment_any v _ hvb.1 hvb.2 (HG.out.mod0 hm.out)).mono ?_
      rintro e w3 ⟨rfl, hm3⟩
      have Hm3 := Lib.hid hm3
      clear hm3
      obtain ⟨y, hy⟩ : ∃ y : ByteArray, segI v = y := ⟨_, rfl⟩
      have HY := Lib.hid hy
      rw [hy]
      clear hy
      by_cases hc : y = s
      · have hn : numOf s = some v.toNat := by rw [HN.out, if_pos ⟨trivial, HY.out.trans hc⟩]
        have hv := numOf_some hn
        have hvi : v = ((v.toNat : Nat) : Int) := by
          have : segI v = segName v.toNat := by rw [HY.out, hc]; exact hv.2.2
          by_cases h1 : 1 ≤ v
          · omega
          · omega
        have HN2 := Lib.hid hn
        have HV := Lib.hid hvi
        subst hc
        have hne : (y.toList == y.toList) = true := by simp
        clear hn hv hvi
        go_wp2
        go_ret2
        refine ⟨?_, hm.out.trans Hm3.out (fun _ _ h => h)⟩
        rw [HN2.out]
        exact congrArg (fun z => Ending.returned (.tuple #[.int .i64 z, .bool true])) HV.out
      · have hn : numOf s = none := by rw [HN.out, if_neg (fun h => hc (HY.out.symm.trans h.2))]
        have HN2 := Lib.hid hn
        have hne : (y.toList == s.toList) = false := by rw [toList_beq]; exact decide_eq_false hc
        clear hn
        go_wp2
        go_ret2
        refine ⟨?_, hm.out.trans Hm3.out (fun _ _ h => h)⟩
        rw [HN2.out]; rfl
  ·
    rw [ha] at hnum
    obtain ⟨te, pe, hev⟩ := HG.out.syn
    have HA := Lib.hid ha
    have HN := Lib.hid hnum
    have HE := Lib.hid hev
    clear ha hnum hev
    go_enter Tryz.func76, Tryz.ntmps76
    go_wp2_with fail
    refine (Tryz.strings_CutPrefix s ⟨#[119, 46]⟩ _).mono ?_
    rintro e w1 ⟨rfl, rfl⟩
    rw [show (⟨(Lib.trimPrefix s.data.toList (⟨#[119, 46]⟩ : ByteArray).data.toList).toArray⟩ : ByteArray) = t from HT.out, show Lib.hasPrefix s.data.toList (⟨#[119, 46]⟩ : ByteArray).data.toList = p from HP.out]
    go_wp2_with fail
    refine (Tryz.strconv_Atoi_syntax t (by omega) HA.out _ _ HE.out (.inr ⟨te, pe, rfl⟩)).mono ?_
    rintro e w2 ⟨N, rfl, hN, _, hb⟩
    have hm := Lib.hid (Mod.of_below (F := BSet.none) hb)
    clear hb
    cases p
    all_goals
      go_wp2
      go_ret2
      exact ⟨by rw [HN.out]; rfl, hm.out⟩
  ·
    rw [ha] at hnum
    obtain ⟨te, pe, hev⟩ := HG.out.rng
    have HA := Lib.hid ha
    have HN := Lib.hid hnum
    have HE := Lib.hid hev
    have hsb := Lib.atoiSat_bounds t.data.toList
    clear ha hnum hev
    go_enter Tryz.func76, Tryz.ntmps76
    go_wp2_with fail
    refine (Tryz.strings_CutPrefix s ⟨#[119, 46]⟩ _).mono ?_
    rintro e w1 ⟨rfl, rfl⟩
    rw [show (⟨(Lib.trimPrefix s.data.toList (⟨#[119, 46]⟩ : ByteArray).data.toList).toArray⟩ : ByteArray) = t from HT.out, show Lib.hasPrefix s.data.toList (⟨#[119, 46]⟩ : ByteArray).data.toList = p from HP.out]
    go_wp2_with fail
    refine (Tryz.strconv_Atoi_range t (by omega) HA.out _ _ HE.out (.inr ⟨te, pe, rfl⟩)).mono ?_
    rintro e w2 ⟨N, rfl, hN, _, hb⟩
    have hm := Lib.hid (Mod.of_below (F := BSet.none) hb)
    clear hb
    cases p
    all_goals
      go_wp2
      go_ret2
      exact ⟨by rw [HN.out]; rfl, hm.out⟩
end Go.Proofs.YthogefmngddnbaaGreatDoor
/- wal.Head: the walk. -/
namespace Go.Proofs.YthogefmngddnbaaGreatDoor
open Go.RowKit

def bodyOf (first : Nat) (kept : Bool) (state : ByteArray) : ByteArray :=
  (⟨(putN first).toArray⟩ : ByteArray) ++ (if kept then ⟨#[1]⟩ else ⟨#[0]⟩ : ByteArray) ++ textOf state
def headOf (first : Nat) (kept : Bool) (state : ByteArray) : ByteArray :=
  if first < 1 ∨ 1099511627776 < first ∨ (kept = false ∧ state ≠ ⟨#[]⟩) then ⟨#[]⟩ else frameOf (bodyOf first kept state)
def HeadP (first : Nat) (kept : Bool) (state : ByteArray) (w : World) (e : Ending) (w' : World) : Prop :=
  e = .returned (.string (headOf first kept state)) ∧ Mod BSet.none w w'
theorem isEmpty_str (s : ByteArray) : s.toList.isEmpty = decide (s = ⟨#[]⟩) := by
  have h := toList_beq s ⟨#[]⟩
  have h2 : (⟨#[]⟩ : ByteArray).toList = [] := by rw [ByteArray.toList_eq]
  rw [← h, h2]
  cases s.toList <;> rfl
theorem textOf_size (s : ByteArray) : (textOf s).size ≤ s.size + 10 := by
  unfold textOf; rw [ByteArray.size_append, size_mk]; have := putN_length s.size; omega
set_option maxRecDepth 100000 in
set_option maxHeartbeats 1000000 in
theorem head_any (first : Nat) (kept : Bool) (state : ByteArray) (w : World) (hf : first < 9223372036854775808) (hs : state.size ≤ 60000) (hg : Globs w) : Calls Tryz.prog 122 #[.int .i64 first, .bool kept, .string state] w (HeadP first kept state w) := by
  have HG := Lib.hid hg
  have hsz := hg.size
  clear hg
  by_cases h1 : first < 1
  · have HH := Lib.hid (show headOf first kept state = ⟨#[]⟩ by unfold headOf; rw [if_pos (.inl h1)])
    go_enter Tryz.func122, Tryz.ntmps122
    go_wp2
    go_ret
    exact ⟨by rw [HH.out]; rfl, Mod.refl _ _⟩
  · by_cases h2 : 1099511627776 < first
    · have HH := Lib.hid (show headOf first kept state = ⟨#[]⟩ by unfold headOf; rw [if_pos (.inr (.inl h2))])
      go_enter Tryz.func122, Tryz.ntmps122
      go_wp2
      go_ret
      exact ⟨by rw [HH.out]; rfl, Mod.refl _ _⟩
    · by_cases h3 : kept = false ∧ state ≠ ⟨#[]⟩
      · have HH := Lib.hid (show headOf first kept state = ⟨#[]⟩ by unfold headOf; rw [if_pos (.inr (.inr h3))])
        have hne : state.toList.isEmpty = false := by rw [isEmpty_str]; exact decide_eq_false h3.2
        obtain ⟨rfl, _⟩ := h3
        go_enter Tryz.func122, Tryz.ntmps122
        go_wp2
        go_ret
        exact ⟨by rw [HH.out]; rfl, Mod.refl _ _⟩
      · have HH := Lib.hid (show headOf first kept state = frameOf (bodyOf first kept state) by unfold headOf; rw [if_neg (fun h => h.elim h1 (fun h => h.elim h2 h3))])
        have hcase : kept = true ∨ (kept = false ∧ state.toList.isEmpty = true) := by
          cases kept with
          | true => exact .inl rfl
          | false => right; refine ⟨rfl, ?_⟩; rw [isEmpty_str]; exact decide_eq_true (by by_cases h : state = ⟨#[]⟩; exact h; exact absurd ⟨rfl, h⟩ h3)
        obtain ⟨t, ht⟩ : ∃ t : ByteArray, (⟨(putN first).toArray⟩ : ByteArray) = t := ⟨_, rfl⟩
        have htl : t.size ≤ 10 := by rw [← ht, size_mk]; exact putN_length _
        obtain ⟨x, hx⟩ : ∃ x : ByteArray, textOf state = x := ⟨_, rfl⟩
        have hxl : x.size ≤ 60010 := by have := textOf_size state; rw [hx] at this; omega
        have HT := Lib.hid ht
        have HX := Lib.hid hx
        have finish : ∀ (k : ByteArray), k.size = 1 → (if kept then ⟨#[1]⟩ else ⟨#[0]⟩ : ByteArray) = k → headOf first kept state = frameOf (t ++ k ++ x) ∧ (t ++ k ++ x).size ≤ 70000 := by
          intro k hk hkk
          refine ⟨?_, by rw [ByteArray.size_append, ByteArray.size_append]; omega⟩
          rw [HH.out]; unfold bodyOf; rw [hkk, HT.out, HX.out]
        have HF := Lib.hid finish
        clear ht hx h3 finish HH
        rcases hcase with rfl | ⟨rfl, hne⟩
        all_goals
          go_enter Tryz.func122, Tryz.ntmps122
          go_wp2_with fail
          refine (vput_any first _ (by omega)).mono ?_
          rintro e w1 ⟨rfl, hm1⟩
          rw [HT.out]
          have Hm1 := Lib.hid hm1
          clear hm1
          go_wp2_with fail
          refine (vtext_any state _ (by omega)).mono ?_
          rintro e w2 ⟨rfl, hm2⟩
          rw [HX.out]
          have Hm2 := Lib.hid (Hm1.out.trans hm2 (fun _ _ h => h))
          clear hm2
        · obtain ⟨k, hk⟩ : ∃ k : ByteArray, (⟨#[1]⟩ : ByteArray) = k := ⟨_, rfl⟩
          have hkl : k.size = 1 := by rw [← hk]; rfl
          obtain ⟨hfe, hfs⟩ := HF.out k hkl (by first | exact hk | simpa using hk)
          have HFE := Lib.hid hfe
          have HK := Lib.hid hk
          clear hfe hk
          try rw [HK.out]
          go_wp2_with fail
          refine (fput_any _ _ (by omega) (HG.out.sum.mod Hm2.out (fun _ h => h.elim)) (by have := Hm2.out.size; omega)).mono ?_
          rintro e w3 ⟨rfl, hm3⟩
          rw [if_pos hfs]
          have Hm3 := Lib.hid (Hm2.out.trans hm3 (fun _ _ h => h))
          clear hm3
          go_wp2
          go_ret
          exact ⟨by rw [HFE.out]; rfl, Hm3.out⟩
        · obtain ⟨k, hk⟩ : ∃ k : ByteArray, (⟨#[0]⟩ : ByteArray) = k := ⟨_, rfl⟩
          have hkl : k.size = 1 := by rw [← hk]; rfl
          obtain ⟨hfe, hfs⟩ := HF.out k hkl (by first | exact hk | simpa using hk)
          have HFE := Lib.hid hfe
          have HK := Lib.hid hk
          clear hfe hk
          try rw [HK.out]
          go_wp2_with fail
          refine (fput_any _ _ (by omega) (HG.out.sum.mod Hm2.out (fun _ h => h.elim)) (by have := Hm2.out.size; omega)).mono ?_
          rintro e w3 ⟨rfl, hm3⟩
          rw [if_pos hfs]
          have Hm3 := Lib.hid (Hm2.out.trans hm3 (fun _ _ h => h))
          clear hm3
          go_wp2
          go_ret
          exact ⟨by rw [HFE.out]; rfl, Hm3.out⟩
end Go.Proofs.YthogefmngddnbaaGreatDoor
