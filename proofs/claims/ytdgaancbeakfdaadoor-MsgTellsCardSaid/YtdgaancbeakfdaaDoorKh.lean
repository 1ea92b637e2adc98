/- Words: those of the print's words (print.sh) that this seat's proofs use. -/
import Derived.Shelf.Strings.Builder1
import Derived.Shelf.Strings.Trim
import Derived.Shelf.Small.Utf8
import Derived.Shelf.Small.Strs
import Derived.Shelf.Strings.BuilderF
import Derived.Shelf.Strings.BuilderK
import Derived.Shelf.Strings.Search1
import Derived.Shelf.Unicode.Decode
import Derived.Shelf.Strings.Runes
import Derived.Shelf.Strings.AsciiSet
import Derived.Shelf.Unicode.DecodeSlow
import Derived.Shelf.Unicode.DecodeAny
import Derived.Shelf.Unicode.DecodeLast
import Derived.Shelf.Strings.BuilderCap
import Derived.Test.YtdgaancbeakfdaaDoorProg
namespace Go.Proofs.YtdgaancbeakfdaaDoor.Sh
open Go.Shelf
def Tryd.lays169_ren : Go.Shelf.Ren := ⟨fun | 169 => 24 | n => n, fun | 70 => 46 | 9 => 9 | 0 => 0 | 72 => 48 | 37 => 38 | 127 => 72 | 3 => 3 | 5 => 5 | n => n, fun | n => n⟩
theorem Tryd.lays169 : Go.Proofs.Lays.n169 Tryd.prog Tryd.lays169_ren := {
  mixed := by kernel_rfl
  f169 := Tryd.func24.trans (congrArg some (by kernel_rfl))
  t0 := Tryd.underlying0
  a0 := Tryd.isAgg0
  z0 := Tryd.sizeOf0
  v0 := Tryd.zeroValue0
  t3 := Tryd.underlying3
  a3 := Tryd.isAgg3
  z3 := Tryd.sizeOf3
  v3 := Tryd.zeroValue3
  t9 := Tryd.underlying9
  a9 := Tryd.isAgg9
  z9 := Tryd.sizeOf9
  v9 := Tryd.zeroValue9
  t37 := Tryd.underlying38
  a37 := Tryd.isAgg38
  z37 := Tryd.sizeOf38
  v37 := Tryd.zeroValue38
  t70 := Tryd.underlying46
  a70 := Tryd.isAgg46
  z70 := Tryd.sizeOf46
  v70 := Tryd.zeroValue46
  t72 := Tryd.underlying48
  a72 := Tryd.isAgg48
  z72 := Tryd.sizeOf48
  v72 := Tryd.zeroValue48
  t127 := Tryd.underlying72
  a127 := Tryd.isAgg72
  z127 := Tryd.sizeOf72
  v127 := Tryd.zeroValue72 }
theorem Tryd.Builder_Extra_169 : Builder.Extra Tryd.prog Tryd.lays169_ren := {
  sizeBuilder := by kernel_rfl
  liesBuilder := by kernel_rfl
  t5 := Tryd.underlying5
  a5 := Tryd.isAgg5
  z5 := Tryd.sizeOf5
  v5 := Tryd.zeroValue5
  infoByte := by kernel_rfl
  cellsByte := by kernel_rfl
  sizeByte := by kernel_rfl
  neB5 := by decide }
open Go.RowKit in

theorem Tryd.Builder_String_any (B b : Nat) (l : List UInt8) (w : World) (h : Lib.IsBuilder 48 5 B b (Lib.byteCells l) w) (hBw : B ≤ w.heap.size) :
    Calls Tryd.prog 24 #[.pointer (some ⟨b, 0, none⟩)] w fun e w' => e = .returned (.string ⟨l.toArray⟩) ∧ Below B w w' := Any.Builder_String_any Tryd.lays169 Tryd.Builder_Extra_169 B b l w h hBw
def Tryd.lays231_ren : Go.Shelf.Ren := ⟨fun | 231 => 56 | n => n, fun | 9 => 9 | 5 => 5 | 3 => 3 | 4 => 4 | n => n, fun | n => n⟩
def Tryd.lays232_ren : Go.Shelf.Ren := ⟨fun | 232 => 57 | n => n, fun | 9 => 9 | 5 => 5 | 3 => 3 | 4 => 4 | n => n, fun | n => n⟩
def Tryd.lays160_ren : Go.Shelf.Ren := ⟨fun | 160 => 41 | 232 => 57 | 231 => 56 | 227 => 58 | 234 => 60 | 233 => 59 | 236 => 62 | 235 => 61 | 228 => 68 | 271 => 71 | 151 => 70 | 197 => 69 | 120 => 78 | 152 => 77 | 260 => 76 | 137 => 82 | 119 => 83 | 224 => 84 | 225 => 85 | 217 => 87 | 266 => 88 | n => n, fun | 9 => 9 | 4 => 4 | 3 => 3 | 5 => 5 | 117 => 86 | 116 => 85 | 0 => 0 | 124 => 89 | 21 => 21 | 105 => 99 | 46 => 94 | 119 => 111 | 139 => 114 | 138 => 113 | n => n, fun | 3 => 0 | 4 => 1 | n => n⟩
theorem Tryd.lays160 : Go.Proofs.Lays.n160 Tryd.prog Tryd.lays160_ren := {
  mixed := by kernel_rfl
  f119 := Tryd.func83.trans (congrArg some (by kernel_rfl))
  f120 := Tryd.func78.trans (congrArg some (by kernel_rfl))
  f137 := Tryd.func82.trans (congrArg some (by kernel_rfl))
  f151 := Tryd.func70.trans (congrArg some (by kernel_rfl))
  f152 := Tryd.func77.trans (congrArg some (by kernel_rfl))
  f160 := Tryd.func41.trans (congrArg some (by kernel_rfl))
  f197 := Tryd.func69.trans (congrArg some (by kernel_rfl))
  f217 := Tryd.func87.trans (congrArg some (by kernel_rfl))
  f224 := Tryd.func84.trans (congrArg some (by kernel_rfl))
  f225 := Tryd.func85.trans (congrArg some (by kernel_rfl))
  f227 := Tryd.func58.trans (congrArg some (by kernel_rfl))
  f228 := Tryd.func68.trans (congrArg some (by kernel_rfl))
  f231 := Tryd.func56.trans (congrArg some (by kernel_rfl))
  f232 := Tryd.func57.trans (congrArg some (by kernel_rfl))
  f233 := Tryd.func59.trans (congrArg some (by kernel_rfl))
  f234 := Tryd.func60.trans (congrArg some (by kernel_rfl))
  f235 := Tryd.func61.trans (congrArg some (by kernel_rfl))
  f236 := Tryd.func62.trans (congrArg some (by kernel_rfl))
  f260 := Tryd.func76.trans (congrArg some (by kernel_rfl))
  f266 := Tryd.func88.trans (congrArg some (by kernel_rfl))
  f271 := Tryd.func71.trans (congrArg some (by kernel_rfl))
  t0 := Tryd.underlying0
  a0 := Tryd.isAgg0
  z0 := Tryd.sizeOf0
  v0 := Tryd.zeroValue0
  t3 := Tryd.underlying3
  a3 := Tryd.isAgg3
  z3 := Tryd.sizeOf3
  v3 := Tryd.zeroValue3
  t4 := Tryd.underlying4
  a4 := Tryd.isAgg4
  z4 := Tryd.sizeOf4
  v4 := Tryd.zeroValue4
  t5 := Tryd.underlying5
  a5 := Tryd.isAgg5
  z5 := Tryd.sizeOf5
  v5 := Tryd.zeroValue5
  t9 := Tryd.underlying9
  a9 := Tryd.isAgg9
  z9 := Tryd.sizeOf9
  v9 := Tryd.zeroValue9
  t21 := Tryd.underlying21
  a21 := Tryd.isAgg21
  z21 := Tryd.sizeOf21
  v21 := Tryd.zeroValue21
  t46 := Tryd.underlying94
  a46 := Tryd.isAgg94
  z46 := Tryd.sizeOf94
  v46 := Tryd.zeroValue94
  t105 := Tryd.underlying99
  a105 := Tryd.isAgg99
  z105 := Tryd.sizeOf99
  v105 := Tryd.zeroValue99
  t116 := Tryd.underlying85
  a116 := Tryd.isAgg85
  z116 := Tryd.sizeOf85
  t117 := Tryd.underlying86
  a117 := Tryd.isAgg86
  z117 := Tryd.sizeOf86
  v117 := Tryd.zeroValue86
  t119 := Tryd.underlying111
  a119 := Tryd.isAgg111
  z119 := Tryd.sizeOf111
  t124 := Tryd.underlying89
  a124 := Tryd.isAgg89
  z124 := Tryd.sizeOf89
  v124 := Tryd.zeroValue89
  t138 := Tryd.underlying113
  a138 := Tryd.isAgg113
  z138 := Tryd.sizeOf113
  v138 := Tryd.zeroValue113
  t139 := Tryd.underlying114
  a139 := Tryd.isAgg114
  z139 := Tryd.sizeOf114
  v139 := Tryd.zeroValue114
  g3 := by kernel_rfl
  g4 := by kernel_rfl }
def Tryd.lays119_ren : Go.Shelf.Ren := ⟨fun | 119 => 83 | n => n, fun | 21 => 21 | 4 => 4 | n => n, fun | n => n⟩

def Tryd.lays120_ren : Go.Shelf.Ren := ⟨fun | 120 => 78 | n => n, fun | 5 => 5 | 4 => 4 | n => n, fun | n => n⟩

def Tryd.lays137_ren : Go.Shelf.Ren := ⟨fun | 137 => 82 | 217 => 87 | 266 => 88 | n => n, fun | 9 => 9 | 5 => 5 | 3 => 3 | n => n, fun | n => n⟩
def Tryd.lays217_ren : Go.Shelf.Ren := ⟨fun | 217 => 87 | 266 => 88 | n => n, fun | 9 => 9 | 5 => 5 | 3 => 3 | n => n, fun | n => n⟩
def Tryd.lays224_ren : Go.Shelf.Ren := ⟨fun | 224 => 84 | n => n, fun | 3 => 3 | n => n, fun | n => n⟩
def Tryd.lays197_ren : Go.Shelf.Ren := ⟨fun | 197 => 69 | 260 => 76 | n => n, fun | 9 => 9 | 21 => 21 | 3 => 3 | 4 => 4 | 5 => 5 | 105 => 99 | 119 => 111 | 0 => 0 | 46 => 94 | 139 => 114 | 138 => 113 | n => n, fun | 3 => 0 | 4 => 1 | n => n⟩
def Tryd.lays152_ren : Go.Shelf.Ren := ⟨fun | 152 => 77 | 137 => 82 | 119 => 83 | 224 => 84 | 225 => 85 | 217 => 87 | 266 => 88 | n => n, fun | 9 => 9 | 21 => 21 | 3 => 3 | 4 => 4 | 5 => 5 | 0 => 0 | 46 => 94 | n => n, fun | n => n⟩
def Tryd.lays151_ren : Go.Shelf.Ren := ⟨fun | 151 => 70 | 152 => 77 | 137 => 82 | 119 => 83 | 224 => 84 | 225 => 85 | 217 => 87 | 266 => 88 | n => n, fun | 9 => 9 | 21 => 21 | 4 => 4 | 3 => 3 | 5 => 5 | 0 => 0 | 46 => 94 | n => n, fun | n => n⟩
def Tryd.lays227_ren : Go.Shelf.Ren := ⟨fun | 227 => 58 | n => n, fun | 9 => 9 | 116 => 85 | 4 => 4 | 0 => 0 | 3 => 3 | 5 => 5 | n => n, fun | n => n⟩
def Tryd.lays228_ren : Go.Shelf.Ren := ⟨fun | 228 => 68 | n => n, fun | 124 => 89 | 5 => 5 | 4 => 4 | 0 => 0 | 116 => 85 | n => n, fun | n => n⟩
def Tryd.lays260_ren : Go.Shelf.Ren := ⟨fun | 260 => 76 | n => n, fun | 9 => 9 | 21 => 21 | 3 => 3 | 4 => 4 | 5 => 5 | 119 => 111 | 0 => 0 | 46 => 94 | 139 => 114 | 138 => 113 | n => n, fun | 3 => 0 | 4 => 1 | n => n⟩
def Tryd.lays271_ren : Go.Shelf.Ren := ⟨fun | 271 => 71 | 120 => 78 | 197 => 69 | 260 => 76 | n => n, fun | 9 => 9 | 21 => 21 | 3 => 3 | 4 => 4 | 5 => 5 | 105 => 99 | 119 => 111 | 0 => 0 | 46 => 94 | 139 => 114 | 138 => 113 | n => n, fun | 3 => 0 | 4 => 1 | n => n⟩
end Go.Proofs.YtdgaancbeakfdaaDoor.Sh
