/- Words: those of the print's words (print.sh) that this seat's proofs use. -/
/- thin -/
import Derived.Shelf.Strings.Builder1
import Derived.Shelf.Strings.Trim
import Derived.Shelf.Small.Utf8
import Derived.Shelf.Small.Strs
import Derived.Shelf.Small.Wraps
import Derived.Shelf.Strings.BuilderF
import Derived.Shelf.Strings.BuilderK
import Derived.Shelf.Utf8.RuneCount
import Derived.Shelf.Strings.Search1
import Derived.Shelf.Strings.Search2
import Derived.Shelf.Strings.Search3
import Derived.Shelf.Strings.Cut
import Derived.Shelf.Strings.Count
import Derived.Shelf.LaysM
import Derived.Shelf.Strings.Shaped
import Derived.Shelf.Strings.Prefix
import Derived.Shelf.Strings.Split
import Derived.Shelf.Strings.SplitShaped
import Derived.Shelf.Unicode.Decode
import Derived.Shelf.Strings.Runes
import Derived.Shelf.Strings.RuneCount
import Derived.Shelf.Strings.AsciiSet
import Derived.Shelf.Strings.Explode
import Derived.Shelf.Unicode.DecodeSlow
import Derived.Shelf.Unicode.DecodeAny
import Derived.Shelf.Unicode.DecodeLast
import Derived.Shelf.Strings.BuilderCap
import Derived.Test.YtldlkbjbfgieeaaGreatDoorProg
namespace Go.Proofs.YtldlkbjbfgieeaaGreatDoor.Sh
open Go.Shelf
def Tryz.lays169_ren : Go.Shelf.Ren := ⟨fun | 169 => 65 | n => n, fun | 70 => 91 | 9 => 9 | 0 => 0 | 72 => 94 | 37 => 92 | 127 => 125 | 3 => 3 | 5 => 5 | n => n, fun | n => n⟩
theorem Tryz.lays169 : Go.Proofs.Lays.n169 Tryz.prog Tryz.lays169_ren := {
 mixed := by kernel_rfl
 f169 := Tryz.func65.trans (congrArg some (by kernel_rfl))
 t0 := Tryz.underlying0
 a0 := Tryz.isAgg0
 z0 := Tryz.sizeOf0
 v0 := Tryz.zeroValue0
 t3 := Tryz.underlying3
 a3 := Tryz.isAgg3
 z3 := Tryz.sizeOf3
 v3 := Tryz.zeroValue3
 t9 := Tryz.underlying9
 a9 := Tryz.isAgg9
 z9 := Tryz.sizeOf9
 v9 := Tryz.zeroValue9
 t37 := Tryz.underlying92
 a37 := Tryz.isAgg92
 z37 := Tryz.sizeOf92
 v37 := Tryz.zeroValue92
 t70 := Tryz.underlying91
 a70 := Tryz.isAgg91
 z70 := Tryz.sizeOf91
 v70 := Tryz.zeroValue91
 t72 := Tryz.underlying94
 a72 := Tryz.isAgg94
 z72 := Tryz.sizeOf94
 v72 := Tryz.zeroValue94
 t127 := Tryz.underlying125
 a127 := Tryz.isAgg125
 z127 := Tryz.sizeOf125
 v127 := Tryz.zeroValue125 }
theorem Tryz.Builder_Extra_169 : Builder.Extra Tryz.prog Tryz.lays169_ren := {
 sizeBuilder := by kernel_rfl
 liesBuilder := by kernel_rfl
 t5 := Tryz.underlying5
 a5 := Tryz.isAgg5
 z5 := Tryz.sizeOf5
 v5 := Tryz.zeroValue5
 infoByte := by kernel_rfl
 cellsByte := by kernel_rfl
 sizeByte := by kernel_rfl
 neB5 := by decide }
open Go.RowKit in

theorem Tryz.Builder_String_any (B b : Nat) (l : List UInt8) (w : World) (h : Lib.IsBuilder 94 5 B b (Lib.byteCells l) w) (hBw : B ≤ w.heap.size) :
 Calls Tryz.prog 65 #[.pointer (some ⟨b, 0, none⟩)] w fun e w' => e = .returned (.string ⟨l.toArray⟩) ∧ Below B w w' := Any.Builder_String_any Tryz.lays169 Tryz.Builder_Extra_169 B b l w h hBw
def Tryz.lays231_ren : Go.Shelf.Ren := ⟨fun | 231 => 108 | n => n, fun | 9 => 9 | 5 => 5 | 3 => 3 | 4 => 4 | n => n, fun | n => n⟩
def Tryz.lays232_ren : Go.Shelf.Ren := ⟨fun | 232 => 109 | n => n, fun | 9 => 9 | 5 => 5 | 3 => 3 | 4 => 4 | n => n, fun | n => n⟩
def Tryz.lays160_ren : Go.Shelf.Ren := ⟨fun | 160 => 91 | 232 => 109 | 231 => 108 | 227 => 110 | 234 => 112 | 233 => 111 | 236 => 114 | 235 => 113 | 228 => 128 | 271 => 131 | 151 => 130 | 197 => 129 | 120 => 142 | 152 => 141 | 260 => 140 | 137 => 149 | 119 => 150 | 224 => 151 | 225 => 152 | 217 => 157 | 266 => 161 | n => n, fun | 9 => 9 | 4 => 4 | 3 => 3 | 5 => 5 | 117 => 141 | 116 => 140 | 0 => 0 | 124 => 144 | 21 => 21 | 105 => 160 | 46 => 119 | 119 => 172 | 139 => 175 | 138 => 174 | n => n, fun | 3 => 1 | 4 => 2 | n => n⟩
theorem Tryz.lays160 : Go.Proofs.Lays.n160 Tryz.prog Tryz.lays160_ren := {
 mixed := by kernel_rfl
 f119 := Tryz.func150.trans (congrArg some (by kernel_rfl))
 f120 := Tryz.func142.trans (congrArg some (by kernel_rfl))
 f137 := Tryz.func149.trans (congrArg some (by kernel_rfl))
 f151 := Tryz.func130.trans (congrArg some (by kernel_rfl))
 f152 := Tryz.func141.trans (congrArg some (by kernel_rfl))
 f160 := Tryz.func91.trans (congrArg some (by kernel_rfl))
 f197 := Tryz.func129.trans (congrArg some (by kernel_rfl))
 f217 := Tryz.func157.trans (congrArg some (by kernel_rfl))
 f224 := Tryz.func151.trans (congrArg some (by kernel_rfl))
 f225 := Tryz.func152.trans (congrArg some (by kernel_rfl))
 f227 := Tryz.func110.trans (congrArg some (by kernel_rfl))
 f228 := Tryz.func128.trans (congrArg some (by kernel_rfl))
 f231 := Tryz.func108.trans (congrArg some (by kernel_rfl))
 f232 := Tryz.func109.trans (congrArg some (by kernel_rfl))
 f233 := Tryz.func111.trans (congrArg some (by kernel_rfl))
 f234 := Tryz.func112.trans (congrArg some (by kernel_rfl))
 f235 := Tryz.func113.trans (congrArg some (by kernel_rfl))
 f236 := Tryz.func114.trans (congrArg some (by kernel_rfl))
 f260 := Tryz.func140.trans (congrArg some (by kernel_rfl))
 f266 := Tryz.func161.trans (congrArg some (by kernel_rfl))
 f271 := Tryz.func131.trans (congrArg some (by kernel_rfl))
 t0 := Tryz.underlying0
 a0 := Tryz.isAgg0
 z0 := Tryz.sizeOf0
 v0 := Tryz.zeroValue0
 t3 := Tryz.underlying3
 a3 := Tryz.isAgg3
 z3 := Tryz.sizeOf3
 v3 := Tryz.zeroValue3
 t4 := Tryz.underlying4
 a4 := Tryz.isAgg4
 z4 := Tryz.sizeOf4
 v4 := Tryz.zeroValue4
 t5 := Tryz.underlying5
 a5 := Tryz.isAgg5
 z5 := Tryz.sizeOf5
 v5 := Tryz.zeroValue5
 t9 := Tryz.underlying9
 a9 := Tryz.isAgg9
 z9 := Tryz.sizeOf9
 v9 := Tryz.zeroValue9
 t21 := Tryz.underlying21
 a21 := Tryz.isAgg21
 z21 := Tryz.sizeOf21
 v21 := Tryz.zeroValue21
 t46 := Tryz.underlying119
 a46 := Tryz.isAgg119
 z46 := Tryz.sizeOf119
 v46 := Tryz.zeroValue119
 t105 := Tryz.underlying160
 a105 := Tryz.isAgg160
 z105 := Tryz.sizeOf160
 v105 := Tryz.zeroValue160
 t116 := Tryz.underlying140
 a116 := Tryz.isAgg140
 z116 := Tryz.sizeOf140
 t117 := Tryz.underlying141
 a117 := Tryz.isAgg141
 z117 := Tryz.sizeOf141
 v117 := Tryz.zeroValue141
 t119 := Tryz.underlying172
 a119 := Tryz.isAgg172
 z119 := Tryz.sizeOf172
 t124 := Tryz.underlying144
 a124 := Tryz.isAgg144
 z124 := Tryz.sizeOf144
 v124 := Tryz.zeroValue144
 t138 := Tryz.underlying174
 a138 := Tryz.isAgg174
 z138 := Tryz.sizeOf174
 v138 := Tryz.zeroValue174
 t139 := Tryz.underlying175
 a139 := Tryz.isAgg175
 z139 := Tryz.sizeOf175
 v139 := Tryz.zeroValue175
 g3 := by kernel_rfl
 g4 := by kernel_rfl }
def Tryz.lays119_ren : Go.Shelf.Ren := ⟨fun | 119 => 150 | n => n, fun | 21 => 21 | 4 => 4 | n => n, fun | n => n⟩

def Tryz.lays120_ren : Go.Shelf.Ren := ⟨fun | 120 => 142 | n => n, fun | 5 => 5 | 4 => 4 | n => n, fun | n => n⟩

def Tryz.lays213_ren : Go.Shelf.Ren := ⟨fun | 213 => 115 | 265 => 132 | n => n, fun | 9 => 9 | 3 => 3 | n => n, fun | n => n⟩
def Tryz.lays106_ren : Go.Shelf.Ren := ⟨fun | 106 => 94 | 213 => 115 | 265 => 132 | n => n, fun | 9 => 9 | 3 => 3 | n => n, fun | n => n⟩
theorem Tryz.lays106 : Go.Proofs.Lays.n106 Tryz.prog Tryz.lays106_ren := {
 mixed := by kernel_rfl
 f106 := Tryz.func94.trans (congrArg some (by kernel_rfl))
 f213 := Tryz.func115.trans (congrArg some (by kernel_rfl))
 f265 := Tryz.func132.trans (congrArg some (by kernel_rfl))
 t3 := Tryz.underlying3
 a3 := Tryz.isAgg3
 z3 := Tryz.sizeOf3
 v3 := Tryz.zeroValue3
 t9 := Tryz.underlying9
 a9 := Tryz.isAgg9
 z9 := Tryz.sizeOf9
 v9 := Tryz.zeroValue9 }
open Go.RowKit in

theorem Tryz.strings_Compare (a b : ByteArray) (w : World) :
 Calls Tryz.prog 94 #[.string a, .string b] w fun e w' => e = .returned (.int .i64 (Lib.compareBytes a.data.toList b.data.toList)) ∧ w' = w := Any.strings_Compare Tryz.lays106 a b w
def Tryz.lays137_ren : Go.Shelf.Ren := ⟨fun | 137 => 149 | 217 => 157 | 266 => 161 | n => n, fun | 9 => 9 | 5 => 5 | 3 => 3 | n => n, fun | n => n⟩
def Tryz.lays211_ren : Go.Shelf.Ren := ⟨fun | 211 => 146 | 207 => 156 | n => n, fun | 9 => 9 | 4 => 4 | 3 => 3 | n => n, fun | n => n⟩
def Tryz.lays104_ren : Go.Shelf.Ren := ⟨fun | 104 => 137 | 211 => 146 | 207 => 156 | n => n, fun | 9 => 9 | 4 => 4 | 24 => 165 | 3 => 3 | n => n, fun | n => n⟩
theorem Tryz.lays104 : Go.Proofs.Lays.n104 Tryz.prog Tryz.lays104_ren := {
 mixed := by kernel_rfl
 f104 := Tryz.func137.trans (congrArg some (by kernel_rfl))
 f207 := Tryz.func156.trans (congrArg some (by kernel_rfl))
 f211 := Tryz.func146.trans (congrArg some (by kernel_rfl))
 t3 := Tryz.underlying3
 a3 := Tryz.isAgg3
 z3 := Tryz.sizeOf3
 v3 := Tryz.zeroValue3
 t4 := Tryz.underlying4
 a4 := Tryz.isAgg4
 z4 := Tryz.sizeOf4
 v4 := Tryz.zeroValue4
 t9 := Tryz.underlying9
 a9 := Tryz.isAgg9
 z9 := Tryz.sizeOf9
 v9 := Tryz.zeroValue9
 t24 := Tryz.underlying165
 a24 := Tryz.isAgg165
 z24 := Tryz.sizeOf165
 v24 := Tryz.zeroValue165 }
open Go.RowKit in

theorem Tryz.strings_CutSuffix (s p : ByteArray) (w : World) (hs : s.size ≤ 9223372036854775807) :
 Calls Tryz.prog 137 #[.string s, .string p] w fun e w' => e = .returned (.tuple #[.string ⟨(Lib.trimSuffix s.data.toList p.data.toList).toArray⟩, .bool (Lib.hasSuffix s.data.toList p.data.toList)]) ∧ w' = w := Any.strings_CutSuffix Tryz.lays104 s p w hs
def Tryz.lays195_ren : Go.Shelf.Ren := ⟨fun | 195 => 159 | n => n, fun | 9 => 9 | 3 => 3 | 0 => 0 | 4 => 4 | n => n, fun | n => n⟩
def Tryz.lays217_ren : Go.Shelf.Ren := ⟨fun | 217 => 157 | 266 => 161 | n => n, fun | 9 => 9 | 5 => 5 | 3 => 3 | n => n, fun | n => n⟩
def Tryz.lays224_ren : Go.Shelf.Ren := ⟨fun | 224 => 151 | n => n, fun | 3 => 3 | n => n, fun | n => n⟩
def Tryz.lays314_ren : Go.Shelf.Ren := ⟨fun | 314 => 162 | n => n, fun | 9 => 9 | 51 => 181 | 3 => 3 | 4 => 4 | 5 => 5 | 46 => 119 | n => n, fun | n => n⟩
def Tryz.lays267_ren : Go.Shelf.Ren := ⟨fun | 267 => 158 | 314 => 162 | n => n, fun | 9 => 9 | 3 => 3 | 146 => 182 | 51 => 181 | 4 => 4 | 5 => 5 | 46 => 119 | n => n, fun | n => n⟩
def Tryz.lays219_ren : Go.Shelf.Ren := ⟨fun | 219 => 148 | 217 => 157 | 225 => 152 | 224 => 151 | 267 => 158 | 266 => 161 | 314 => 162 | n => n, fun | 9 => 9 | 3 => 3 | 4 => 4 | 5 => 5 | 46 => 119 | 146 => 182 | 51 => 181 | n => n, fun | 1 => 0 | n => n⟩
theorem Tryz.lays219 : Go.Proofs.Lays.n219 Tryz.prog Tryz.lays219_ren := {
 mixed := by kernel_rfl
 f217 := Tryz.func157.trans (congrArg some (by kernel_rfl))
 f219 := Tryz.func148.trans (congrArg some (by kernel_rfl))
 f224 := Tryz.func151.trans (congrArg some (by kernel_rfl))
 f225 := Tryz.func152.trans (congrArg some (by kernel_rfl))
 f266 := Tryz.func161.trans (congrArg some (by kernel_rfl))
 f267 := Tryz.func158.trans (congrArg some (by kernel_rfl))
 f314 := Tryz.func162.trans (congrArg some (by kernel_rfl))
 t3 := Tryz.underlying3
 a3 := Tryz.isAgg3
 z3 := Tryz.sizeOf3
 v3 := Tryz.zeroValue3
 t4 := Tryz.underlying4
 a4 := Tryz.isAgg4
 z4 := Tryz.sizeOf4
 v4 := Tryz.zeroValue4
 t5 := Tryz.underlying5
 a5 := Tryz.isAgg5
 z5 := Tryz.sizeOf5
 v5 := Tryz.zeroValue5
 t9 := Tryz.underlying9
 a9 := Tryz.isAgg9
 z9 := Tryz.sizeOf9
 v9 := Tryz.zeroValue9
 t46 := Tryz.underlying119
 a46 := Tryz.isAgg119
 z46 := Tryz.sizeOf119
 v46 := Tryz.zeroValue119
 t51 := Tryz.underlying181
 a51 := Tryz.isAgg181
 z51 := Tryz.sizeOf181
 v51 := Tryz.zeroValue181
 t146 := Tryz.underlying182
 a146 := Tryz.isAgg182
 z146 := Tryz.sizeOf182
 v146 := Tryz.zeroValue182
 g1 := by kernel_rfl }
open Go.RowKit Go.Lib in

theorem Tryz.stringslite_Index_one (s : ByteArray) (c : UInt8) (w : World) :
 Calls Tryz.prog 148 #[.string s, .string ⟨#[c]⟩] w fun e w' => e = .returned (.int .i64 (Lib.indexByte s.data.toList c)) ∧ w' = w := Any.stringslite_Index_one Tryz.lays219 s c w
def Tryz.lays143_ren : Go.Shelf.Ren := ⟨fun | 143 => 155 | 219 => 148 | 217 => 157 | 225 => 152 | 224 => 151 | 267 => 158 | 266 => 161 | 314 => 162 | n => n, fun | 9 => 9 | 3 => 3 | 4 => 4 | 5 => 5 | 46 => 119 | 146 => 182 | 51 => 181 | n => n, fun | 1 => 0 | n => n⟩
theorem Tryz.lays143 : Go.Proofs.Lays.n143 Tryz.prog Tryz.lays143_ren := {
 mixed := by kernel_rfl
 f143 := Tryz.func155.trans (congrArg some (by kernel_rfl))
 f217 := Tryz.func157.trans (congrArg some (by kernel_rfl))
 f219 := Tryz.func148.trans (congrArg some (by kernel_rfl))
 f224 := Tryz.func151.trans (congrArg some (by kernel_rfl))
 f225 := Tryz.func152.trans (congrArg some (by kernel_rfl))
 f266 := Tryz.func161.trans (congrArg some (by kernel_rfl))
 f267 := Tryz.func158.trans (congrArg some (by kernel_rfl))
 f314 := Tryz.func162.trans (congrArg some (by kernel_rfl))
 t3 := Tryz.underlying3
 a3 := Tryz.isAgg3
 z3 := Tryz.sizeOf3
 v3 := Tryz.zeroValue3
 t4 := Tryz.underlying4
 a4 := Tryz.isAgg4
 z4 := Tryz.sizeOf4
 v4 := Tryz.zeroValue4
 t5 := Tryz.underlying5
 a5 := Tryz.isAgg5
 z5 := Tryz.sizeOf5
 v5 := Tryz.zeroValue5
 t9 := Tryz.underlying9
 a9 := Tryz.isAgg9
 z9 := Tryz.sizeOf9
 v9 := Tryz.zeroValue9
 t46 := Tryz.underlying119
 a46 := Tryz.isAgg119
 z46 := Tryz.sizeOf119
 v46 := Tryz.zeroValue119
 t51 := Tryz.underlying181
 a51 := Tryz.isAgg181
 z51 := Tryz.sizeOf181
 v51 := Tryz.zeroValue181
 t146 := Tryz.underlying182
 a146 := Tryz.isAgg182
 z146 := Tryz.sizeOf182
 v146 := Tryz.zeroValue182
 g1 := by kernel_rfl }
open Go.RowKit Go.Lib in

theorem Tryz.strings_Index_one (s : ByteArray) (c : UInt8) (w : World) :
 Calls Tryz.prog 155 #[.string s, .string ⟨#[c]⟩] w fun e w' => e = .returned (.int .i64 (Lib.indexByte s.data.toList c)) ∧ w' = w := Any.strings_Index_one Tryz.lays143 s c w
def Tryz.lays220_ren : Go.Shelf.Ren := ⟨fun | 220 => 139 | 219 => 148 | 217 => 157 | 225 => 152 | 224 => 151 | 267 => 158 | 266 => 161 | 314 => 162 | n => n, fun | 9 => 9 | 4 => 4 | 3 => 3 | 5 => 5 | 46 => 119 | 146 => 182 | 51 => 181 | n => n, fun | 1 => 0 | n => n⟩
def Tryz.lays145_ren : Go.Shelf.Ren := ⟨fun | 145 => 124 | 220 => 139 | 219 => 148 | 217 => 157 | 225 => 152 | 224 => 151 | 267 => 158 | 266 => 161 | 314 => 162 | n => n, fun | 9 => 9 | 4 => 4 | 59 => 155 | 3 => 3 | 5 => 5 | 46 => 119 | 146 => 182 | 51 => 181 | n => n, fun | 1 => 0 | n => n⟩
theorem Tryz.lays145 : Go.Proofs.Lays.n145 Tryz.prog Tryz.lays145_ren := {
 mixed := by kernel_rfl
 f145 := Tryz.func124.trans (congrArg some (by kernel_rfl))
 f217 := Tryz.func157.trans (congrArg some (by kernel_rfl))
 f219 := Tryz.func148.trans (congrArg some (by kernel_rfl))
 f220 := Tryz.func139.trans (congrArg some (by kernel_rfl))
 f224 := Tryz.func151.trans (congrArg some (by kernel_rfl))
 f225 := Tryz.func152.trans (congrArg some (by kernel_rfl))
 f266 := Tryz.func161.trans (congrArg some (by kernel_rfl))
 f267 := Tryz.func158.trans (congrArg some (by kernel_rfl))
 f314 := Tryz.func162.trans (congrArg some (by kernel_rfl))
 t3 := Tryz.underlying3
 a3 := Tryz.isAgg3
 z3 := Tryz.sizeOf3
 v3 := Tryz.zeroValue3
 t4 := Tryz.underlying4
 a4 := Tryz.isAgg4
 z4 := Tryz.sizeOf4
 v4 := Tryz.zeroValue4
 t5 := Tryz.underlying5
 a5 := Tryz.isAgg5
 z5 := Tryz.sizeOf5
 v5 := Tryz.zeroValue5
 t9 := Tryz.underlying9
 a9 := Tryz.isAgg9
 z9 := Tryz.sizeOf9
 v9 := Tryz.zeroValue9
 t46 := Tryz.underlying119
 a46 := Tryz.isAgg119
 z46 := Tryz.sizeOf119
 v46 := Tryz.zeroValue119
 t51 := Tryz.underlying181
 a51 := Tryz.isAgg181
 z51 := Tryz.sizeOf181
 v51 := Tryz.zeroValue181
 t59 := Tryz.underlying155
 a59 := Tryz.isAgg155
 z59 := Tryz.sizeOf155
 v59 := Tryz.zeroValue155
 t146 := Tryz.underlying182
 a146 := Tryz.isAgg182
 z146 := Tryz.sizeOf182
 v146 := Tryz.zeroValue182
 g1 := by kernel_rfl }
open Go.RowKit Go.Lib in

theorem Tryz.strings_Cut (s sep : ByteArray) (m : Int) (w : World) (hs : s.size < 4294967281) (hm : w.cell? ⟨0, 0, none⟩ = some (.int .i64 m)) :
 Calls Tryz.prog 124 #[.string s, .string sep] w fun e w' => e = .returned (.tuple #[.string ⟨(Lib.cut s.data.toList sep.data.toList).1.toArray⟩, .string ⟨(Lib.cut s.data.toList sep.data.toList).2.1.toArray⟩, .bool (Lib.cut s.data.toList sep.data.toList).2.2]) ∧ ∃ n, w' = w.drewN n := Any.strings_Cut Tryz.lays145 s sep m w hs hm
def Tryz.lays138_ren : Go.Shelf.Ren := ⟨fun | 138 => 154 | 195 => 159 | 218 => 160 | 143 => 155 | 219 => 148 | 217 => 157 | 225 => 152 | 224 => 151 | 267 => 158 | 266 => 161 | 314 => 162 | n => n, fun | 9 => 9 | 3 => 3 | 4 => 4 | 5 => 5 | 0 => 0 | 46 => 119 | 146 => 182 | 51 => 181 | n => n, fun | 1 => 0 | n => n⟩
theorem Tryz.lays138 : Go.Proofs.Lays.n138 Tryz.prog Tryz.lays138_ren := {
 mixed := by kernel_rfl
 f138 := Tryz.func154.trans (congrArg some (by kernel_rfl))
 f143 := Tryz.func155.trans (congrArg some (by kernel_rfl))
 f195 := Tryz.func159.trans (congrArg some (by kernel_rfl))
 f217 := Tryz.func157.trans (congrArg some (by kernel_rfl))
 f218 := Tryz.func160.trans (congrArg some (by kernel_rfl))
 f219 := Tryz.func148.trans (congrArg some (by kernel_rfl))
 f224 := Tryz.func151.trans (congrArg some (by kernel_rfl))
 f225 := Tryz.func152.trans (congrArg some (by kernel_rfl))
 f266 := Tryz.func161.trans (congrArg some (by kernel_rfl))
 f267 := Tryz.func158.trans (congrArg some (by kernel_rfl))
 f314 := Tryz.func162.trans (congrArg some (by kernel_rfl))
 t0 := Tryz.underlying0
 a0 := Tryz.isAgg0
 z0 := Tryz.sizeOf0
 v0 := Tryz.zeroValue0
 t3 := Tryz.underlying3
 a3 := Tryz.isAgg3
 z3 := Tryz.sizeOf3
 v3 := Tryz.zeroValue3
 t4 := Tryz.underlying4
 a4 := Tryz.isAgg4
 z4 := Tryz.sizeOf4
 v4 := Tryz.zeroValue4
 t5 := Tryz.underlying5
 a5 := Tryz.isAgg5
 z5 := Tryz.sizeOf5
 v5 := Tryz.zeroValue5
 t9 := Tryz.underlying9
 a9 := Tryz.isAgg9
 z9 := Tryz.sizeOf9
 v9 := Tryz.zeroValue9
 t46 := Tryz.underlying119
 a46 := Tryz.isAgg119
 z46 := Tryz.sizeOf119
 v46 := Tryz.zeroValue119
 t51 := Tryz.underlying181
 a51 := Tryz.isAgg181
 z51 := Tryz.sizeOf181
 v51 := Tryz.zeroValue181
 t146 := Tryz.underlying182
 a146 := Tryz.isAgg182
 z146 := Tryz.sizeOf182
 v146 := Tryz.zeroValue182
 g1 := by kernel_rfl }
open Go.RowKit Go.Lib in

theorem Tryz.strings_Count_one (s : ByteArray) (c : UInt8) (w : World) :
 Calls Tryz.prog 154 #[.string s, .string ⟨#[c]⟩] w fun e w' => e = .returned (.int .i64 (Lib.countByte s.data.toList c)) ∧ w' = w := Any.strings_Count_one Tryz.lays138 s c w
def Tryz.laysM219_ren : Go.Shelf.Ren := ⟨fun | 219 => 148 | 217 => 157 | 225 => 152 | 224 => 151 | 267 => 158 | 266 => 161 | 314 => 162 | n => n, fun | 9 => 9 | 3 => 3 | 4 => 4 | 5 => 5 | 46 => 119 | 146 => 182 | 51 => 181 | n => n, fun | 1 => 0 | n => n⟩
def Tryz.laysM143_ren : Go.Shelf.Ren := ⟨fun | 143 => 155 | 219 => 148 | 217 => 157 | 225 => 152 | 224 => 151 | 267 => 158 | 266 => 161 | 314 => 162 | n => n, fun | 9 => 9 | 3 => 3 | 4 => 4 | 5 => 5 | 46 => 119 | 146 => 182 | 51 => 181 | n => n, fun | 1 => 0 | n => n⟩
def Tryz.laysM220_ren : Go.Shelf.Ren := ⟨fun | 220 => 139 | 219 => 148 | 217 => 157 | 225 => 152 | 224 => 151 | 267 => 158 | 266 => 161 | 314 => 162 | n => n, fun | 9 => 9 | 4 => 4 | 3 => 3 | 5 => 5 | 46 => 119 | 146 => 182 | 51 => 181 | n => n, fun | 1 => 0 | n => n⟩
def Tryz.laysM145_ren : Go.Shelf.Ren := ⟨fun | 145 => 124 | 220 => 139 | 219 => 148 | 217 => 157 | 225 => 152 | 224 => 151 | 267 => 158 | 266 => 161 | 314 => 162 | n => n, fun | 9 => 9 | 4 => 4 | 59 => 155 | 3 => 3 | 5 => 5 | 46 => 119 | 146 => 182 | 51 => 181 | n => n, fun | 1 => 0 | n => n⟩
def Tryz.laysM138_ren : Go.Shelf.Ren := ⟨fun | 138 => 154 | 195 => 159 | 218 => 160 | 143 => 155 | 219 => 148 | 217 => 157 | 225 => 152 | 224 => 151 | 267 => 158 | 266 => 161 | 314 => 162 | n => n, fun | 9 => 9 | 3 => 3 | 4 => 4 | 5 => 5 | 0 => 0 | 46 => 119 | 146 => 182 | 51 => 181 | n => n, fun | 1 => 0 | n => n⟩
def Tryz.lays206_ren : Go.Shelf.Ren := ⟨fun | 206 => 147 | n => n, fun | 9 => 9 | 4 => 4 | 3 => 3 | n => n, fun | n => n⟩
def Tryz.lays99_ren : Go.Shelf.Ren := ⟨fun | 99 => 138 | 206 => 147 | n => n, fun | 9 => 9 | 4 => 4 | 3 => 3 | n => n, fun | n => n⟩
theorem Tryz.lays99 : Go.Proofs.Lays.n99 Tryz.prog Tryz.lays99_ren := {
 mixed := by kernel_rfl
 f99 := Tryz.func138.trans (congrArg some (by kernel_rfl))
 f206 := Tryz.func147.trans (congrArg some (by kernel_rfl))
 t3 := Tryz.underlying3
 a3 := Tryz.isAgg3
 z3 := Tryz.sizeOf3
 v3 := Tryz.zeroValue3
 t4 := Tryz.underlying4
 a4 := Tryz.isAgg4
 z4 := Tryz.sizeOf4
 v4 := Tryz.zeroValue4
 t9 := Tryz.underlying9
 a9 := Tryz.isAgg9
 z9 := Tryz.sizeOf9
 v9 := Tryz.zeroValue9 }
open Go.RowKit Go.Lib in

theorem Tryz.strings_HasPrefix (s p : ByteArray) (w : World) :
 Calls Tryz.prog 138 #[.string s, .string p] w fun e w' => e = .returned (.bool (Lib.hasPrefix s.data.toList p.data.toList)) ∧ w' = w := Any.strings_HasPrefix Tryz.lays99 s p w
def Tryz.lays207_ren : Go.Shelf.Ren := ⟨fun | 207 => 156 | n => n, fun | 9 => 9 | 4 => 4 | 3 => 3 | n => n, fun | n => n⟩
def Tryz.lays221_ren : Go.Shelf.Ren := ⟨fun | 221 => 145 | 268 => 153 | 138 => 154 | 143 => 155 | 195 => 159 | 197 => 129 | 218 => 160 | 219 => 148 | 260 => 140 | 217 => 157 | 225 => 152 | 224 => 151 | 267 => 158 | 266 => 161 | 314 => 162 | n => n, fun | 9 => 9 | 3 => 3 | 31 => 110 | 4 => 4 | 0 => 0 | 105 => 160 | 21 => 21 | 5 => 5 | 46 => 119 | 119 => 172 | 139 => 175 | 138 => 174 | 146 => 182 | 51 => 181 | n => n, fun | 1 => 0 | 3 => 1 | 4 => 2 | n => n⟩
theorem Tryz.lays221 : Go.Proofs.Lays.n221 Tryz.prog Tryz.lays221_ren := {
 mixed := by kernel_rfl
 f138 := Tryz.func154.trans (congrArg some (by kernel_rfl))
 f143 := Tryz.func155.trans (congrArg some (by kernel_rfl))
 f195 := Tryz.func159.trans (congrArg some (by kernel_rfl))
 f197 := Tryz.func129.trans (congrArg some (by kernel_rfl))
 f217 := Tryz.func157.trans (congrArg some (by kernel_rfl))
 f218 := Tryz.func160.trans (congrArg some (by kernel_rfl))
 f219 := Tryz.func148.trans (congrArg some (by kernel_rfl))
 f221 := Tryz.func145.trans (congrArg some (by kernel_rfl))
 f224 := Tryz.func151.trans (congrArg some (by kernel_rfl))
 f225 := Tryz.func152.trans (congrArg some (by kernel_rfl))
 f260 := Tryz.func140.trans (congrArg some (by kernel_rfl))
 f266 := Tryz.func161.trans (congrArg some (by kernel_rfl))
 f267 := Tryz.func158.trans (congrArg some (by kernel_rfl))
 f268 := Tryz.func153.trans (congrArg some (by kernel_rfl))
 f314 := Tryz.func162.trans (congrArg some (by kernel_rfl))
 t0 := Tryz.underlying0
 a0 := Tryz.isAgg0
 z0 := Tryz.sizeOf0
 v0 := Tryz.zeroValue0
 t3 := Tryz.underlying3
 a3 := Tryz.isAgg3
 z3 := Tryz.sizeOf3
 v3 := Tryz.zeroValue3
 t4 := Tryz.underlying4
 a4 := Tryz.isAgg4
 z4 := Tryz.sizeOf4
 v4 := Tryz.zeroValue4
 t5 := Tryz.underlying5
 a5 := Tryz.isAgg5
 z5 := Tryz.sizeOf5
 v5 := Tryz.zeroValue5
 t9 := Tryz.underlying9
 a9 := Tryz.isAgg9
 z9 := Tryz.sizeOf9
 v9 := Tryz.zeroValue9
 t21 := Tryz.underlying21
 a21 := Tryz.isAgg21
 z21 := Tryz.sizeOf21
 v21 := Tryz.zeroValue21
 t31 := Tryz.underlying110
 a31 := Tryz.isAgg110
 z31 := Tryz.sizeOf110
 v31 := Tryz.zeroValue110
 t46 := Tryz.underlying119
 a46 := Tryz.isAgg119
 z46 := Tryz.sizeOf119
 v46 := Tryz.zeroValue119
 t51 := Tryz.underlying181
 a51 := Tryz.isAgg181
 z51 := Tryz.sizeOf181
 v51 := Tryz.zeroValue181
 t105 := Tryz.underlying160
 a105 := Tryz.isAgg160
 z105 := Tryz.sizeOf160
 v105 := Tryz.zeroValue160
 t119 := Tryz.underlying172
 a119 := Tryz.isAgg172
 z119 := Tryz.sizeOf172
 t138 := Tryz.underlying174
 a138 := Tryz.isAgg174
 z138 := Tryz.sizeOf174
 v138 := Tryz.zeroValue174
 t139 := Tryz.underlying175
 a139 := Tryz.isAgg175
 z139 := Tryz.sizeOf175
 v139 := Tryz.zeroValue175
 t146 := Tryz.underlying182
 a146 := Tryz.isAgg182
 z146 := Tryz.sizeOf182
 v146 := Tryz.zeroValue182
 g1 := by kernel_rfl
 g3 := by kernel_rfl
 g4 := by kernel_rfl }
def Tryz.lays146_ren : Go.Shelf.Ren := ⟨fun | 146 => 135 | 221 => 145 | 268 => 153 | 138 => 154 | 143 => 155 | 195 => 159 | 197 => 129 | 218 => 160 | 219 => 148 | 260 => 140 | 217 => 157 | 225 => 152 | 224 => 151 | 267 => 158 | 266 => 161 | 314 => 162 | n => n, fun | 9 => 9 | 31 => 110 | 3 => 3 | 4 => 4 | 0 => 0 | 105 => 160 | 21 => 21 | 5 => 5 | 46 => 119 | 119 => 172 | 139 => 175 | 138 => 174 | 146 => 182 | 51 => 181 | n => n, fun | 1 => 0 | 3 => 1 | 4 => 2 | n => n⟩
def Tryz.laysM146_ren : Go.Shelf.Ren := ⟨fun | 146 => 135 | 221 => 145 | 268 => 153 | 138 => 154 | 143 => 155 | 195 => 159 | 197 => 129 | 218 => 160 | 219 => 148 | 260 => 140 | 217 => 157 | 225 => 152 | 224 => 151 | 267 => 158 | 266 => 161 | 314 => 162 | n => n, fun | 9 => 9 | 31 => 110 | 3 => 3 | 4 => 4 | 0 => 0 | 105 => 160 | 21 => 21 | 5 => 5 | 46 => 119 | 119 => 172 | 139 => 175 | 138 => 174 | 146 => 182 | 51 => 181 | n => n, fun | 1 => 0 | 3 => 1 | 4 => 2 | n => n⟩
def Tryz.lays197_ren : Go.Shelf.Ren := ⟨fun | 197 => 129 | 260 => 140 | n => n, fun | 9 => 9 | 21 => 21 | 3 => 3 | 4 => 4 | 5 => 5 | 105 => 160 | 119 => 172 | 0 => 0 | 46 => 119 | 139 => 175 | 138 => 174 | n => n, fun | 3 => 1 | 4 => 2 | n => n⟩
def Tryz.lays152_ren : Go.Shelf.Ren := ⟨fun | 152 => 141 | 137 => 149 | 119 => 150 | 224 => 151 | 225 => 152 | 217 => 157 | 266 => 161 | n => n, fun | 9 => 9 | 21 => 21 | 3 => 3 | 4 => 4 | 5 => 5 | 0 => 0 | 46 => 119 | n => n, fun | n => n⟩
def Tryz.lays151_ren : Go.Shelf.Ren := ⟨fun | 151 => 130 | 152 => 141 | 137 => 149 | 119 => 150 | 224 => 151 | 225 => 152 | 217 => 157 | 266 => 161 | n => n, fun | 9 => 9 | 21 => 21 | 4 => 4 | 3 => 3 | 5 => 5 | 0 => 0 | 46 => 119 | n => n, fun | n => n⟩
def Tryz.lays227_ren : Go.Shelf.Ren := ⟨fun | 227 => 110 | n => n, fun | 9 => 9 | 116 => 140 | 4 => 4 | 0 => 0 | 3 => 3 | 5 => 5 | n => n, fun | n => n⟩
def Tryz.lays228_ren : Go.Shelf.Ren := ⟨fun | 228 => 128 | n => n, fun | 124 => 144 | 5 => 5 | 4 => 4 | 0 => 0 | 116 => 140 | n => n, fun | n => n⟩
def Tryz.lays268_ren : Go.Shelf.Ren := ⟨fun | 268 => 153 | 195 => 159 | 197 => 129 | 260 => 140 | n => n, fun | 9 => 9 | 3 => 3 | 31 => 110 | 4 => 4 | 105 => 160 | 21 => 21 | 0 => 0 | 5 => 5 | 119 => 172 | 46 => 119 | 139 => 175 | 138 => 174 | n => n, fun | 3 => 1 | 4 => 2 | n => n⟩
def Tryz.lays260_ren : Go.Shelf.Ren := ⟨fun | 260 => 140 | n => n, fun | 9 => 9 | 21 => 21 | 3 => 3 | 4 => 4 | 5 => 5 | 119 => 172 | 0 => 0 | 46 => 119 | 139 => 175 | 138 => 174 | n => n, fun | 3 => 1 | 4 => 2 | n => n⟩
def Tryz.lays271_ren : Go.Shelf.Ren := ⟨fun | 271 => 131 | 120 => 142 | 197 => 129 | 260 => 140 | n => n, fun | 9 => 9 | 21 => 21 | 3 => 3 | 4 => 4 | 5 => 5 | 105 => 160 | 119 => 172 | 0 => 0 | 46 => 119 | 139 => 175 | 138 => 174 | n => n, fun | 3 => 1 | 4 => 2 | n => n⟩
end Go.Proofs.YtldlkbjbfgieeaaGreatDoor.Sh
