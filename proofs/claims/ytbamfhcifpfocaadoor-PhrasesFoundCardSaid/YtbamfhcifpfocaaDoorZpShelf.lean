/- Part of the proof that the law phrasesFound is true for every input. No conditions. Laid by a program of this session over the kit's print and words; declarations that nothing names are left out. -/
import Derived.Shelf.Strings.Builder1
import Derived.Shelf.Strings.Builder2
import Derived.Shelf.Strings.OnBuilder
import Derived.Shelf.Small.Bits
import Derived.Shelf.Small.Strs
import Derived.Shelf.Strings.BuilderF
import Derived.Shelf.Strings.BuilderK
import Derived.Shelf.Utf8.RuneCount
import Derived.Shelf.Strconv.Itoa0
import Derived.Shelf.Strconv.Itoa1
import Derived.Shelf.LaysM
import Derived.Shelf.Strconv.Itoa2
import Derived.Shelf.Strconv.Itoa3
import Derived.Shelf.Strings.Search1
import Derived.Shelf.Strings.Search2
import Derived.Shelf.Strings.Search3
import Derived.Shelf.Strings.Count
import Derived.Shelf.Strings.Shaped
import Derived.Shelf.Sort.Plain
import Derived.Shelf.Strings.Prefix
import Derived.Shelf.Strings.Split
import Derived.Shelf.Strings.SplitShaped
import Derived.Shelf.Unicode.Decode
import Derived.Shelf.Strings.RuneCount
import Derived.Shelf.Strings.Explode
import Derived.Shelf.Bits.Mul64
import Derived.Shelf.Strings.Repeat
import Derived.Shelf.Unicode.DecodeSlow
import Derived.Shelf.Unicode.DecodeAny
import Derived.Ground.Names2Prog
import Derived.Shelf.Slices.Clone
import Derived.Shelf.Slices.CompactS
import Derived.Shelf.Slices.Cells
import Derived.Shelf.Slices.In.SortNone
import Derived.Ground.SlgnProg
import Derived.Shelf.SlicesE.Clone
import Derived.Ground.SlgfProg
import Derived.Shelf.SlicesE.IndexFunc
import Derived.Shelf.SlicesQ.Reverse
import Derived.Shelf.SlSortCmp.NoneTotal
import Derived.Ground.SlsfProg
import Derived.Shelf.Spec.SlicesGrow
import Derived.Ground.Names8Prog
import Derived.Shelf.Unicode.ValidAny
import Derived.Ground.NamesProg
import Derived.Shelf.SlGeneric
import Derived.Test.YtbamfhcifpfocaaDoorProg
namespace Go.Proofs
open Go.Shelf
def Tryd.lays137_ren : Go.Shelf.Ren := ⟨fun | 137 => 148 | 217 => 176 | 266 => 202 | n => n, fun | 9 => 9 | 5 => 5 | 3 => 3 | n => n, fun | n => n⟩
theorem Tryd.lays137 : Go.Proofs.Lays.n137 Tryd.prog Tryd.lays137_ren := {
  mixed := by kernel_rfl
  f137 := Tryd.func148.trans (congrArg some (by kernel_rfl))
  f217 := Tryd.func176.trans (congrArg some (by kernel_rfl))
  f266 := Tryd.func202.trans (congrArg some (by kernel_rfl))
  t3 := Tryd.underlying3
  a3 := Tryd.isAgg3
  z3 := Tryd.sizeOf3
  v3 := Tryd.zeroValue3
  t5 := Tryd.underlying5
  a5 := Tryd.isAgg5
  z5 := Tryd.sizeOf5
  v5 := Tryd.zeroValue5
  t9 := Tryd.underlying9
  a9 := Tryd.isAgg9
  z9 := Tryd.sizeOf9
  v9 := Tryd.zeroValue9 }
open Go.RowKit in
theorem Tryd.strings_IndexByte (s : ByteArray) (c : Int) (w : World) :
    Calls Tryd.prog 148 #[.string s, .int .u8 c] w fun e w' => e = .returned (.int .i64 (Lib.indexByte s.data.toList c.toNat.toUInt8)) ∧ w' = w := Any.strings_IndexByte Tryd.lays137 s c w
def Tryd.lays143_ren : Go.Shelf.Ren := ⟨fun | 143 => 112 | 219 => 156 | 217 => 176 | 225 => 180 | 224 => 181 | 267 => 182 | 266 => 202 | 314 => 204 | n => n, fun | 9 => 9 | 3 => 3 | 4 => 4 | 5 => 5 | 46 => 148 | 146 => 182 | 51 => 181 | n => n, fun | 1 => 2 | n => n⟩
theorem Tryd.lays143 : Go.Proofs.Lays.n143 Tryd.prog Tryd.lays143_ren := {
  mixed := by kernel_rfl
  f143 := Tryd.func112.trans (congrArg some (by kernel_rfl))
  f217 := Tryd.func176.trans (congrArg some (by kernel_rfl))
  f219 := Tryd.func156.trans (congrArg some (by kernel_rfl))
  f224 := Tryd.func181.trans (congrArg some (by kernel_rfl))
  f225 := Tryd.func180.trans (congrArg some (by kernel_rfl))
  f266 := Tryd.func202.trans (congrArg some (by kernel_rfl))
  f267 := Tryd.func182.trans (congrArg some (by kernel_rfl))
  f314 := Tryd.func204.trans (congrArg some (by kernel_rfl))
  t3 := Tryd.underlying3
  a3 := Tryd.isAgg3
  z3 := Tryd.sizeOf3
  v3 := Tryd.zeroValue3
  t4 := Tryd.underlying4
  a4 := Tryd.isAgg4
  z4 := Tryd.sizeOf4
  v4 := Tryd.zeroValue4
  t5 := Tryd.underlying5
  a5 := Tryd.isAgg5
  z5 := Tryd.sizeOf5
  v5 := Tryd.zeroValue5
  t9 := Tryd.underlying9
  a9 := Tryd.isAgg9
  z9 := Tryd.sizeOf9
  v9 := Tryd.zeroValue9
  t46 := Tryd.underlying148
  a46 := Tryd.isAgg148
  z46 := Tryd.sizeOf148
  v46 := Tryd.zeroValue148
  t51 := Tryd.underlying181
  a51 := Tryd.isAgg181
  z51 := Tryd.sizeOf181
  v51 := Tryd.zeroValue181
  t146 := Tryd.underlying182
  a146 := Tryd.isAgg182
  z146 := Tryd.sizeOf182
  v146 := Tryd.zeroValue182
  g1 := by kernel_rfl }
open Go.RowKit Go.Lib in
theorem Tryd.strings_Index (s sub : ByteArray) (m : Int) (w : World) (hs : s.size < 4294967281) (hm : w.cell? ⟨2, 0, none⟩ = some (.int .i64 m)) :
    Calls Tryd.prog 112 #[.string s, .string sub] w fun e w' => e = .returned (.int .i64 (Lib.index s.data.toList sub.data.toList)) ∧ w' = w := Any.strings_Index Tryd.lays143 s sub m w hs hm
def Tryd.lays105_ren : Go.Shelf.Ren := ⟨fun | 105 => 76 | 212 => 137 | 99 => 114 | 165 => 138 | 166 => 102 | 170 => 139 | 169 => 103 | 263 => 169 | 264 => 170 | 206 => 157 | 240 => 149 | 241 => 171 | 276 => 177 | 277 => 189 | n => n, fun | 9 => 9 | 3 => 3 | 4 => 4 | 20 => 20 | 0 => 0 | 46 => 148 | 109 => 149 | 5 => 5 | 72 => 110 | 76 => 114 | 51 => 181 | 146 => 182 | 53 => 184 | 148 => 185 | 70 => 108 | 37 => 102 | 75 => 112 | 127 => 166 | 164 => 189 | 80 => 28 | n => n, fun | n => n⟩
theorem Tryd.lays105 : Go.Proofs.Lays.n105 Tryd.prog Tryd.lays105_ren := {
  mixed := by kernel_rfl
  f99 := Tryd.func114.trans (congrArg some (by kernel_rfl))
  f105 := Tryd.func76.trans (congrArg some (by kernel_rfl))
  f165 := Tryd.func138.trans (congrArg some (by kernel_rfl))
  f166 := Tryd.func102.trans (congrArg some (by kernel_rfl))
  f169 := Tryd.func103.trans (congrArg some (by kernel_rfl))
  f170 := Tryd.func139.trans (congrArg some (by kernel_rfl))
  f206 := Tryd.func157.trans (congrArg some (by kernel_rfl))
  f212 := Tryd.func137.trans (congrArg some (by kernel_rfl))
  f240 := Tryd.func149.trans (congrArg some (by kernel_rfl))
  f241 := Tryd.func171.trans (congrArg some (by kernel_rfl))
  f263 := Tryd.func169.trans (congrArg some (by kernel_rfl))
  f264 := Tryd.func170.trans (congrArg some (by kernel_rfl))
  f276 := Tryd.func177.trans (congrArg some (by kernel_rfl))
  f277 := Tryd.func189.trans (congrArg some (by kernel_rfl))
  t0 := Tryd.underlying0
  a0 := Tryd.isAgg0
  z0 := Tryd.sizeOf0
  v0 := Tryd.zeroValue0
  t3 := Tryd.underlying3
  a3 := Tryd.isAgg3
  z3 := Tryd.sizeOf3
  v3 := Tryd.zeroValue3
  t4 := Tryd.underlying4
  a4 := Tryd.isAgg4
  z4 := Tryd.sizeOf4
  v4 := Tryd.zeroValue4
  t5 := Tryd.underlying5
  a5 := Tryd.isAgg5
  z5 := Tryd.sizeOf5
  v5 := Tryd.zeroValue5
  t9 := Tryd.underlying9
  a9 := Tryd.isAgg9
  z9 := Tryd.sizeOf9
  v9 := Tryd.zeroValue9
  t20 := Tryd.underlying20
  a20 := Tryd.isAgg20
  z20 := Tryd.sizeOf20
  v20 := Tryd.zeroValue20
  t37 := Tryd.underlying102
  a37 := Tryd.isAgg102
  z37 := Tryd.sizeOf102
  v37 := Tryd.zeroValue102
  t46 := Tryd.underlying148
  a46 := Tryd.isAgg148
  z46 := Tryd.sizeOf148
  v46 := Tryd.zeroValue148
  t51 := Tryd.underlying181
  a51 := Tryd.isAgg181
  z51 := Tryd.sizeOf181
  v51 := Tryd.zeroValue181
  t53 := Tryd.underlying184
  a53 := Tryd.isAgg184
  z53 := Tryd.sizeOf184
  v53 := Tryd.zeroValue184
  t70 := Tryd.underlying108
  a70 := Tryd.isAgg108
  z70 := Tryd.sizeOf108
  v70 := Tryd.zeroValue108
  t72 := Tryd.underlying110
  a72 := Tryd.isAgg110
  z72 := Tryd.sizeOf110
  v72 := Tryd.zeroValue110
  t75 := Tryd.underlying112
  a75 := Tryd.isAgg112
  z75 := Tryd.sizeOf112
  v75 := Tryd.zeroValue112
  t76 := Tryd.underlying114
  a76 := Tryd.isAgg114
  z76 := Tryd.sizeOf114
  v76 := Tryd.zeroValue114
  t109 := Tryd.underlying149
  a109 := Tryd.isAgg149
  z109 := Tryd.sizeOf149
  v109 := Tryd.zeroValue149
  t127 := Tryd.underlying166
  a127 := Tryd.isAgg166
  z127 := Tryd.sizeOf166
  v127 := Tryd.zeroValue166
  t146 := Tryd.underlying182
  a146 := Tryd.isAgg182
  z146 := Tryd.sizeOf182
  v146 := Tryd.zeroValue182
  t148 := Tryd.underlying185
  a148 := Tryd.isAgg185
  z148 := Tryd.sizeOf185
  v148 := Tryd.zeroValue185
  t164 := Tryd.underlying189
  a164 := Tryd.isAgg189
  z164 := Tryd.sizeOf189
  v164 := Tryd.zeroValue189 }
theorem Tryd.Builder_Extra_105 : Builder.Extra Tryd.prog Tryd.lays105_ren := {
  sizeBuilder := by kernel_rfl
  liesBuilder := by kernel_rfl
  t5 := Tryd.underlying5
  a5 := Tryd.isAgg5
  z5 := Tryd.sizeOf5
  v5 := Tryd.zeroValue5
  infoByte := by kernel_rfl
  cellsByte := by kernel_rfl
  sizeByte := by kernel_rfl
  neB5 := by decide }
open Go.RowKit Go.Lib in
theorem Tryd.strings_Repeat_main (s : ByteArray) (c : Nat) (w : World) (hc2 : 2 ≤ c) (hc : c ≤ 9223372036854775807) (hlen : s.size * c ≤ 140737488355328) (h0 : 0 < s.size) :
    Calls Tryd.prog 76 #[.string s, .int .i64 c] w fun e w' => e = .returned (.string ⟨(Lib.repeatL s.data.toList c).toArray⟩) ∧ Below w.heap.size w w' := Any.strings_Repeat_main Tryd.lays105 Tryd.Builder_Extra_105 s c w hc2 hc hlen h0
def Tryd.sortf141_ren : Go.Shelf.Ren := ⟨fun | 6 => 141 | 15 => 173 | 14 => 172 | 28 => 198 | 29 => 199 | 20 => 190 | 21 => 191 | 22 => 192 | 23 => 193 | 24 => 194 | 25 => 195 | 26 => 196 | 27 => 197 | 46 => 206 | 47 => 207 | 48 => 208 | 49 => 209 | 50 => 210 | 57 => 221 | n => n, fun | 22 => 38 | 24 => 46 | 25 => 160 | 3 => 3 | 39 => 148 | 0 => 0 | 53 => 181 | 55 => 184 | 4 => 4 | 46 => 195 | 45 => 194 | 50 => 199 | 5 => 5 | 9 => 9 | 66 => 206 | 70 => 210 | 76 => 218 | 77 => 219 | n => n, fun | n => n⟩
theorem Tryd.sortf141 : Go.Proofs.SlLaysF0.n6 Tryd.prog Tryd.sortf141_ren := {
  mixed := by kernel_rfl
  f6 := ⟨Tryd.f141.name, by decide, Tryd.func141.trans (congrArg some (by kernel_rfl))⟩
  f14 := ⟨Tryd.f172.name, by decide, Tryd.func172.trans (congrArg some (by kernel_rfl))⟩
  f15 := Tryd.func173.trans (congrArg some (by kernel_rfl))
  f20 := ⟨Tryd.f190.name, by decide, Tryd.func190.trans (congrArg some (by kernel_rfl))⟩
  f21 := ⟨Tryd.f191.name, by decide, Tryd.func191.trans (congrArg some (by kernel_rfl))⟩
  f22 := ⟨Tryd.f192.name, by decide, Tryd.func192.trans (congrArg some (by kernel_rfl))⟩
  f23 := ⟨Tryd.f193.name, by decide, Tryd.func193.trans (congrArg some (by kernel_rfl))⟩
  f24 := ⟨Tryd.f194.name, by decide, Tryd.func194.trans (congrArg some (by kernel_rfl))⟩
  f25 := ⟨Tryd.f195.name, by decide, Tryd.func195.trans (congrArg some (by kernel_rfl))⟩
  f26 := ⟨Tryd.f196.name, by decide, Tryd.func196.trans (congrArg some (by kernel_rfl))⟩
  f27 := ⟨Tryd.f197.name, by decide, Tryd.func197.trans (congrArg some (by kernel_rfl))⟩
  f28 := Tryd.func198.trans (congrArg some (by kernel_rfl))
  f29 := Tryd.func199.trans (congrArg some (by kernel_rfl))
  f46 := ⟨Tryd.f206.name, by decide, Tryd.func206.trans (congrArg some (by kernel_rfl))⟩
  f47 := Tryd.func207.trans (congrArg some (by kernel_rfl))
  f48 := Tryd.func208.trans (congrArg some (by kernel_rfl))
  f49 := ⟨Tryd.f209.name, by decide, Tryd.func209.trans (congrArg some (by kernel_rfl))⟩
  f50 := ⟨Tryd.f210.name, by decide, Tryd.func210.trans (congrArg some (by kernel_rfl))⟩
  f57 := ⟨Tryd.f221.name, by decide, Tryd.func221.trans (congrArg some (by kernel_rfl))⟩
  t0 := Tryd.underlying0
  a0 := Tryd.isAgg0
  z0 := Tryd.sizeOf0
  v0 := Tryd.zeroValue0
  t3 := Tryd.underlying3
  a3 := Tryd.isAgg3
  z3 := Tryd.sizeOf3
  v3 := Tryd.zeroValue3
  t4 := Tryd.underlying4
  a4 := Tryd.isAgg4
  z4 := Tryd.sizeOf4
  v4 := Tryd.zeroValue4
  t5 := Tryd.underlying5
  a5 := Tryd.isAgg5
  z5 := Tryd.sizeOf5
  v5 := Tryd.zeroValue5
  t9 := Tryd.underlying9
  a9 := Tryd.isAgg9
  z9 := Tryd.sizeOf9
  v9 := Tryd.zeroValue9
  t22 := Tryd.underlying38
  a22 := Tryd.isAgg38
  z22 := Tryd.sizeOf38
  v22 := Tryd.zeroValue38
  t25 := Tryd.underlying160
  a25 := Tryd.isAgg160
  z25 := Tryd.sizeOf160
  v25 := Tryd.zeroValue160
  t39 := Tryd.underlying148
  a39 := Tryd.isAgg148
  z39 := Tryd.sizeOf148
  v39 := Tryd.zeroValue148
  t45 := Tryd.underlying194
  a45 := Tryd.isAgg194
  z45 := Tryd.sizeOf194
  v45 := Tryd.zeroValue194
  t46 := Tryd.underlying195
  a46 := Tryd.isAgg195
  z46 := Tryd.sizeOf195
  v46 := Tryd.zeroValue195
  t50 := Tryd.underlying199
  a50 := Tryd.isAgg199
  z50 := Tryd.sizeOf199
  v50 := Tryd.zeroValue199
  t53 := Tryd.underlying181
  a53 := Tryd.isAgg181
  z53 := Tryd.sizeOf181
  v53 := Tryd.zeroValue181
  t55 := Tryd.underlying184
  a55 := Tryd.isAgg184
  z55 := Tryd.sizeOf184
  v55 := Tryd.zeroValue184
  t66 := Tryd.underlying206
  a66 := Tryd.isAgg206
  z66 := Tryd.sizeOf206
  v66 := Tryd.zeroValue206
  t70 := Tryd.underlying210
  a70 := Tryd.isAgg210
  z70 := Tryd.sizeOf210
  v70 := Tryd.zeroValue210
  t76 := Tryd.underlying218
  a76 := Tryd.isAgg218
  z76 := Tryd.sizeOf218
  v76 := Tryd.zeroValue218
  t77 := Tryd.underlying219
  a77 := Tryd.isAgg219
  z77 := Tryd.sizeOf219
  v77 := Tryd.zeroValue219 }
def Tryd.cf110_ren : Go.Shelf.Ren := ⟨fun | 8 => 110 | 6 => 155 | n => n, fun | 22 => 26 | 23 => 9 | 25 => 91 | 4 => 4 | 3 => 3 | 0 => 0 | n => n, fun | n => n⟩
theorem Tryd.cf110 : Go.Proofs.SlLaysH.n8 Tryd.prog Tryd.cf110_ren := {
  mixed := by kernel_rfl
  f6 := ⟨Tryd.f155.name, by decide, Tryd.func155.trans (congrArg some (by kernel_rfl))⟩
  f8 := ⟨Tryd.f110.name, by decide, Tryd.func110.trans (congrArg some (by kernel_rfl))⟩
  t0 := Tryd.underlying0
  a0 := Tryd.isAgg0
  z0 := Tryd.sizeOf0
  v0 := Tryd.zeroValue0
  t3 := Tryd.underlying3
  a3 := Tryd.isAgg3
  z3 := Tryd.sizeOf3
  v3 := Tryd.zeroValue3
  t4 := Tryd.underlying4
  a4 := Tryd.isAgg4
  z4 := Tryd.sizeOf4
  v4 := Tryd.zeroValue4
  t22 := Tryd.underlying26
  a22 := Tryd.isAgg26
  z22 := Tryd.sizeOf26
  v22 := Tryd.zeroValue26
  a23 := Tryd.isAgg9
  z23 := Tryd.sizeOf9
  t25 := Tryd.underlying91
  a25 := Tryd.isAgg91
  z25 := Tryd.sizeOf91
  v25 := Tryd.zeroValue91 }
def Tryd.valid196_ren : Go.Shelf.Ren := ⟨fun | 196 => 78 | 259 => 140 | n => n, fun | 9 => 9 | 4 => 4 | 3 => 3 | 5 => 5 | 12 => 12 | 119 => 154 | 0 => 0 | 46 => 148 | 139 => 157 | 138 => 156 | 53 => 184 | n => n, fun | 3 => 0 | 4 => 1 | n => n⟩
theorem Tryd.valid196 : Go.Proofs.Lays.n196 Tryd.prog Tryd.valid196_ren := {
  mixed := by kernel_rfl
  f196 := Tryd.func78.trans (congrArg some (by kernel_rfl))
  f259 := Tryd.func140.trans (congrArg some (by kernel_rfl))
  t0 := Tryd.underlying0
  a0 := Tryd.isAgg0
  z0 := Tryd.sizeOf0
  v0 := Tryd.zeroValue0
  t3 := Tryd.underlying3
  a3 := Tryd.isAgg3
  z3 := Tryd.sizeOf3
  v3 := Tryd.zeroValue3
  t4 := Tryd.underlying4
  a4 := Tryd.isAgg4
  z4 := Tryd.sizeOf4
  v4 := Tryd.zeroValue4
  t5 := Tryd.underlying5
  a5 := Tryd.isAgg5
  z5 := Tryd.sizeOf5
  v5 := Tryd.zeroValue5
  t9 := Tryd.underlying9
  a9 := Tryd.isAgg9
  z9 := Tryd.sizeOf9
  v9 := Tryd.zeroValue9
  t12 := Tryd.underlying12
  a12 := Tryd.isAgg12
  z12 := Tryd.sizeOf12
  v12 := Tryd.zeroValue12
  t46 := Tryd.underlying148
  a46 := Tryd.isAgg148
  z46 := Tryd.sizeOf148
  v46 := Tryd.zeroValue148
  t53 := Tryd.underlying184
  a53 := Tryd.isAgg184
  z53 := Tryd.sizeOf184
  v53 := Tryd.zeroValue184
  t119 := Tryd.underlying154
  a119 := Tryd.isAgg154
  z119 := Tryd.sizeOf154
  t138 := Tryd.underlying156
  a138 := Tryd.isAgg156
  z138 := Tryd.sizeOf156
  v138 := Tryd.zeroValue156
  t139 := Tryd.underlying157
  a139 := Tryd.isAgg157
  z139 := Tryd.sizeOf157
  v139 := Tryd.zeroValue157
  g3 := by kernel_rfl
  g4 := by kernel_rfl }
end Go.Proofs
