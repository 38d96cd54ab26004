/- A part of the proof of wordsDiffer. No conditions. Laid by program over the kit's print and words. -/
import Derived.Shelf.Strings.Builder1
import Derived.Shelf.Strings.Builder2
import Derived.Shelf.Strings.OnBuilder
import Derived.Shelf.Small.Bits
import Derived.Shelf.Small.Strs
import Derived.Shelf.Strings.BuilderF
import Derived.Shelf.Strings.BuilderK
import Derived.Shelf.Utf8.RuneCount
import Derived.Shelf.Strconv.Itoa0
import Derived.Shelf.Strconv.Itoa1
import Derived.Shelf.LaysM
import Derived.Shelf.Strconv.Itoa2
import Derived.Shelf.Strconv.Itoa3
import Derived.Shelf.Strings.Search1
import Derived.Shelf.Strings.Search2
import Derived.Shelf.Strings.Search3
import Derived.Shelf.Strings.Count
import Derived.Shelf.Strings.Shaped
import Derived.Shelf.Sort.Plain
import Derived.Shelf.Strings.Prefix
import Derived.Shelf.Strings.Split
import Derived.Shelf.Strings.SplitShaped
import Derived.Shelf.Unicode.Decode
import Derived.Shelf.Strings.RuneCount
import Derived.Shelf.Strings.Explode
import Derived.Shelf.Bits.Mul64
import Derived.Shelf.Strings.Repeat
import Derived.Shelf.Unicode.DecodeSlow
import Derived.Shelf.Unicode.DecodeAny
import Derived.Ground.Names2Prog
import Derived.Shelf.Slices.Clone
import Derived.Shelf.Slices.CompactS
import Derived.Shelf.Slices.Cells
import Derived.Shelf.Slices.In.SortNone
import Derived.Ground.SlgnProg
import Derived.Shelf.SlicesE.Clone
import Derived.Ground.SlgfProg
import Derived.Shelf.SlicesE.IndexFunc
import Derived.Shelf.SlicesQ.Reverse
import Derived.Shelf.SlSortCmp.NoneTotal
import Derived.Ground.SlsfProg
import Derived.Shelf.Spec.SlicesGrow
import Derived.Ground.Names8Prog
import Derived.Shelf.Unicode.ValidAny
import Derived.Ground.NamesProg
import Derived.Shelf.SlGeneric
import Derived.Test.YtbamfhcifpfocaaDoorProg
namespace Go.Proofs
open Go.Shelf
def Tryd.lays156_ren : Go.Shelf.Ren := ⟨fun | 156 => 77 | 165 => 138 | 166 => 102 | 169 => 103 | 240 => 149 | 241 => 171 | 276 => 177 | 277 => 189 | n => n, fun | 31 => 26 | 9 => 9 | 3 => 3 | 4 => 4 | 0 => 0 | 20 => 20 | 72 => 110 | 76 => 114 | 70 => 108 | 37 => 102 | 75 => 112 | 127 => 166 | 164 => 189 | 5 => 5 | 80 => 28 | n => n, fun | n => n⟩
theorem Tryd.lays156 : Go.Proofs.Lays.n156 Tryd.prog Tryd.lays156_ren := {
  mixed := by kernel_rfl
  f156 := Tryd.func77.trans (congrArg some (by kernel_rfl))
  f165 := Tryd.func138.trans (congrArg some (by kernel_rfl))
  f166 := Tryd.func102.trans (congrArg some (by kernel_rfl))
  f169 := Tryd.func103.trans (congrArg some (by kernel_rfl))
  f240 := Tryd.func149.trans (congrArg some (by kernel_rfl))
  f241 := Tryd.func171.trans (congrArg some (by kernel_rfl))
  f276 := Tryd.func177.trans (congrArg some (by kernel_rfl))
  f277 := Tryd.func189.trans (congrArg some (by kernel_rfl))
  t0 := Tryd.underlying0
  a0 := Tryd.isAgg0
  z0 := Tryd.sizeOf0
  v0 := Tryd.zeroValue0
  t3 := Tryd.underlying3
  a3 := Tryd.isAgg3
  z3 := Tryd.sizeOf3
  v3 := Tryd.zeroValue3
  t4 := Tryd.underlying4
  a4 := Tryd.isAgg4
  z4 := Tryd.sizeOf4
  v4 := Tryd.zeroValue4
  t9 := Tryd.underlying9
  a9 := Tryd.isAgg9
  z9 := Tryd.sizeOf9
  v9 := Tryd.zeroValue9
  t20 := Tryd.underlying20
  a20 := Tryd.isAgg20
  z20 := Tryd.sizeOf20
  v20 := Tryd.zeroValue20
  t31 := Tryd.underlying26
  a31 := Tryd.isAgg26
  z31 := Tryd.sizeOf26
  v31 := Tryd.zeroValue26
  t37 := Tryd.underlying102
  a37 := Tryd.isAgg102
  z37 := Tryd.sizeOf102
  v37 := Tryd.zeroValue102
  t70 := Tryd.underlying108
  a70 := Tryd.isAgg108
  z70 := Tryd.sizeOf108
  v70 := Tryd.zeroValue108
  t72 := Tryd.underlying110
  a72 := Tryd.isAgg110
  z72 := Tryd.sizeOf110
  v72 := Tryd.zeroValue110
  t75 := Tryd.underlying112
  a75 := Tryd.isAgg112
  z75 := Tryd.sizeOf112
  v75 := Tryd.zeroValue112
  t76 := Tryd.underlying114
  a76 := Tryd.isAgg114
  z76 := Tryd.sizeOf114
  v76 := Tryd.zeroValue114
  t127 := Tryd.underlying166
  a127 := Tryd.isAgg166
  z127 := Tryd.sizeOf166
  v127 := Tryd.zeroValue166
  t164 := Tryd.underlying189
  a164 := Tryd.isAgg189
  z164 := Tryd.sizeOf189
  v164 := Tryd.zeroValue189 }
theorem Tryd.Builder_Extra_156 : Builder.Extra Tryd.prog Tryd.lays156_ren := {
  sizeBuilder := by kernel_rfl
  liesBuilder := by kernel_rfl
  t5 := Tryd.underlying5
  a5 := Tryd.isAgg5
  z5 := Tryd.sizeOf5
  v5 := Tryd.zeroValue5
  infoByte := by kernel_rfl
  cellsByte := by kernel_rfl
  sizeByte := by kernel_rfl
  neB5 := by decide }
open Go.RowKit in
theorem Tryd.strings_Join_none (a : Option Addr) (c : Nat) (sep : ByteArray) (w : World) :
    Calls Tryd.prog 77 #[.slice a 0 c, .string sep] w fun e w' => e = .returned (.string ⟨#[]⟩) ∧ w' = w := Any.strings_Join_none Tryd.lays156 Tryd.Builder_Extra_156 a c sep w
open Go.RowKit in
theorem Tryd.strings_Join (bk o c : Nat) (xs : List ByteArray) (sep : ByteArray) (w : World) (hcells : ∀ (j : Nat) x, xs[j]? = some x → w.cell? ⟨bk, o + j, none⟩ = some (.string x)) (hbk : bk < w.heap.size) (hN : xs.length ≤ 140737488355328) (hcap : xs.length ≤ c) (hlen : (Lib.join (xs.map (·.data.toList)) sep.data.toList).length ≤ 140737488355328) :
    Calls Tryd.prog 77 #[.slice (some ⟨bk, o, none⟩) xs.length c, .string sep] w fun e w' => e = .returned (.string ⟨(Lib.join (xs.map (·.data.toList)) sep.data.toList).toArray⟩) ∧ Below w.heap.size w w' := Any.strings_Join Tryd.lays156 Tryd.Builder_Extra_156 bk o c xs sep w hcells hbk hN hcap hlen
def Tryd.lays190_ren : Go.Shelf.Ren := ⟨fun | 190 => 178 | 125 => 173 | 258 => 203 | 128 => 198 | 129 => 199 | 302 => 211 | 303 => 212 | 304 => 213 | 305 => 214 | 306 => 215 | 307 => 216 | 308 => 217 | 309 => 218 | 310 => 219 | 333 => 222 | 329 => 207 | 330 => 208 | 334 => 223 | 335 => 224 | 336 => 225 | 344 => 230 | n => n, fun | 31 => 26 | 9 => 9 | 3 => 3 | 46 => 148 | 0 => 0 | 51 => 181 | 53 => 184 | 4 => 4 | 183 => 195 | 182 => 194 | 131 => 199 | 5 => 5 | 218 => 206 | 222 => 210 | 228 => 218 | 229 => 219 | n => n, fun | n => n⟩
theorem Tryd.lays190 : Go.Proofs.Lays.n190 Tryd.prog Tryd.lays190_ren := {
  mixed := by kernel_rfl
  f125 := Tryd.func173.trans (congrArg some (by kernel_rfl))
  f128 := Tryd.func198.trans (congrArg some (by kernel_rfl))
  f129 := Tryd.func199.trans (congrArg some (by kernel_rfl))
  f190 := Tryd.func178.trans (congrArg some (by kernel_rfl))
  f258 := Tryd.func203.trans (congrArg some (by kernel_rfl))
  f302 := Tryd.func211.trans (congrArg some (by kernel_rfl))
  f303 := Tryd.func212.trans (congrArg some (by kernel_rfl))
  f304 := Tryd.func213.trans (congrArg some (by kernel_rfl))
  f305 := Tryd.func214.trans (congrArg some (by kernel_rfl))
  f306 := Tryd.func215.trans (congrArg some (by kernel_rfl))
  f307 := Tryd.func216.trans (congrArg some (by kernel_rfl))
  f308 := Tryd.func217.trans (congrArg some (by kernel_rfl))
  f309 := Tryd.func218.trans (congrArg some (by kernel_rfl))
  f310 := Tryd.func219.trans (congrArg some (by kernel_rfl))
  f329 := Tryd.func207.trans (congrArg some (by kernel_rfl))
  f330 := Tryd.func208.trans (congrArg some (by kernel_rfl))
  f333 := Tryd.func222.trans (congrArg some (by kernel_rfl))
  f334 := Tryd.func223.trans (congrArg some (by kernel_rfl))
  f335 := Tryd.func224.trans (congrArg some (by kernel_rfl))
  f336 := Tryd.func225.trans (congrArg some (by kernel_rfl))
  f344 := Tryd.func230.trans (congrArg some (by kernel_rfl))
  t0 := Tryd.underlying0
  a0 := Tryd.isAgg0
  z0 := Tryd.sizeOf0
  v0 := Tryd.zeroValue0
  t3 := Tryd.underlying3
  a3 := Tryd.isAgg3
  z3 := Tryd.sizeOf3
  v3 := Tryd.zeroValue3
  t4 := Tryd.underlying4
  a4 := Tryd.isAgg4
  z4 := Tryd.sizeOf4
  v4 := Tryd.zeroValue4
  t5 := Tryd.underlying5
  a5 := Tryd.isAgg5
  z5 := Tryd.sizeOf5
  v5 := Tryd.zeroValue5
  t9 := Tryd.underlying9
  a9 := Tryd.isAgg9
  z9 := Tryd.sizeOf9
  v9 := Tryd.zeroValue9
  t31 := Tryd.underlying26
  a31 := Tryd.isAgg26
  z31 := Tryd.sizeOf26
  v31 := Tryd.zeroValue26
  t46 := Tryd.underlying148
  a46 := Tryd.isAgg148
  z46 := Tryd.sizeOf148
  v46 := Tryd.zeroValue148
  t51 := Tryd.underlying181
  a51 := Tryd.isAgg181
  z51 := Tryd.sizeOf181
  v51 := Tryd.zeroValue181
  t53 := Tryd.underlying184
  a53 := Tryd.isAgg184
  z53 := Tryd.sizeOf184
  v53 := Tryd.zeroValue184
  t131 := Tryd.underlying199
  a131 := Tryd.isAgg199
  z131 := Tryd.sizeOf199
  v131 := Tryd.zeroValue199
  t182 := Tryd.underlying194
  a182 := Tryd.isAgg194
  z182 := Tryd.sizeOf194
  v182 := Tryd.zeroValue194
  t183 := Tryd.underlying195
  a183 := Tryd.isAgg195
  z183 := Tryd.sizeOf195
  v183 := Tryd.zeroValue195
  t218 := Tryd.underlying206
  a218 := Tryd.isAgg206
  z218 := Tryd.sizeOf206
  v218 := Tryd.zeroValue206
  t222 := Tryd.underlying210
  a222 := Tryd.isAgg210
  z222 := Tryd.sizeOf210
  v222 := Tryd.zeroValue210
  t228 := Tryd.underlying218
  a228 := Tryd.isAgg218
  z228 := Tryd.sizeOf218
  v228 := Tryd.zeroValue218
  t229 := Tryd.underlying219
  a229 := Tryd.isAgg219
  z229 := Tryd.sizeOf219
  v229 := Tryd.zeroValue219 }
open Go.Sort Go.RowKit in
theorem Tryd.slices_Sort_string (blk off cap : Nat) (ss : List (List UInt8)) (w : World) (hH : Holds encStr w blk off ss.toArray) (hblk : blk < w.heap.size) (hsz : ss.length < 4611686018427387904) :
    Calls Tryd.prog 178 #[.slice (some ⟨blk, off, none⟩) ss.length cap] w fun e w' =>
      e = .returned (.tuple #[]) ∧ ∃ n os, w' = grow (putRow encStr (Sort.ahead w n) blk off (ss.mergeSort fun x y => decide (x ≤ y)).toArray) os := Any.slices_Sort_string Tryd.lays190 blk off cap ss w hH hblk hsz
def Tryd.lays146_ren : Go.Shelf.Ren := ⟨fun | 146 => 96 | 221 => 146 | 268 => 174 | 138 => 175 | 143 => 112 | 195 => 200 | 197 => 158 | 218 => 201 | 219 => 156 | 260 => 183 | 217 => 176 | 225 => 180 | 224 => 181 | 267 => 182 | 266 => 202 | 314 => 204 | n => n, fun | 9 => 9 | 31 => 26 | 3 => 3 | 4 => 4 | 0 => 0 | 105 => 171 | 21 => 21 | 5 => 5 | 46 => 148 | 119 => 154 | 139 => 157 | 138 => 156 | 146 => 182 | 51 => 181 | n => n, fun | 1 => 2 | 3 => 0 | 4 => 1 | n => n⟩
theorem Tryd.lays146 : Go.Proofs.Lays.n146 Tryd.prog Tryd.lays146_ren := {
  mixed := by kernel_rfl
  f138 := Tryd.func175.trans (congrArg some (by kernel_rfl))
  f143 := Tryd.func112.trans (congrArg some (by kernel_rfl))
  f146 := Tryd.func96.trans (congrArg some (by kernel_rfl))
  f195 := Tryd.func200.trans (congrArg some (by kernel_rfl))
  f197 := Tryd.func158.trans (congrArg some (by kernel_rfl))
  f217 := Tryd.func176.trans (congrArg some (by kernel_rfl))
  f218 := Tryd.func201.trans (congrArg some (by kernel_rfl))
  f219 := Tryd.func156.trans (congrArg some (by kernel_rfl))
  f221 := Tryd.func146.trans (congrArg some (by kernel_rfl))
  f224 := Tryd.func181.trans (congrArg some (by kernel_rfl))
  f225 := Tryd.func180.trans (congrArg some (by kernel_rfl))
  f260 := Tryd.func183.trans (congrArg some (by kernel_rfl))
  f266 := Tryd.func202.trans (congrArg some (by kernel_rfl))
  f267 := Tryd.func182.trans (congrArg some (by kernel_rfl))
  f268 := Tryd.func174.trans (congrArg some (by kernel_rfl))
  f314 := Tryd.func204.trans (congrArg some (by kernel_rfl))
  t0 := Tryd.underlying0
  a0 := Tryd.isAgg0
  z0 := Tryd.sizeOf0
  v0 := Tryd.zeroValue0
  t3 := Tryd.underlying3
  a3 := Tryd.isAgg3
  z3 := Tryd.sizeOf3
  v3 := Tryd.zeroValue3
  t4 := Tryd.underlying4
  a4 := Tryd.isAgg4
  z4 := Tryd.sizeOf4
  v4 := Tryd.zeroValue4
  t5 := Tryd.underlying5
  a5 := Tryd.isAgg5
  z5 := Tryd.sizeOf5
  v5 := Tryd.zeroValue5
  t9 := Tryd.underlying9
  a9 := Tryd.isAgg9
  z9 := Tryd.sizeOf9
  v9 := Tryd.zeroValue9
  t21 := Tryd.underlying21
  a21 := Tryd.isAgg21
  z21 := Tryd.sizeOf21
  v21 := Tryd.zeroValue21
  t31 := Tryd.underlying26
  a31 := Tryd.isAgg26
  z31 := Tryd.sizeOf26
  v31 := Tryd.zeroValue26
  t46 := Tryd.underlying148
  a46 := Tryd.isAgg148
  z46 := Tryd.sizeOf148
  v46 := Tryd.zeroValue148
  t51 := Tryd.underlying181
  a51 := Tryd.isAgg181
  z51 := Tryd.sizeOf181
  v51 := Tryd.zeroValue181
  t105 := Tryd.underlying171
  a105 := Tryd.isAgg171
  z105 := Tryd.sizeOf171
  v105 := Tryd.zeroValue171
  t119 := Tryd.underlying154
  a119 := Tryd.isAgg154
  z119 := Tryd.sizeOf154
  t138 := Tryd.underlying156
  a138 := Tryd.isAgg156
  z138 := Tryd.sizeOf156
  v138 := Tryd.zeroValue156
  t139 := Tryd.underlying157
  a139 := Tryd.isAgg157
  z139 := Tryd.sizeOf157
  v139 := Tryd.zeroValue157
  t146 := Tryd.underlying182
  a146 := Tryd.isAgg182
  z146 := Tryd.sizeOf182
  v146 := Tryd.zeroValue182
  g1 := by kernel_rfl
  g3 := by kernel_rfl
  g4 := by kernel_rfl }
open Go.RowKit Go.Lib in
theorem Tryd.strings_Split (s sep : ByteArray) (m : Int) (w : World) (hs : s.size < 4294967281) (hm : w.cell? ⟨2, 0, none⟩ = some (.int .i64 m)) (h1 : 1 ≤ sep.size) :
    Calls Tryd.prog 96 #[.string s, .string sep] w fun e w' =>
      e = .returned (.slice (some ⟨w.heap.size, 0, none⟩) (Lib.countB s sep + 1) (Lib.countB s sep + 1)) ∧ w' = w.alloc (.cells ((Lib.splitB sep 0 (Lib.countB s sep) s).map Value.string).toArray 9) := Any.strings_Split Tryd.lays146 (by kernel_rfl) s sep m w hs hm h1
def Tryd.laysNm216_ren : Go.Shelf.Ren := ⟨fun | 16 => 124 | n => n, fun | 24 => 26 | 9 => 9 | 4 => 4 | n => n, fun | n => n⟩
theorem Tryd.laysNm216 : Go.Proofs.Lays2.n16 Tryd.prog Tryd.laysNm216_ren := {
  mixed := by kernel_rfl
  f16 := Tryd.func124.trans (congrArg some (by kernel_rfl))
  t4 := Tryd.underlying4
  a4 := Tryd.isAgg4
  z4 := Tryd.sizeOf4
  v4 := Tryd.zeroValue4
  t9 := Tryd.underlying9
  a9 := Tryd.isAgg9
  z9 := Tryd.sizeOf9
  v9 := Tryd.zeroValue9
  t24 := Tryd.underlying26
  a24 := Tryd.isAgg26
  z24 := Tryd.sizeOf26
  v24 := Tryd.zeroValue26
  i9 := by kernel_rfl }
open Go.RowKit Go.Lib in
theorem Tryd.slices_Clone_string (b off n c : Nat) (zs : List ByteArray) (w : World) (hz : n ≤ zs.length) (hbig : n * 16 ≤ 140737488355328) (hc : ∀ j, j < zs.length → w.cell? ⟨b, off + j, none⟩ = some (.string (zs.getD j ByteArray.empty))) :
    Calls Tryd.prog 124 #[.slice (some ⟨b, off, none⟩) n c] w fun e w' => ∃ v', e = .returned v' ∧ w'.ownsRow w.heap.size 9 1 v' n ((zs.take n).map (Value.string)) ∧ v' ≠ .slice none 0 0 ∧ Below w.heap.size w w' := Any.slices_Clone_string Tryd.laysNm216 b off n c zs w hz hbig hc
open Go.RowKit Go.Lib in
theorem Tryd.slices_Clone_string_nil (n c : Nat) (w : World) :
    Calls Tryd.prog 124 #[.slice none n c] w fun e w' => e = .returned (.slice none 0 0) ∧ w' = w := Any.slices_Clone_string_nil Tryd.laysNm216 n c w
open Go.RowKit Go.Lib in
theorem Tryd.slices_Clone_string_zero (a : Addr) (c : Nat) (w : World) :
    Calls Tryd.prog 124 #[.slice (some a) 0 c] w fun e w' => ∃ v', e = .returned v' ∧ w'.ownsRow w.heap.size 9 1 v' 0 [] ∧ v' ≠ .slice none 0 0 ∧ Below w.heap.size w w' := Any.slices_Clone_string_zero Tryd.laysNm216 a c w
def Tryd.lays194_ren : Go.Shelf.Ren := ⟨fun | 194 => 179 | n => n, fun | 31 => 26 | 9 => 9 | 3 => 3 | 4 => 4 | 0 => 0 | n => n, fun | n => n⟩
theorem Tryd.lays194 : Go.Proofs.Lays.n194 Tryd.prog Tryd.lays194_ren := {
  mixed := by kernel_rfl
  f194 := Tryd.func179.trans (congrArg some (by kernel_rfl))
  t0 := Tryd.underlying0
  a0 := Tryd.isAgg0
  z0 := Tryd.sizeOf0
  v0 := Tryd.zeroValue0
  t3 := Tryd.underlying3
  a3 := Tryd.isAgg3
  z3 := Tryd.sizeOf3
  v3 := Tryd.zeroValue3
  t4 := Tryd.underlying4
  a4 := Tryd.isAgg4
  z4 := Tryd.sizeOf4
  v4 := Tryd.zeroValue4
  t9 := Tryd.underlying9
  a9 := Tryd.isAgg9
  z9 := Tryd.sizeOf9
  v9 := Tryd.zeroValue9
  t31 := Tryd.underlying26
  a31 := Tryd.isAgg26
  z31 := Tryd.sizeOf26
  v31 := Tryd.zeroValue26 }
open Go.RowKit Go.Lib Go.Sort in
theorem Tryd.slices_Compact_string (blk off cap : Nat) (zs : List (List UInt8)) (w : World) (hH : Holds encStr w blk off zs.toArray) (hsz : zs.length ≤ 9223372036854775807) (hcap : zs.length ≤ cap) :
    Calls Tryd.prog 179 #[.slice (some ⟨blk, off, none⟩) zs.length cap] w fun e w' => e = .returned (.slice (some ⟨blk, off, none⟩) (Lib.compact zs).length cap) ∧ ∃ q, w' = putRow encStr (Sort.ahead w q) blk off (Lib.compact zs ++ List.replicate (zs.length - (Lib.compact zs).length) []).toArray := Any.slices_Compact_string Tryd.lays194 blk off cap zs w hH hsz hcap
open Go.RowKit Go.Lib Go.Sort in
theorem Tryd.slices_Compact_string_empty (a : Option Addr) (cap : Nat) (w : World) :
    Calls Tryd.prog 179 #[.slice a 0 cap] w fun e w' => e = .returned (.slice a 0 cap) ∧ w' = w := Any.slices_Compact_string_empty Tryd.lays194 a cap w
open Go.RowKit Go.Sort in
theorem Tryd.slices_Sort_string_none (p : Option Addr) (cap : Nat) (w : World) :
    Calls Tryd.prog 178 #[.slice p 0 cap] w fun e w' => e = .returned (.tuple #[]) ∧ w' = w := Any.slices_Sort_string_none Tryd.lays190 p cap w
end Go.Proofs
