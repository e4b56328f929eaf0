/-
  The contracts of Go's library at this translation, as the kit's tool lay-plain has written them (its remarks struck).
-/
import Derived.Shelf.Spec.BitsCarry
import Derived.Shelf.Small.Bits
import Derived.Shelf.Small.Wraps
import Derived.Shelf.Utf8.RuneCount
import Derived.Shelf.Strconv.Itoa0
import Derived.Shelf.Strconv.Itoa1
import Derived.Shelf.LaysM
import Derived.Shelf.Strconv.Itoa2
import Derived.Shelf.Strings.Search1
import Derived.Shelf.Strings.Search2
import Derived.Shelf.Strings.Search3
import Derived.Shelf.Strings.Count
import Derived.Shelf.Strings.Shaped
import Derived.Shelf.Sort.Plain
import Derived.Shelf.Strconv.AppendUint10
import Derived.Shelf.Strconv.AppendInt10
import Derived.Shelf.Strconv.AppendIntPublic10
import Derived.Shelf.Strings.Prefix
import Derived.Shelf.Strings.Split
import Derived.Shelf.Strings.SplitShaped
import Derived.Shelf.Unicode.Decode
import Derived.Shelf.Strings.RuneCount
import Derived.Shelf.Strings.Explode
import Derived.Shelf.Bits.Mul64
import Derived.Shelf.Unicode.DecodeSlow
import Derived.Shelf.Unicode.DecodeAny
import Derived.Ground.Names2Prog
import Derived.Shelf.Slices.CompactI
import Derived.Shelf.Slices.SearchI
import Derived.Shelf.Slices.Cells
import Derived.Shelf.Slices.In.SortNone
import Derived.Test.YtajmjkliblippaaGreatDoorProg
namespace Go.Proofs
open Go.Shelf
def Tryz.lays134_ren : Go.Shelf.Ren := ⟨fun | 134 => 163 | 129 => 118 | n => n, fun | 53 => 110 | 3 => 3 | 4 => 4 | 46 => 166 | 5 => 5 | 9 => 9 | n => n, fun | n => n⟩
open Go.RowKit in
open Go.RowKit in
open Go.RowKit in
open Go.RowKit in
def Tryz.lays129_ren : Go.Shelf.Ren := ⟨fun | 129 => 118 | n => n, fun | 53 => 110 | 3 => 3 | 4 => 4 | 46 => 166 | 5 => 5 | 9 => 9 | n => n, fun | n => n⟩
theorem Tryz.lays129 : Go.Proofs.Lays.n129 Tryz.prog Tryz.lays129_ren := {
 mixed := by kernel_rfl
 f129 := Tryz.func118.trans (congrArg some (by kernel_rfl))
 t3 := Tryz.underlying3
 a3 := Tryz.isAgg3
 z3 := Tryz.sizeOf3
 v3 := Tryz.zeroValue3
 t4 := Tryz.underlying4
 a4 := Tryz.isAgg4
 z4 := Tryz.sizeOf4
 v4 := Tryz.zeroValue4
 t5 := Tryz.underlying5
 a5 := Tryz.isAgg5
 z5 := Tryz.sizeOf5
 v5 := Tryz.zeroValue5
 t9 := Tryz.underlying9
 a9 := Tryz.isAgg9
 z9 := Tryz.sizeOf9
 v9 := Tryz.zeroValue9
 t46 := Tryz.underlying166
 a46 := Tryz.isAgg166
 z46 := Tryz.sizeOf166
 v46 := Tryz.zeroValue166
 t53 := Tryz.underlying110
 a53 := Tryz.isAgg110
 z53 := Tryz.sizeOf110
 v53 := Tryz.zeroValue110 }
theorem Tryz.bits_Len64 (x : Int) (w : World) (h0 : 0 ≤ x) (h1 : x ≤ 18446744073709551615) :
  Calls Tryz.prog 118 #[.int .u64 x] w fun e w' => e = .returned (.int .i64 (Lib.bitLen x.toNat)) ∧ w' = w := Any.bits_Len64 Tryz.lays129 x w h0 h1
open Go.Lib in
open Go.Lib in
open Go.Lib in
open Go.Lib in
open Go.RowKit Go.Sort Go.Lib in
open Go.RowKit Go.Lib in
open Go.RowKit Go.Lib in
open Go.RowKit Go.Lib in
open Go.RowKit Go.Lib in
def Tryz.lays219_ren : Go.Shelf.Ren := ⟨fun | 219 => 176 | 217 => 207 | 225 => 208 | 224 => 209 | 267 => 210 | 266 => 232 | 314 => 233 | n => n, fun | 9 => 9 | 3 => 3 | 4 => 4 | 5 => 5 | 46 => 166 | 146 => 229 | 51 => 207 | n => n, fun | 1 => 3 | n => n⟩
open Go.RowKit Go.Lib in
open Go.RowKit Go.Lib in
open Go.RowKit Go.Lib in
open Go.RowKit Go.Lib in
def Tryz.lays138_ren : Go.Shelf.Ren := ⟨fun | 138 => 128 | 195 => 173 | 218 => 175 | 143 => 129 | 219 => 176 | 217 => 207 | 225 => 208 | 224 => 209 | 267 => 210 | 266 => 232 | 314 => 233 | n => n, fun | 9 => 9 | 3 => 3 | 4 => 4 | 5 => 5 | 0 => 0 | 46 => 166 | 146 => 229 | 51 => 207 | n => n, fun | 1 => 3 | n => n⟩
open Go.RowKit Go.Lib in
open Go.RowKit Go.Lib in
open Go.RowKit Go.Lib in
open Go.RowKit Go.Lib in
def Tryz.laysM138_ren : Go.Shelf.Ren := ⟨fun | 138 => 128 | 195 => 173 | 218 => 175 | 143 => 129 | 219 => 176 | 217 => 207 | 225 => 208 | 224 => 209 | 267 => 210 | 266 => 232 | 314 => 233 | n => n, fun | 9 => 9 | 3 => 3 | 4 => 4 | 5 => 5 | 0 => 0 | 46 => 166 | 146 => 229 | 51 => 207 | n => n, fun | 1 => 3 | n => n⟩
theorem Tryz.laysM138 : Go.Proofs.LaysM.n138 Tryz.prog Tryz.laysM138_ren := {
 mixed := by kernel_rfl
 f138 := Tryz.func128.trans (congrArg some (by kernel_rfl))
 f143 := Tryz.func129.trans (congrArg some (by kernel_rfl))
 f195 := Tryz.func173.trans (congrArg some (by kernel_rfl))
 f217 := Tryz.func207.trans (congrArg some (by kernel_rfl))
 f218 := Tryz.func175.trans (congrArg some (by kernel_rfl))
 f219 := Tryz.func176.trans (congrArg some (by kernel_rfl))
 f224 := Tryz.func209.trans (congrArg some (by kernel_rfl))
 f225 := Tryz.func208.trans (congrArg some (by kernel_rfl))
 f266 := Tryz.func232.trans (congrArg some (by kernel_rfl))
 f267 := Tryz.func210.trans (congrArg some (by kernel_rfl))
 f314 := Tryz.func233.trans (congrArg some (by kernel_rfl))
 t0 := Tryz.underlying0
 a0 := Tryz.isAgg0
 z0 := Tryz.sizeOf0
 v0 := Tryz.zeroValue0
 t3 := Tryz.underlying3
 a3 := Tryz.isAgg3
 z3 := Tryz.sizeOf3
 v3 := Tryz.zeroValue3
 t4 := Tryz.underlying4
 a4 := Tryz.isAgg4
 z4 := Tryz.sizeOf4
 v4 := Tryz.zeroValue4
 t5 := Tryz.underlying5
 a5 := Tryz.isAgg5
 z5 := Tryz.sizeOf5
 v5 := Tryz.zeroValue5
 t9 := Tryz.underlying9
 a9 := Tryz.isAgg9
 z9 := Tryz.sizeOf9
 v9 := Tryz.zeroValue9
 t46 := Tryz.underlying166
 a46 := Tryz.isAgg166
 z46 := Tryz.sizeOf166
 v46 := Tryz.zeroValue166
 t51 := Tryz.underlying207
 a51 := Tryz.isAgg207
 z51 := Tryz.sizeOf207
 v51 := Tryz.zeroValue207
 t146 := Tryz.underlying229
 a146 := Tryz.isAgg229
 z146 := Tryz.sizeOf229
 v146 := Tryz.zeroValue229
 g1 := by kernel_rfl
 i0 := by kernel_rfl
 i3 := by kernel_rfl
 i4 := by kernel_rfl
 i5 := by kernel_rfl
 i9 := by kernel_rfl
 i46 := by kernel_rfl
 i51 := by kernel_rfl
 i146 := by kernel_rfl
 m1 := by kernel_rfl
 s1_3 := fun w h => Go.Proofs.cell_of_shapedOpen_int (zero := #[.int .i64 0]) (t := 3) h (of_decide_eq_true (by kernel_rfl)) (by kernel_rfl) rfl (by kernel_rfl) (by kernel_rfl) Tryz.underlying3 }
open Go.RowKit Go.Lib in
def Tryz.lays189_ren : Go.Shelf.Ren := ⟨fun | 189 => 134 | 125 => 179 | 257 => 178 | 128 => 220 | 129 => 118 | 294 => 211 | 295 => 212 | 296 => 213 | 297 => 214 | 298 => 215 | 299 => 216 | 216 => 217 | 300 => 218 | 301 => 219 | 328 => 234 | 329 => 235 | 330 => 236 | 331 => 237 | 332 => 238 | 215 => 239 | 343 => 249 | n => n, fun | 28 => 106 | 3 => 3 | 46 => 166 | 0 => 0 | 51 => 207 | 53 => 110 | 4 => 4 | 183 => 211 | 182 => 210 | 131 => 216 | 5 => 5 | 9 => 9 | 218 => 231 | 222 => 235 | 228 => 249 | 229 => 250 | n => n, fun | n => n⟩
theorem Tryz.lays189 : Go.Proofs.Lays.n189 Tryz.prog Tryz.lays189_ren := {
 mixed := by kernel_rfl
 f125 := Tryz.func179.trans (congrArg some (by kernel_rfl))
 f128 := Tryz.func220.trans (congrArg some (by kernel_rfl))
 f129 := Tryz.func118.trans (congrArg some (by kernel_rfl))
 f189 := Tryz.func134.trans (congrArg some (by kernel_rfl))
 f215 := Tryz.func239.trans (congrArg some (by kernel_rfl))
 f216 := Tryz.func217.trans (congrArg some (by kernel_rfl))
 f257 := Tryz.func178.trans (congrArg some (by kernel_rfl))
 f294 := Tryz.func211.trans (congrArg some (by kernel_rfl))
 f295 := Tryz.func212.trans (congrArg some (by kernel_rfl))
 f296 := Tryz.func213.trans (congrArg some (by kernel_rfl))
 f297 := Tryz.func214.trans (congrArg some (by kernel_rfl))
 f298 := Tryz.func215.trans (congrArg some (by kernel_rfl))
 f299 := Tryz.func216.trans (congrArg some (by kernel_rfl))
 f300 := Tryz.func218.trans (congrArg some (by kernel_rfl))
 f301 := Tryz.func219.trans (congrArg some (by kernel_rfl))
 f328 := Tryz.func234.trans (congrArg some (by kernel_rfl))
 f329 := Tryz.func235.trans (congrArg some (by kernel_rfl))
 f330 := Tryz.func236.trans (congrArg some (by kernel_rfl))
 f331 := Tryz.func237.trans (congrArg some (by kernel_rfl))
 f332 := Tryz.func238.trans (congrArg some (by kernel_rfl))
 f343 := Tryz.func249.trans (congrArg some (by kernel_rfl))
 t0 := Tryz.underlying0
 a0 := Tryz.isAgg0
 z0 := Tryz.sizeOf0
 v0 := Tryz.zeroValue0
 t3 := Tryz.underlying3
 a3 := Tryz.isAgg3
 z3 := Tryz.sizeOf3
 v3 := Tryz.zeroValue3
 t4 := Tryz.underlying4
 a4 := Tryz.isAgg4
 z4 := Tryz.sizeOf4
 v4 := Tryz.zeroValue4
 t5 := Tryz.underlying5
 a5 := Tryz.isAgg5
 z5 := Tryz.sizeOf5
 v5 := Tryz.zeroValue5
 t9 := Tryz.underlying9
 a9 := Tryz.isAgg9
 z9 := Tryz.sizeOf9
 v9 := Tryz.zeroValue9
 t28 := Tryz.underlying106
 a28 := Tryz.isAgg106
 z28 := Tryz.sizeOf106
 v28 := Tryz.zeroValue106
 t46 := Tryz.underlying166
 a46 := Tryz.isAgg166
 z46 := Tryz.sizeOf166
 v46 := Tryz.zeroValue166
 t51 := Tryz.underlying207
 a51 := Tryz.isAgg207
 z51 := Tryz.sizeOf207
 v51 := Tryz.zeroValue207
 t53 := Tryz.underlying110
 a53 := Tryz.isAgg110
 z53 := Tryz.sizeOf110
 v53 := Tryz.zeroValue110
 t131 := Tryz.underlying216
 a131 := Tryz.isAgg216
 z131 := Tryz.sizeOf216
 v131 := Tryz.zeroValue216
 t182 := Tryz.underlying210
 a182 := Tryz.isAgg210
 z182 := Tryz.sizeOf210
 v182 := Tryz.zeroValue210
 t183 := Tryz.underlying211
 a183 := Tryz.isAgg211
 z183 := Tryz.sizeOf211
 v183 := Tryz.zeroValue211
 t218 := Tryz.underlying231
 a218 := Tryz.isAgg231
 z218 := Tryz.sizeOf231
 v218 := Tryz.zeroValue231
 t222 := Tryz.underlying235
 a222 := Tryz.isAgg235
 z222 := Tryz.sizeOf235
 v222 := Tryz.zeroValue235
 t228 := Tryz.underlying249
 a228 := Tryz.isAgg249
 z228 := Tryz.sizeOf249
 v228 := Tryz.zeroValue249
 t229 := Tryz.underlying250
 a229 := Tryz.isAgg250
 z229 := Tryz.sizeOf250
 v229 := Tryz.zeroValue250 }
open Go.Sort Go.RowKit in
theorem Tryz.slices_Sort_int (blk off cap : Nat) (zs : List Int) (w : World) (hH : Holds (Value.int .i64) w blk off zs.toArray) (hblk : blk < w.heap.size) (hsz : zs.length < 4611686018427387904) :
  Calls Tryz.prog 134 #[.slice (some ⟨blk, off, none⟩) zs.length cap] w fun e w' =>
   e = .returned (.tuple #[]) ∧ ∃ n os, w' = grow (putRow (Value.int .i64) (Sort.ahead w n) blk off (zs.mergeSort fun x y => decide (x ≤ y)).toArray) os := Any.slices_Sort_int Tryz.lays189 blk off cap zs w hH hblk hsz
def Tryz.laysM288_ren : Go.Shelf.Ren := ⟨fun | 288 => 126 | 283 => 169 | 284 => 170 | 285 => 171 | 286 => 172 | 129 => 118 | 317 => 202 | 318 => 203 | 319 => 204 | 320 => 205 | 337 => 230 | 338 => 231 | n => n, fun | 37 => 80 | 53 => 110 | 3 => 3 | 4 => 4 | 9 => 9 | 171 => 181 | 0 => 0 | 173 => 183 | 212 => 206 | 51 => 207 | 5 => 5 | 20 => 20 | 213 => 208 | 46 => 166 | 232 => 247 | 233 => 248 | n => n, fun | 17 => 2 | 18 => 6 | 19 => 7 | n => n⟩
open Go.RowKit Go.Sort Go.Lib in
open Go.RowKit Go.Sort Go.Lib in
open Go.RowKit Go.Sort Go.Lib in
def Tryz.laysM249_ren : Go.Shelf.Ren := ⟨fun | 249 => 89 | 288 => 126 | 283 => 169 | 284 => 170 | 285 => 171 | 286 => 172 | 129 => 118 | 317 => 202 | 318 => 203 | 319 => 204 | 320 => 205 | 337 => 230 | 338 => 231 | n => n, fun | 37 => 80 | 2 => 2 | 3 => 3 | 53 => 110 | 4 => 4 | 9 => 9 | 171 => 181 | 0 => 0 | 173 => 183 | 212 => 206 | 51 => 207 | 5 => 5 | 20 => 20 | 213 => 208 | 46 => 166 | 232 => 247 | 233 => 248 | n => n, fun | 17 => 2 | 18 => 6 | 19 => 7 | n => n⟩
open Go.RowKit Go.Sort Go.Lib in
def Tryz.laysM176_ren : Go.Shelf.Ren := ⟨fun | 176 => 52 | 249 => 89 | 288 => 126 | 283 => 169 | 284 => 170 | 285 => 171 | 286 => 172 | 129 => 118 | 317 => 202 | 318 => 203 | 319 => 204 | 320 => 205 | 337 => 230 | 338 => 231 | n => n, fun | 37 => 80 | 2 => 2 | 3 => 3 | 53 => 110 | 4 => 4 | 9 => 9 | 171 => 181 | 0 => 0 | 173 => 183 | 212 => 206 | 51 => 207 | 5 => 5 | 20 => 20 | 213 => 208 | 46 => 166 | 232 => 247 | 233 => 248 | n => n, fun | 17 => 2 | 18 => 6 | 19 => 7 | n => n⟩
theorem Tryz.laysM176 : Go.Proofs.LaysM.n176 Tryz.prog Tryz.laysM176_ren := {
 mixed := by kernel_rfl
 f129 := Tryz.func118.trans (congrArg some (by kernel_rfl))
 f176 := Tryz.func52.trans (congrArg some (by kernel_rfl))
 f249 := Tryz.func89.trans (congrArg some (by kernel_rfl))
 f283 := Tryz.func169.trans (congrArg some (by kernel_rfl))
 f284 := Tryz.func170.trans (congrArg some (by kernel_rfl))
 f285 := Tryz.func171.trans (congrArg some (by kernel_rfl))
 f286 := Tryz.func172.trans (congrArg some (by kernel_rfl))
 f288 := Tryz.func126.trans (congrArg some (by kernel_rfl))
 f317 := Tryz.func202.trans (congrArg some (by kernel_rfl))
 f318 := Tryz.func203.trans (congrArg some (by kernel_rfl))
 f319 := Tryz.func204.trans (congrArg some (by kernel_rfl))
 f320 := Tryz.func205.trans (congrArg some (by kernel_rfl))
 f337 := Tryz.func230.trans (congrArg some (by kernel_rfl))
 f338 := Tryz.func231.trans (congrArg some (by kernel_rfl))
 t0 := Tryz.underlying0
 a0 := Tryz.isAgg0
 z0 := Tryz.sizeOf0
 v0 := Tryz.zeroValue0
 t2 := Tryz.underlying2
 a2 := Tryz.isAgg2
 z2 := Tryz.sizeOf2
 v2 := Tryz.zeroValue2
 t3 := Tryz.underlying3
 a3 := Tryz.isAgg3
 z3 := Tryz.sizeOf3
 v3 := Tryz.zeroValue3
 t4 := Tryz.underlying4
 a4 := Tryz.isAgg4
 z4 := Tryz.sizeOf4
 v4 := Tryz.zeroValue4
 t5 := Tryz.underlying5
 a5 := Tryz.isAgg5
 z5 := Tryz.sizeOf5
 v5 := Tryz.zeroValue5
 t9 := Tryz.underlying9
 a9 := Tryz.isAgg9
 z9 := Tryz.sizeOf9
 v9 := Tryz.zeroValue9
 t20 := Tryz.underlying20
 a20 := Tryz.isAgg20
 z20 := Tryz.sizeOf20
 v20 := Tryz.zeroValue20
 t37 := Tryz.underlying80
 a37 := Tryz.isAgg80
 z37 := Tryz.sizeOf80
 v37 := Tryz.zeroValue80
 t46 := Tryz.underlying166
 a46 := Tryz.isAgg166
 z46 := Tryz.sizeOf166
 v46 := Tryz.zeroValue166
 t51 := Tryz.underlying207
 a51 := Tryz.isAgg207
 z51 := Tryz.sizeOf207
 v51 := Tryz.zeroValue207
 t53 := Tryz.underlying110
 a53 := Tryz.isAgg110
 z53 := Tryz.sizeOf110
 v53 := Tryz.zeroValue110
 t171 := Tryz.underlying181
 a171 := Tryz.isAgg181
 z171 := Tryz.sizeOf181
 v171 := Tryz.zeroValue181
 t173 := Tryz.underlying183
 a173 := Tryz.isAgg183
 z173 := Tryz.sizeOf183
 v173 := Tryz.zeroValue183
 t212 := Tryz.underlying206
 a212 := Tryz.isAgg206
 z212 := Tryz.sizeOf206
 v212 := Tryz.zeroValue206
 t213 := Tryz.underlying208
 a213 := Tryz.isAgg208
 z213 := Tryz.sizeOf208
 t232 := Tryz.underlying247
 a232 := Tryz.isAgg247
 z232 := Tryz.sizeOf247
 v232 := Tryz.zeroValue247
 t233 := Tryz.underlying248
 a233 := Tryz.isAgg248
 z233 := Tryz.sizeOf248
 v233 := Tryz.zeroValue248
 g17 := by kernel_rfl
 g18 := by kernel_rfl
 g19 := by kernel_rfl
 i0 := by kernel_rfl
 i2 := by kernel_rfl
 i3 := by kernel_rfl
 i4 := by kernel_rfl
 i5 := by kernel_rfl
 i9 := by kernel_rfl
 i20 := by kernel_rfl
 i37 := by kernel_rfl
 i46 := by kernel_rfl
 i51 := by kernel_rfl
 i53 := by kernel_rfl
 i171 := by kernel_rfl
 i173 := by kernel_rfl
 i212 := by kernel_rfl
 i232 := by kernel_rfl
 i233 := by kernel_rfl
 m17 := by kernel_rfl
 m18 := by kernel_rfl
 m19 := by kernel_rfl }
open Go.RowKit Go.Sort Go.Lib in
theorem Tryz.strconv_AppendInt_10 (B n : Nat) (i : Int) (h0 : -9223372036854775808 ≤ i) (h1 : i ≤ 9223372036854775807) (sv : Value) (xs : List Value) (w : World) (hown : w.ownsRow B 5 1 sv n xs) (hBw : B ≤ w.heap.size) (hlim : n + 21 ≤ 140737488355328) (htab : Lib.TabBelow Tryz.prog B w "internal/strconv.uint64pow10" .u64 Lib.pow10Tab) :
  Calls Tryz.prog 52 #[sv, .int .i64 i, .int .i64 10] w fun e w' => ∃ v', e = .returned v' ∧ w'.ownsRow B 5 1 v' (n + (Lib.itoa i).length) (xs ++ Lib.byteCells (Lib.itoa i)) ∧ Below B w w' ∧ Lib.OthersKept 5 none w w' := Any.strconv_AppendInt_10 Tryz.laysM176 B n i h0 h1 sv xs w hown hBw hlim htab
open Go.RowKit Go.Lib in
open Go.RowKit Go.Lib in
open Go.RowKit Go.Lib in
open Go.RowKit Go.Lib in
open Go.RowKit Go.Lib in
open Go.RowKit Go.Lib in
open Go.RowKit Go.Lib in
open Go.RowKit Go.Lib in
open Go.RowKit Go.Lib in
open Go.RowKit Go.Lib in
def Tryz.lays264_ren : Go.Shelf.Ren := ⟨fun | 264 => 120 | n => n, fun | 53 => 110 | 46 => 166 | n => n, fun | n => n⟩
theorem Tryz.lays264 : Go.Proofs.Lays.n264 Tryz.prog Tryz.lays264_ren := {
 mixed := by kernel_rfl
 f264 := Tryz.func120.trans (congrArg some (by kernel_rfl))
 t46 := Tryz.underlying166
 a46 := Tryz.isAgg166
 z46 := Tryz.sizeOf166
 v46 := Tryz.zeroValue166
 t53 := Tryz.underlying110
 a53 := Tryz.isAgg110
 z53 := Tryz.sizeOf110
 v53 := Tryz.zeroValue110 }
open Go.RowKit Go.Lib in
theorem Tryz.bits_Mul64 (x y : Nat) (hx : x < 18446744073709551616) (hy : y < 18446744073709551616) (w : World) :
  Calls Tryz.prog 120 #[.int .u64 x, .int .u64 y] w fun e w' => e = .returned (.tuple #[.int .u64 ((x * y / 18446744073709551616 : Nat) : Int), .int .u64 ((x * y % 18446744073709551616 : Nat) : Int)]) ∧ w' = w := Any.bits_Mul64 Tryz.lays264 x y hx hy w
open Go.RowKit Go.Lib in
open Go.RowKit Go.Lib in
def Tryz.laysNm220_ren : Go.Shelf.Ren := ⟨fun | 20 => 135 | n => n, fun | 22 => 106 | 3 => 3 | 4 => 4 | 0 => 0 | n => n, fun | n => n⟩
theorem Tryz.laysNm220 : Go.Proofs.Lays2.n20 Tryz.prog Tryz.laysNm220_ren := {
 mixed := by kernel_rfl
 f20 := Tryz.func135.trans (congrArg some (by kernel_rfl))
 t0 := Tryz.underlying0
 a0 := Tryz.isAgg0
 z0 := Tryz.sizeOf0
 v0 := Tryz.zeroValue0
 t3 := Tryz.underlying3
 a3 := Tryz.isAgg3
 z3 := Tryz.sizeOf3
 v3 := Tryz.zeroValue3
 t4 := Tryz.underlying4
 a4 := Tryz.isAgg4
 z4 := Tryz.sizeOf4
 v4 := Tryz.zeroValue4
 t22 := Tryz.underlying106
 a22 := Tryz.isAgg106
 z22 := Tryz.sizeOf106
 v22 := Tryz.zeroValue106
 i3 := by kernel_rfl }
open Go.RowKit Go.Lib Go.Sort in
open Go.RowKit Go.Lib Go.Sort in
theorem Tryz.slices_Compact_int (blk off cap : Nat) (zs : List Int) (w : World) (hH : Holds (Value.int .i64) w blk off zs.toArray) (hsz : zs.length ≤ 9223372036854775807) (hcap : zs.length ≤ cap) :
  Calls Tryz.prog 135 #[.slice (some ⟨blk, off, none⟩) zs.length cap] w fun e w' => e = .returned (.slice (some ⟨blk, off, none⟩) (Lib.compact zs).length cap) ∧ ∃ q, w' = putRow (Value.int .i64) (Sort.ahead w q) blk off (Lib.compact zs ++ List.replicate (zs.length - (Lib.compact zs).length) 0).toArray := Any.slices_Compact_int Tryz.laysNm220 blk off cap zs w hH hsz hcap
open Go.RowKit Go.Lib Go.Sort in
theorem Tryz.slices_Compact_int_empty (a : Option Addr) (cap : Nat) (w : World) :
  Calls Tryz.prog 135 #[.slice a 0 cap] w fun e w' => e = .returned (.slice a 0 cap) ∧ w' = w := Any.slices_Compact_int_empty Tryz.laysNm220 a cap w
open Go.RowKit Go.Lib in
open Go.RowKit Go.Lib in
open Go.RowKit Go.Lib Go.Sort in
open Go.RowKit Go.Sort in
theorem Tryz.slices_Sort_int_none (p : Option Addr) (cap : Nat) (w : World) :
  Calls Tryz.prog 134 #[.slice p 0 cap] w fun e w' => e = .returned (.tuple #[]) ∧ w' = w := Any.slices_Sort_int_none Tryz.lays189 p cap w
def Tryz.lays7n25_ren : Go.Shelf.Ren := ⟨fun | 25 => 223 | n => n, fun | 22 => 110 | n => n, fun | n => n⟩
theorem Tryz.lays7n25 : Go.Proofs.Lays7.n25 Tryz.prog Tryz.lays7n25_ren := {
 mixed := by kernel_rfl
 f25 := Tryz.func223.trans (congrArg some (by kernel_rfl))
 t22 := Tryz.underlying110
 a22 := Tryz.isAgg110
 z22 := Tryz.sizeOf110
 v22 := Tryz.zeroValue110
 i22 := by kernel_rfl }
theorem Tryz.bits_Add64 (x y c : Nat) (hc : c ≤ 1) (w : World) :
  (callFunc 223 #[.int .u64 x, .int .u64 y, .int .u64 c]).run Tryz.prog w =
   .ok (.value (.tuple #[.int .u64 (((x + y + c) % 18446744073709551616 : Nat) : Int), .int .u64 (((x + y + c) / 18446744073709551616 : Nat) : Int)])) w := Any7.bits_Add64 Tryz.lays7n25 x y c hc w
def Tryz.lays7n26_ren : Go.Shelf.Ren := ⟨fun | 26 => 221 | n => n, fun | 22 => 110 | n => n, fun | n => n⟩
theorem Tryz.lays7n26 : Go.Proofs.Lays7.n26 Tryz.prog Tryz.lays7n26_ren := {
 mixed := by kernel_rfl
 f26 := Tryz.func221.trans (congrArg some (by kernel_rfl))
 t22 := Tryz.underlying110
 a22 := Tryz.isAgg110
 z22 := Tryz.sizeOf110
 v22 := Tryz.zeroValue110
 i22 := by kernel_rfl }
theorem Tryz.bits_Sub64 (x y b : Nat) (hb : b ≤ 1) (w : World) :
  (callFunc 221 #[.int .u64 x, .int .u64 y, .int .u64 b]).run Tryz.prog w =
   .ok (.value (.tuple #[.int .u64 (((x + 18446744073709551616 - y - b) % 18446744073709551616 : Nat) : Int), .int .u64 ((if x < y + b then 1 else 0 : Nat) : Int)])) w := Any7.bits_Sub64 Tryz.lays7n26 x y b hb w
end Go.Proofs
