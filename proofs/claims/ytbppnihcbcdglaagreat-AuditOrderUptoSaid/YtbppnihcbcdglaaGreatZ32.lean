/- slices.Sort of ints and strings: the library's contracts laid here. No condition. -/
import Derived.Ground.Names2Prog
import Derived.Shelf.Sort.Plain
import Derived.Shelf.Slices.In.SortNone
import Derived.Shelf.SlIter.Sorted
import Derived.Shelf.SlIter.Keys
import Derived.Ground.GgzProg
import Derived.Test.YtbppnihcbcdglaaGreatZ2
/- The layings of slices.Sort, slices.Sorted and maps.Keys at this seat (written by the kit's lay-plain; numbers of this seat). No condition. -/
namespace Go.Proofs
open Go.Shelf
def Tryz.lays189_ren : Go.Shelf.Ren := ⟨fun | 189 => 67 | 125 => 132 | 257 => 131 | 128 => 206 | 129 => 207 | 294 => 197 | 295 => 198 | 296 => 199 | 297 => 200 | 298 => 201 | 299 => 202 | 216 => 203 | 300 => 204 | 301 => 205 | 328 => 262 | 329 => 263 | 330 => 264 | 331 => 265 | 332 => 266 | 215 => 267 | 343 => 278 | n => n, fun | 28 => 57 | 3 => 3 | 46 => 156 | 0 => 0 | 51 => 256 | 53 => 184 | 4 => 4 | 183 => 299 | 182 => 298 | 131 => 70 | 5 => 5 | 9 => 9 | 218 => 354 | 222 => 272 | 228 => 367 | 229 => 339 | n => n, fun | n => n⟩
theorem Tryz.lays189 : Go.Proofs.Lays.n189 Tryz.prog Tryz.lays189_ren := {
  mixed := by kernel_rfl
  f125 := Tryz.func132.trans (congrArg some (by kernel_rfl))
  f128 := Tryz.func206.trans (congrArg some (by kernel_rfl))
  f129 := Tryz.func207.trans (congrArg some (by kernel_rfl))
  f189 := Tryz.func67.trans (congrArg some (by kernel_rfl))
  f215 := Tryz.func267.trans (congrArg some (by kernel_rfl))
  f216 := Tryz.func203.trans (congrArg some (by kernel_rfl))
  f257 := Tryz.func131.trans (congrArg some (by kernel_rfl))
  f294 := Tryz.func197.trans (congrArg some (by kernel_rfl))
  f295 := Tryz.func198.trans (congrArg some (by kernel_rfl))
  f296 := Tryz.func199.trans (congrArg some (by kernel_rfl))
  f297 := Tryz.func200.trans (congrArg some (by kernel_rfl))
  f298 := Tryz.func201.trans (congrArg some (by kernel_rfl))
  f299 := Tryz.func202.trans (congrArg some (by kernel_rfl))
  f300 := Tryz.func204.trans (congrArg some (by kernel_rfl))
  f301 := Tryz.func205.trans (congrArg some (by kernel_rfl))
  f328 := Tryz.func262.trans (congrArg some (by kernel_rfl))
  f329 := Tryz.func263.trans (congrArg some (by kernel_rfl))
  f330 := Tryz.func264.trans (congrArg some (by kernel_rfl))
  f331 := Tryz.func265.trans (congrArg some (by kernel_rfl))
  f332 := Tryz.func266.trans (congrArg some (by kernel_rfl))
  f343 := Tryz.func278.trans (congrArg some (by kernel_rfl))
  t0 := Tryz.underlying0
  a0 := Tryz.isAgg0
  z0 := Tryz.sizeOf0
  v0 := Tryz.zeroValue0
  t3 := Tryz.underlying3
  a3 := Tryz.isAgg3
  z3 := Tryz.sizeOf3
  v3 := Tryz.zeroValue3
  t4 := Tryz.underlying4
  a4 := Tryz.isAgg4
  z4 := Tryz.sizeOf4
  v4 := Tryz.zeroValue4
  t5 := Tryz.underlying5
  a5 := Tryz.isAgg5
  z5 := Tryz.sizeOf5
  v5 := Tryz.zeroValue5
  t9 := Tryz.underlying9
  a9 := Tryz.isAgg9
  z9 := Tryz.sizeOf9
  v9 := Tryz.zeroValue9
  t28 := Tryz.underlying57
  a28 := Tryz.isAgg57
  z28 := Tryz.sizeOf57
  v28 := Tryz.zeroValue57
  t46 := Tryz.underlying156
  a46 := Tryz.isAgg156
  z46 := Tryz.sizeOf156
  v46 := Tryz.zeroValue156
  t51 := Tryz.underlying256
  a51 := Tryz.isAgg256
  z51 := Tryz.sizeOf256
  v51 := Tryz.zeroValue256
  t53 := Tryz.underlying184
  a53 := Tryz.isAgg184
  z53 := Tryz.sizeOf184
  v53 := Tryz.zeroValue184
  t131 := Tryz.underlying70
  a131 := Tryz.isAgg70
  z131 := Tryz.sizeOf70
  v131 := Tryz.zeroValue70
  t182 := Tryz.underlying298
  a182 := Tryz.isAgg298
  z182 := Tryz.sizeOf298
  v182 := Tryz.zeroValue298
  t183 := Tryz.underlying299
  a183 := Tryz.isAgg299
  z183 := Tryz.sizeOf299
  v183 := Tryz.zeroValue299
  t218 := Tryz.underlying354
  a218 := Tryz.isAgg354
  z218 := Tryz.sizeOf354
  v218 := Tryz.zeroValue354
  t222 := Tryz.underlying272
  a222 := Tryz.isAgg272
  z222 := Tryz.sizeOf272
  v222 := Tryz.zeroValue272
  t228 := Tryz.underlying367
  a228 := Tryz.isAgg367
  z228 := Tryz.sizeOf367
  v228 := Tryz.zeroValue367
  t229 := Tryz.underlying339
  a229 := Tryz.isAgg339
  z229 := Tryz.sizeOf339
  v229 := Tryz.zeroValue339 }
def Tryz.lays190_ren : Go.Shelf.Ren := ⟨fun | 190 => 82 | 125 => 132 | 258 => 152 | 128 => 206 | 129 => 207 | 302 => 220 | 303 => 221 | 304 => 222 | 305 => 223 | 306 => 224 | 307 => 225 | 308 => 226 | 309 => 227 | 310 => 228 | 333 => 269 | 329 => 263 | 330 => 264 | 334 => 270 | 335 => 271 | 336 => 272 | 344 => 279 | n => n, fun | 31 => 48 | 9 => 9 | 3 => 3 | 46 => 156 | 0 => 0 | 51 => 256 | 53 => 184 | 4 => 4 | 183 => 299 | 182 => 298 | 131 => 70 | 5 => 5 | 218 => 354 | 222 => 272 | 228 => 367 | 229 => 339 | n => n, fun | n => n⟩
theorem Tryz.lays190 : Go.Proofs.Lays.n190 Tryz.prog Tryz.lays190_ren := {
  mixed := by kernel_rfl
  f125 := Tryz.func132.trans (congrArg some (by kernel_rfl))
  f128 := Tryz.func206.trans (congrArg some (by kernel_rfl))
  f129 := Tryz.func207.trans (congrArg some (by kernel_rfl))
  f190 := Tryz.func82.trans (congrArg some (by kernel_rfl))
  f258 := Tryz.func152.trans (congrArg some (by kernel_rfl))
  f302 := Tryz.func220.trans (congrArg some (by kernel_rfl))
  f303 := Tryz.func221.trans (congrArg some (by kernel_rfl))
  f304 := Tryz.func222.trans (congrArg some (by kernel_rfl))
  f305 := Tryz.func223.trans (congrArg some (by kernel_rfl))
  f306 := Tryz.func224.trans (congrArg some (by kernel_rfl))
  f307 := Tryz.func225.trans (congrArg some (by kernel_rfl))
  f308 := Tryz.func226.trans (congrArg some (by kernel_rfl))
  f309 := Tryz.func227.trans (congrArg some (by kernel_rfl))
  f310 := Tryz.func228.trans (congrArg some (by kernel_rfl))
  f329 := Tryz.func263.trans (congrArg some (by kernel_rfl))
  f330 := Tryz.func264.trans (congrArg some (by kernel_rfl))
  f333 := Tryz.func269.trans (congrArg some (by kernel_rfl))
  f334 := Tryz.func270.trans (congrArg some (by kernel_rfl))
  f335 := Tryz.func271.trans (congrArg some (by kernel_rfl))
  f336 := Tryz.func272.trans (congrArg some (by kernel_rfl))
  f344 := Tryz.func279.trans (congrArg some (by kernel_rfl))
  t0 := Tryz.underlying0
  a0 := Tryz.isAgg0
  z0 := Tryz.sizeOf0
  v0 := Tryz.zeroValue0
  t3 := Tryz.underlying3
  a3 := Tryz.isAgg3
  z3 := Tryz.sizeOf3
  v3 := Tryz.zeroValue3
  t4 := Tryz.underlying4
  a4 := Tryz.isAgg4
  z4 := Tryz.sizeOf4
  v4 := Tryz.zeroValue4
  t5 := Tryz.underlying5
  a5 := Tryz.isAgg5
  z5 := Tryz.sizeOf5
  v5 := Tryz.zeroValue5
  t9 := Tryz.underlying9
  a9 := Tryz.isAgg9
  z9 := Tryz.sizeOf9
  v9 := Tryz.zeroValue9
  t31 := Tryz.underlying48
  a31 := Tryz.isAgg48
  z31 := Tryz.sizeOf48
  v31 := Tryz.zeroValue48
  t46 := Tryz.underlying156
  a46 := Tryz.isAgg156
  z46 := Tryz.sizeOf156
  v46 := Tryz.zeroValue156
  t51 := Tryz.underlying256
  a51 := Tryz.isAgg256
  z51 := Tryz.sizeOf256
  v51 := Tryz.zeroValue256
  t53 := Tryz.underlying184
  a53 := Tryz.isAgg184
  z53 := Tryz.sizeOf184
  v53 := Tryz.zeroValue184
  t131 := Tryz.underlying70
  a131 := Tryz.isAgg70
  z131 := Tryz.sizeOf70
  v131 := Tryz.zeroValue70
  t182 := Tryz.underlying298
  a182 := Tryz.isAgg298
  z182 := Tryz.sizeOf298
  v182 := Tryz.zeroValue298
  t183 := Tryz.underlying299
  a183 := Tryz.isAgg299
  z183 := Tryz.sizeOf299
  v183 := Tryz.zeroValue299
  t218 := Tryz.underlying354
  a218 := Tryz.isAgg354
  z218 := Tryz.sizeOf354
  v218 := Tryz.zeroValue354
  t222 := Tryz.underlying272
  a222 := Tryz.isAgg272
  z222 := Tryz.sizeOf272
  v222 := Tryz.zeroValue272
  t228 := Tryz.underlying367
  a228 := Tryz.isAgg367
  z228 := Tryz.sizeOf367
  v228 := Tryz.zeroValue367
  t229 := Tryz.underlying339
  a229 := Tryz.isAgg339
  z229 := Tryz.sizeOf339
  v229 := Tryz.zeroValue339 }
def Tryz.keysA_ren : Go.Shelf.Ren := ⟨fun | 7 => 84 | 10 => 154 | n => n, fun | 23 => 118 | 26 => 9 | 3 => 27 | 28 => 143 | 0 => 0 | 27 => 142 | 33 => 136 | 4 => 4 | n => n, fun | n => n⟩
theorem Tryz.keysA : Go.Proofs.SlLaysZ.n7 Tryz.prog Tryz.keysA_ren := {
  mixed := by kernel_rfl
  f7 := ⟨Tryz.f84.name, by decide, Tryz.func84.trans (congrArg some (by kernel_rfl))⟩
  f10 := ⟨Tryz.f154.name, by decide, Tryz.func154.trans (congrArg some (by kernel_rfl))⟩
  t0 := Tryz.underlying0
  a0 := Tryz.isAgg0
  z0 := Tryz.sizeOf0
  v0 := Tryz.zeroValue0
  t4 := Tryz.underlying4
  a4 := Tryz.isAgg4
  z4 := Tryz.sizeOf4
  v4 := Tryz.zeroValue4
  t23 := Tryz.underlying118
  a23 := Tryz.isAgg118
  z23 := Tryz.sizeOf118
  v23 := Tryz.zeroValue118
  t26 := Tryz.underlying9
  a26 := Tryz.isAgg9
  z26 := Tryz.sizeOf9
  v26 := Tryz.zeroValue9
  t27 := Tryz.underlying142
  a27 := Tryz.isAgg142
  z27 := Tryz.sizeOf142
  v27 := Tryz.zeroValue142
  t28 := Tryz.underlying143
  a28 := Tryz.isAgg143
  z28 := Tryz.sizeOf143
  v28 := Tryz.zeroValue143
  t33 := Tryz.underlying136
  a33 := Tryz.isAgg136
  z33 := Tryz.sizeOf136
  v33 := Tryz.zeroValue136 }
def Tryz.sortedA_ren : Go.Shelf.Ren := ⟨fun | 6 => 83 | 8 => 153 | 9 => 82 | 11 => 229 | 13 => 132 | 12 => 152 | 23 => 206 | 24 => 207 | 14 => 220 | 15 => 221 | 16 => 222 | 17 => 223 | 18 => 224 | 19 => 225 | 20 => 226 | 21 => 227 | 22 => 228 | 25 => 269 | 26 => 263 | 27 => 264 | 28 => 270 | 29 => 271 | 30 => 272 | 31 => 279 | n => n, fun | 26 => 9 | 28 => 143 | 24 => 48 | 0 => 0 | 3 => 3 | 37 => 156 | 48 => 256 | 50 => 184 | 4 => 4 | 40 => 299 | 39 => 298 | 45 => 70 | 5 => 5 | 9 => 9 | 51 => 354 | 55 => 272 | 57 => 367 | 58 => 339 | 33 => 136 | n => n, fun | n => n⟩
theorem Tryz.sortedA : Go.Proofs.SlLaysZ.n6 Tryz.prog Tryz.sortedA_ren := {
  mixed := by kernel_rfl
  f6 := ⟨Tryz.f83.name, by decide, Tryz.func83.trans (congrArg some (by kernel_rfl))⟩
  f8 := ⟨Tryz.f153.name, by decide, Tryz.func153.trans (congrArg some (by kernel_rfl))⟩
  f11 := ⟨Tryz.f229.name, by decide, Tryz.func229.trans (congrArg some (by kernel_rfl))⟩
  t0 := Tryz.underlying0
  a0 := Tryz.isAgg0
  z0 := Tryz.sizeOf0
  v0 := Tryz.zeroValue0
  t24 := Tryz.underlying48
  a24 := Tryz.isAgg48
  z24 := Tryz.sizeOf48
  v24 := Tryz.zeroValue48
  t26 := Tryz.underlying9
  a26 := Tryz.isAgg9
  z26 := Tryz.sizeOf9
  v26 := Tryz.zeroValue9
  t28 := Tryz.underlying143
  a28 := Tryz.isAgg143
  z28 := Tryz.sizeOf143
  v28 := Tryz.zeroValue143
  i26 := by kernel_rfl }
end Go.Proofs
namespace Go.Proofs.YtbppnihcbcdglaaGreat
open Go.RowKit Go.Shelf
open Go.Sort
theorem sortInts_any (blk off cap : Nat) (zs : List Int) (w : World) (hH : Holds (Value.int .i64) w blk off zs.toArray) (hblk : blk < w.heap.size) (hsz : zs.length < 4611686018427387904) :
    Calls Tryz.prog 67 #[.slice (some ⟨blk, off, none⟩) zs.length cap] w fun e w' => e = .returned (.tuple #[]) ∧ ∃ n os, w' = grow (putRow (Value.int .i64) (Sort.ahead w n) blk off (zs.mergeSort fun x y => decide (x ≤ y)).toArray) os := Any.slices_Sort_int Tryz.lays189 blk off cap zs w hH hblk hsz
theorem sortInts_none (p : Option Addr) (cap : Nat) (w : World) : Calls Tryz.prog 67 #[.slice p 0 cap] w fun e w' => e = .returned (.tuple #[]) ∧ w' = w := Any.slices_Sort_int_none Tryz.lays189 p cap w
theorem sortStrings_any (blk off cap : Nat) (ss : List (List UInt8)) (w : World) (hH : Holds encStr w blk off ss.toArray) (hblk : blk < w.heap.size) (hsz : ss.length < 4611686018427387904) :
    Calls Tryz.prog 82 #[.slice (some ⟨blk, off, none⟩) ss.length cap] w fun e w' => e = .returned (.tuple #[]) ∧ ∃ n os, w' = grow (putRow encStr (Sort.ahead w n) blk off (ss.mergeSort fun x y => decide (x ≤ y)).toArray) os := Any.slices_Sort_string Tryz.lays190 blk off cap ss w hH hblk hsz
theorem sortStrings_none (p : Option Addr) (cap : Nat) (w : World) : Calls Tryz.prog 82 #[.slice p 0 cap] w fun e w' => e = .returned (.tuple #[]) ∧ w' = w := Any.slices_Sort_string_none Tryz.lays190 p cap w
end Go.Proofs.YtbppnihcbcdglaaGreat
