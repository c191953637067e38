/-
  DERIVED: THE SHELF's CONTRACTS AT THIS DUMP, IN PLAIN WORDS (tools/lay-plain.mjs out of 'YtbmochegfdljfaaShelfA.lean', which tools/lay-shelf.mjs wrote): THE SAME DECLARATIONS UNDER THE SAME NAMES: 'import', 'namespace', 'open', 'def', 'theorem' AND NOTHING ELSE: no command of the shelf's: FOR A HAND-IN. Each laying: the table of numbers ('.._ren') and one theorem, a field a fact of the dump's own or the kernel's comparison; each contract: ONE APPLICATION.
-/
import Derived.Shelf.Sort.Plain
import Derived.Shelf.Slices.CompactS
import Derived.Shelf.Slices.In.SortNone
import Derived.Test.YtbmochegfdljfaaProg
namespace Go.Proofs
open Go.Shelf
def Try.lays190_ren : Go.Shelf.Ren := ⟨fun | 190 => 55 | 125 => 84 | 258 => 83 | 128 => 105 | 129 => 106 | 302 => 96 | 303 => 97 | 304 => 98 | 305 => 99 | 306 => 100 | 307 => 101 | 308 => 102 | 309 => 103 | 310 => 104 | 333 => 122 | 329 => 123 | 330 => 124 | 334 => 125 | 335 => 126 | 336 => 127 | 344 => 133 | n => n, fun | 31 => 35 | 9 => 9 | 3 => 3 | 46 => 118 | 0 => 0 | 51 => 144 | 53 => 146 | 4 => 4 | 183 => 137 | 182 => 136 | 131 => 81 | 5 => 5 | 218 => 154 | 222 => 158 | 228 => 164 | 229 => 165 | n => n, fun | n => n⟩
theorem Try.lays190 : Go.Proofs.Lays.n190 Try.prog Try.lays190_ren := {
  mixed := by kernel_rfl
  f125 := Try.func84.trans (congrArg some (by kernel_rfl))
  f128 := Try.func105.trans (congrArg some (by kernel_rfl))
  f129 := Try.func106.trans (congrArg some (by kernel_rfl))
  f190 := Try.func55.trans (congrArg some (by kernel_rfl))
  f258 := Try.func83.trans (congrArg some (by kernel_rfl))
  f302 := Try.func96.trans (congrArg some (by kernel_rfl))
  f303 := Try.func97.trans (congrArg some (by kernel_rfl))
  f304 := Try.func98.trans (congrArg some (by kernel_rfl))
  f305 := Try.func99.trans (congrArg some (by kernel_rfl))
  f306 := Try.func100.trans (congrArg some (by kernel_rfl))
  f307 := Try.func101.trans (congrArg some (by kernel_rfl))
  f308 := Try.func102.trans (congrArg some (by kernel_rfl))
  f309 := Try.func103.trans (congrArg some (by kernel_rfl))
  f310 := Try.func104.trans (congrArg some (by kernel_rfl))
  f329 := Try.func123.trans (congrArg some (by kernel_rfl))
  f330 := Try.func124.trans (congrArg some (by kernel_rfl))
  f333 := Try.func122.trans (congrArg some (by kernel_rfl))
  f334 := Try.func125.trans (congrArg some (by kernel_rfl))
  f335 := Try.func126.trans (congrArg some (by kernel_rfl))
  f336 := Try.func127.trans (congrArg some (by kernel_rfl))
  f344 := Try.func133.trans (congrArg some (by kernel_rfl))
  t0 := Try.underlying0
  a0 := Try.isAgg0
  z0 := Try.sizeOf0
  v0 := Try.zeroValue0
  t3 := Try.underlying3
  a3 := Try.isAgg3
  z3 := Try.sizeOf3
  v3 := Try.zeroValue3
  t4 := Try.underlying4
  a4 := Try.isAgg4
  z4 := Try.sizeOf4
  v4 := Try.zeroValue4
  t5 := Try.underlying5
  a5 := Try.isAgg5
  z5 := Try.sizeOf5
  v5 := Try.zeroValue5
  t9 := Try.underlying9
  a9 := Try.isAgg9
  z9 := Try.sizeOf9
  v9 := Try.zeroValue9
  t31 := Try.underlying35
  a31 := Try.isAgg35
  z31 := Try.sizeOf35
  v31 := Try.zeroValue35
  t46 := Try.underlying118
  a46 := Try.isAgg118
  z46 := Try.sizeOf118
  v46 := Try.zeroValue118
  t51 := Try.underlying144
  a51 := Try.isAgg144
  z51 := Try.sizeOf144
  v51 := Try.zeroValue144
  t53 := Try.underlying146
  a53 := Try.isAgg146
  z53 := Try.sizeOf146
  v53 := Try.zeroValue146
  t131 := Try.underlying81
  a131 := Try.isAgg81
  z131 := Try.sizeOf81
  v131 := Try.zeroValue81
  t182 := Try.underlying136
  a182 := Try.isAgg136
  z182 := Try.sizeOf136
  v182 := Try.zeroValue136
  t183 := Try.underlying137
  a183 := Try.isAgg137
  z183 := Try.sizeOf137
  v183 := Try.zeroValue137
  t218 := Try.underlying154
  a218 := Try.isAgg154
  z218 := Try.sizeOf154
  v218 := Try.zeroValue154
  t222 := Try.underlying158
  a222 := Try.isAgg158
  z222 := Try.sizeOf158
  v222 := Try.zeroValue158
  t228 := Try.underlying164
  a228 := Try.isAgg164
  z228 := Try.sizeOf164
  v228 := Try.zeroValue164
  t229 := Try.underlying165
  a229 := Try.isAgg165
  z229 := Try.sizeOf165
  v229 := Try.zeroValue165 }
open Go.Sort Go.RowKit in
theorem Try.slices_Sort_string (blk off cap : Nat) (ss : List (List UInt8)) (w : World) (hH : Holds encStr w blk off ss.toArray) (hblk : blk < w.heap.size) (hsz : ss.length < 4611686018427387904) :
    Calls Try.prog 55 #[.slice (some ⟨blk, off, none⟩) ss.length cap] w fun e w' =>
      e = .returned (.tuple #[]) ∧ ∃ n os, w' = grow (putRow encStr (Sort.ahead w n) blk off (ss.mergeSort fun x y => decide (x ≤ y)).toArray) os := Any.slices_Sort_string Try.lays190 blk off cap ss w hH hblk hsz
def Try.lays194_ren : Go.Shelf.Ren := ⟨fun | 194 => 56 | n => n, fun | 31 => 35 | 9 => 9 | 3 => 3 | 4 => 4 | 0 => 0 | n => n, fun | n => n⟩
theorem Try.lays194 : Go.Proofs.Lays.n194 Try.prog Try.lays194_ren := {
  mixed := by kernel_rfl
  f194 := Try.func56.trans (congrArg some (by kernel_rfl))
  t0 := Try.underlying0
  a0 := Try.isAgg0
  z0 := Try.sizeOf0
  v0 := Try.zeroValue0
  t3 := Try.underlying3
  a3 := Try.isAgg3
  z3 := Try.sizeOf3
  v3 := Try.zeroValue3
  t4 := Try.underlying4
  a4 := Try.isAgg4
  z4 := Try.sizeOf4
  v4 := Try.zeroValue4
  t9 := Try.underlying9
  a9 := Try.isAgg9
  z9 := Try.sizeOf9
  v9 := Try.zeroValue9
  t31 := Try.underlying35
  a31 := Try.isAgg35
  z31 := Try.sizeOf35
  v31 := Try.zeroValue35 }
open Go.RowKit Go.Lib Go.Sort in
/-- slices.Compact at []string: "Compact replaces consecutive runs of equal elements with a single copy. This is like the uniq command found on Unix. Compact modifies the contents of the slice s and returns the modified slice, which may have a smaller length. Compact zeroes the elements between the new length and the original length. The result preserves the nilness of s.": IT RETURNS THE SLICE CUT TO 'Lib.compact zs'; ITS CELLS HOLD 'Lib.compact zs', THEN ZERO VALUES up to the old length; all else is as it was, but for the count of draws. IN THE WORDS OF slices.Sort's CONTRACT ('Holds', 'putRow'): so the everyday 'slices.Sort(xs); xs = slices.Compact(xs)' goes from the one contract to the other. It asks 'zs.length ≤ cap' (every slice's: the reslicing 's[:k]' looks at it). Length 0, nil: '.._empty'. (LAID: no walk: one application.) -/
theorem Try.slices_Compact_string (blk off cap : Nat) (zs : List (List UInt8)) (w : World) (hH : Holds encStr w blk off zs.toArray) (hsz : zs.length ≤ 9223372036854775807) (hcap : zs.length ≤ cap) :
    Calls Try.prog 56 #[.slice (some ⟨blk, off, none⟩) zs.length cap] w fun e w' => e = .returned (.slice (some ⟨blk, off, none⟩) (Lib.compact zs).length cap) ∧ ∃ q, w' = putRow encStr (Sort.ahead w q) blk off (Lib.compact zs ++ List.replicate (zs.length - (Lib.compact zs).length) []).toArray := Any.slices_Compact_string Try.lays194 blk off cap zs w hH hsz hcap
open Go.RowKit Go.Lib Go.Sort in
/-- The same at a slice of length 0, a nil one too: it comes back as it is. (LAID: no walk: one application.) -/
theorem Try.slices_Compact_string_empty (a : Option Addr) (cap : Nat) (w : World) :
    Calls Try.prog 56 #[.slice a 0 cap] w fun e w' => e = .returned (.slice a 0 cap) ∧ w' = w := Any.slices_Compact_string_empty Try.lays194 a cap w
open Go.RowKit Go.Sort in
/-- .. and plain. (LAID: no walk: one application.) -/
theorem Try.slices_Sort_string_none (p : Option Addr) (cap : Nat) (w : World) :
    Calls Try.prog 55 #[.slice p 0 cap] w fun e w' => e = .returned (.tuple #[]) ∧ w' = w := Any.slices_Sort_string_none Try.lays190 p cap w
end Go.Proofs
