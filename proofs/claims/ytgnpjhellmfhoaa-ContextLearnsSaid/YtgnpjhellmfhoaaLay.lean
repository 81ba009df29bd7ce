/-
  DERIVED: THE SHELF's CONTRACTS AT THIS DUMP, IN PLAIN WORDS (tools/lay-plain.mjs out of 'YtgnpjhellmfhoaaLay0.lean', which tools/lay-shelf.mjs wrote): THE SAME DECLARATIONS UNDER THE SAME NAMES: 'import', 'namespace', 'open', 'def', 'theorem' AND NOTHING ELSE: no command of the shelf's: FOR A HAND-IN. Each laying: the table of numbers ('.._ren') and one theorem, a field a fact of the dump's own or the kernel's comparison; each contract: ONE APPLICATION.
-/
import Derived.Shelf.SlSortCmp.NoneTotal
import Derived.Shelf.Small.Bits
import Derived.Ground.SlsfProg
import Derived.Ground.NamesProg
import Derived.Test.YtgnpjhellmfhoaaProg
namespace Go.Proofs
open Go.Shelf
def Try.pdqL_ren : Go.Shelf.Ren := ⟨fun | 14 => 88 | 20 => 93 | 21 => 94 | 22 => 95 | 23 => 96 | 24 => 97 | 25 => 98 | 26 => 99 | 27 => 100 | 46 => 104 | 47 => 105 | 48 => 106 | 49 => 107 | 50 => 108 | 15 => 89 | 57 => 109 | 28 => 101 | 29 => 102 | n => n, fun | 24 => 125 | 22 => 120 | 3 => 3 | 25 => 142 | 4 => 4 | 0 => 0 | 46 => 162 | 45 => 161 | 50 => 51 | 66 => 172 | 39 => 157 | 55 => 170 | 70 => 176 | 76 => 178 | 77 => 179 | 53 => 168 | 5 => 5 | 9 => 9 | n => n, fun | n => n⟩
theorem Try.pdqL : Go.Proofs.SlLaysF0.n14 Try.prog Try.pdqL_ren := {
  mixed := by kernel_rfl
  f14 := ⟨Try.f88.name, by decide, Try.func88.trans (congrArg some (by kernel_rfl))⟩
  f15 := Try.func89.trans (congrArg some (by kernel_rfl))
  f20 := ⟨Try.f93.name, by decide, Try.func93.trans (congrArg some (by kernel_rfl))⟩
  f21 := ⟨Try.f94.name, by decide, Try.func94.trans (congrArg some (by kernel_rfl))⟩
  f22 := ⟨Try.f95.name, by decide, Try.func95.trans (congrArg some (by kernel_rfl))⟩
  f23 := ⟨Try.f96.name, by decide, Try.func96.trans (congrArg some (by kernel_rfl))⟩
  f24 := ⟨Try.f97.name, by decide, Try.func97.trans (congrArg some (by kernel_rfl))⟩
  f25 := ⟨Try.f98.name, by decide, Try.func98.trans (congrArg some (by kernel_rfl))⟩
  f26 := ⟨Try.f99.name, by decide, Try.func99.trans (congrArg some (by kernel_rfl))⟩
  f27 := ⟨Try.f100.name, by decide, Try.func100.trans (congrArg some (by kernel_rfl))⟩
  f28 := Try.func101.trans (congrArg some (by kernel_rfl))
  f29 := Try.func102.trans (congrArg some (by kernel_rfl))
  f46 := ⟨Try.f104.name, by decide, Try.func104.trans (congrArg some (by kernel_rfl))⟩
  f47 := Try.func105.trans (congrArg some (by kernel_rfl))
  f48 := Try.func106.trans (congrArg some (by kernel_rfl))
  f49 := ⟨Try.f107.name, by decide, Try.func107.trans (congrArg some (by kernel_rfl))⟩
  f50 := ⟨Try.f108.name, by decide, Try.func108.trans (congrArg some (by kernel_rfl))⟩
  f57 := ⟨Try.f109.name, by decide, Try.func109.trans (congrArg some (by kernel_rfl))⟩
  t0 := Try.underlying0
  a0 := Try.isAgg0
  z0 := Try.sizeOf0
  v0 := Try.zeroValue0
  t3 := Try.underlying3
  a3 := Try.isAgg3
  z3 := Try.sizeOf3
  v3 := Try.zeroValue3
  t4 := Try.underlying4
  a4 := Try.isAgg4
  z4 := Try.sizeOf4
  v4 := Try.zeroValue4
  t5 := Try.underlying5
  a5 := Try.isAgg5
  z5 := Try.sizeOf5
  v5 := Try.zeroValue5
  t9 := Try.underlying9
  a9 := Try.isAgg9
  z9 := Try.sizeOf9
  v9 := Try.zeroValue9
  t22 := Try.underlying120
  a22 := Try.isAgg120
  z22 := Try.sizeOf120
  v22 := Try.zeroValue120
  t25 := Try.underlying142
  a25 := Try.isAgg142
  z25 := Try.sizeOf142
  v25 := Try.zeroValue142
  t39 := Try.underlying157
  a39 := Try.isAgg157
  z39 := Try.sizeOf157
  v39 := Try.zeroValue157
  t45 := Try.underlying161
  a45 := Try.isAgg161
  z45 := Try.sizeOf161
  v45 := Try.zeroValue161
  t46 := Try.underlying162
  a46 := Try.isAgg162
  z46 := Try.sizeOf162
  v46 := Try.zeroValue162
  t50 := Try.underlying51
  a50 := Try.isAgg51
  z50 := Try.sizeOf51
  v50 := Try.zeroValue51
  t53 := Try.underlying168
  a53 := Try.isAgg168
  z53 := Try.sizeOf168
  v53 := Try.zeroValue168
  t55 := Try.underlying170
  a55 := Try.isAgg170
  z55 := Try.sizeOf170
  v55 := Try.zeroValue170
  t66 := Try.underlying172
  a66 := Try.isAgg172
  z66 := Try.sizeOf172
  v66 := Try.zeroValue172
  t70 := Try.underlying176
  a70 := Try.isAgg176
  z70 := Try.sizeOf176
  v70 := Try.zeroValue176
  t76 := Try.underlying178
  a76 := Try.isAgg178
  z76 := Try.sizeOf178
  v76 := Try.zeroValue178
  t77 := Try.underlying179
  a77 := Try.isAgg179
  z77 := Try.sizeOf179
  v77 := Try.zeroValue179 }
def Try.bitsL_ren : Go.Shelf.Ren := ⟨fun | 125 => 89 | 128 => 101 | 129 => 102 | n => n, fun | 46 => 157 | 3 => 3 | 51 => 168 | 53 => 170 | 4 => 4 | 5 => 5 | 9 => 9 | n => n, fun | n => n⟩
theorem Try.bitsL : Go.Proofs.Lays.n125 Try.prog Try.bitsL_ren := {
  mixed := by kernel_rfl
  f125 := Try.func89.trans (congrArg some (by kernel_rfl))
  f128 := Try.func101.trans (congrArg some (by kernel_rfl))
  f129 := Try.func102.trans (congrArg some (by kernel_rfl))
  t3 := Try.underlying3
  a3 := Try.isAgg3
  z3 := Try.sizeOf3
  v3 := Try.zeroValue3
  t4 := Try.underlying4
  a4 := Try.isAgg4
  z4 := Try.sizeOf4
  v4 := Try.zeroValue4
  t5 := Try.underlying5
  a5 := Try.isAgg5
  z5 := Try.sizeOf5
  v5 := Try.zeroValue5
  t9 := Try.underlying9
  a9 := Try.isAgg9
  z9 := Try.sizeOf9
  v9 := Try.zeroValue9
  t46 := Try.underlying157
  a46 := Try.isAgg157
  z46 := Try.sizeOf157
  v46 := Try.zeroValue157
  t51 := Try.underlying168
  a51 := Try.isAgg168
  z51 := Try.sizeOf168
  v51 := Try.zeroValue168
  t53 := Try.underlying170
  a53 := Try.isAgg170
  z53 := Try.sizeOf170
  v53 := Try.zeroValue170 }
end Go.Proofs
