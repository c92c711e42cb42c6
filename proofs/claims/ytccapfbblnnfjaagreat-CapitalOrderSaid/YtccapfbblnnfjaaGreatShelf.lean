/-
  DERIVED: THE SHELF's CONTRACTS AT THIS DUMP, IN PLAIN WORDS (tools/lay-plain.mjs out of 'TrySh38.lean', which tools/lay-shelf.mjs wrote): THE SAME DECLARATIONS UNDER THE SAME NAMES: 'import', 'namespace', 'open', 'def', 'theorem' AND NOTHING ELSE: no command of the shelf's: FOR A HAND-IN. Each laying: the table of numbers ('.._ren') and one theorem, a field a fact of the dump's own or the kernel's comparison; each contract: ONE APPLICATION.
-/
import Derived.Shelf.Sort.Plain
import Derived.Ground.NamesProg
import Derived.Test.YtccapfbblnnfjaaGreatProg
namespace Go.Proofs
open Go.Shelf
def Tryz.sortInt_ren : Go.Shelf.Ren := ⟨fun | 189 => 131 | 125 => 162 | 257 => 161 | 128 => 185 | 129 => 186 | 294 => 176 | 295 => 177 | 296 => 178 | 297 => 179 | 298 => 180 | 299 => 181 | 216 => 182 | 300 => 183 | 301 => 184 | 328 => 190 | 329 => 191 | 330 => 192 | 331 => 193 | 332 => 194 | 215 => 134 | 343 => 198 | n => n, fun | 28 => 55 | 3 => 3 | 46 => 218 | 0 => 0 | 51 => 182 | 53 => 181 | 4 => 4 | 183 => 226 | 182 => 225 | 131 => 109 | 5 => 5 | 9 => 9 | 218 => 236 | 222 => 240 | 228 => 244 | 229 => 245 | n => n, fun | n => n⟩
theorem Tryz.sortInt : Go.Proofs.Lays.n189 Tryz.prog Tryz.sortInt_ren := {
  mixed := by kernel_rfl
  f125 := Tryz.func162.trans (congrArg some (by kernel_rfl))
  f128 := Tryz.func185.trans (congrArg some (by kernel_rfl))
  f129 := Tryz.func186.trans (congrArg some (by kernel_rfl))
  f189 := Tryz.func131.trans (congrArg some (by kernel_rfl))
  f215 := Tryz.func134.trans (congrArg some (by kernel_rfl))
  f216 := Tryz.func182.trans (congrArg some (by kernel_rfl))
  f257 := Tryz.func161.trans (congrArg some (by kernel_rfl))
  f294 := Tryz.func176.trans (congrArg some (by kernel_rfl))
  f295 := Tryz.func177.trans (congrArg some (by kernel_rfl))
  f296 := Tryz.func178.trans (congrArg some (by kernel_rfl))
  f297 := Tryz.func179.trans (congrArg some (by kernel_rfl))
  f298 := Tryz.func180.trans (congrArg some (by kernel_rfl))
  f299 := Tryz.func181.trans (congrArg some (by kernel_rfl))
  f300 := Tryz.func183.trans (congrArg some (by kernel_rfl))
  f301 := Tryz.func184.trans (congrArg some (by kernel_rfl))
  f328 := Tryz.func190.trans (congrArg some (by kernel_rfl))
  f329 := Tryz.func191.trans (congrArg some (by kernel_rfl))
  f330 := Tryz.func192.trans (congrArg some (by kernel_rfl))
  f331 := Tryz.func193.trans (congrArg some (by kernel_rfl))
  f332 := Tryz.func194.trans (congrArg some (by kernel_rfl))
  f343 := Tryz.func198.trans (congrArg some (by kernel_rfl))
  t0 := Tryz.underlying0
  a0 := Tryz.isAgg0
  z0 := Tryz.sizeOf0
  v0 := Tryz.zeroValue0
  t3 := Tryz.underlying3
  a3 := Tryz.isAgg3
  z3 := Tryz.sizeOf3
  v3 := Tryz.zeroValue3
  t4 := Tryz.underlying4
  a4 := Tryz.isAgg4
  z4 := Tryz.sizeOf4
  v4 := Tryz.zeroValue4
  t5 := Tryz.underlying5
  a5 := Tryz.isAgg5
  z5 := Tryz.sizeOf5
  v5 := Tryz.zeroValue5
  t9 := Tryz.underlying9
  a9 := Tryz.isAgg9
  z9 := Tryz.sizeOf9
  v9 := Tryz.zeroValue9
  t28 := Tryz.underlying55
  a28 := Tryz.isAgg55
  z28 := Tryz.sizeOf55
  v28 := Tryz.zeroValue55
  t46 := Tryz.underlying218
  a46 := Tryz.isAgg218
  z46 := Tryz.sizeOf218
  v46 := Tryz.zeroValue218
  t51 := Tryz.underlying182
  a51 := Tryz.isAgg182
  z51 := Tryz.sizeOf182
  v51 := Tryz.zeroValue182
  t53 := Tryz.underlying181
  a53 := Tryz.isAgg181
  z53 := Tryz.sizeOf181
  v53 := Tryz.zeroValue181
  t131 := Tryz.underlying109
  a131 := Tryz.isAgg109
  z131 := Tryz.sizeOf109
  v131 := Tryz.zeroValue109
  t182 := Tryz.underlying225
  a182 := Tryz.isAgg225
  z182 := Tryz.sizeOf225
  v182 := Tryz.zeroValue225
  t183 := Tryz.underlying226
  a183 := Tryz.isAgg226
  z183 := Tryz.sizeOf226
  v183 := Tryz.zeroValue226
  t218 := Tryz.underlying236
  a218 := Tryz.isAgg236
  z218 := Tryz.sizeOf236
  v218 := Tryz.zeroValue236
  t222 := Tryz.underlying240
  a222 := Tryz.isAgg240
  z222 := Tryz.sizeOf240
  v222 := Tryz.zeroValue240
  t228 := Tryz.underlying244
  a228 := Tryz.isAgg244
  z228 := Tryz.sizeOf244
  v228 := Tryz.zeroValue244
  t229 := Tryz.underlying245
  a229 := Tryz.isAgg245
  z229 := Tryz.sizeOf245
  v229 := Tryz.zeroValue245 }
end Go.Proofs
