import Derived.Shelf.Strings.Builder1
import Derived.Shelf.Strings.Builder2
import Derived.Shelf.Strings.OnBuilder
import Derived.Shelf.Small.Strs
import Derived.Shelf.Strings.BuilderF
import Derived.Shelf.Strings.BuilderK
import Derived.Shelf.Strconv.Atoi
import Derived.Shelf.Strconv.Itoa0
import Derived.Shelf.Strconv.Itoa1
import Derived.Shelf.LaysM
import Derived.Shelf.Strconv.Itoa2
import Derived.Shelf.Strconv.Itoa3
import Derived.Shelf.Strings.Search1
import Derived.Test.YtniaooodlccmcaaGreatDoorProg
namespace Go.Proofs
open Go.Shelf
def Tryz.lays156_ren : Go.Shelf.Ren := ⟨fun | 156 => 59 | 165 => 66 | 166 => 67 | 169 => 68 | 240 => 74 | 241 => 75 | 276 => 80 | 277 => 81 | n => n, fun | 31 => 56 | 9 => 9 | 3 => 3 | 4 => 4 | 0 => 0 | 20 => 20 | 72 => 90 | 76 => 94 | 70 => 88 | 37 => 76 | 75 => 93 | 127 => 100 | 164 => 104 | 5 => 5 | 80 => 96 | n => n, fun | n => n⟩
theorem Tryz.lays156 : Go.Proofs.Lays.n156 Tryz.prog Tryz.lays156_ren := {
 mixed := by kernel_rfl
 f156 := Tryz.func59.trans (congrArg some (by kernel_rfl))
 f165 := Tryz.func66.trans (congrArg some (by kernel_rfl))
 f166 := Tryz.func67.trans (congrArg some (by kernel_rfl))
 f169 := Tryz.func68.trans (congrArg some (by kernel_rfl))
 f240 := Tryz.func74.trans (congrArg some (by kernel_rfl))
 f241 := Tryz.func75.trans (congrArg some (by kernel_rfl))
 f276 := Tryz.func80.trans (congrArg some (by kernel_rfl))
 f277 := Tryz.func81.trans (congrArg some (by kernel_rfl))
 t0 := Tryz.underlying0
 a0 := Tryz.isAgg0
 z0 := Tryz.sizeOf0
 v0 := Tryz.zeroValue0
 t3 := Tryz.underlying3
 a3 := Tryz.isAgg3
 z3 := Tryz.sizeOf3
 v3 := Tryz.zeroValue3
 t4 := Tryz.underlying4
 a4 := Tryz.isAgg4
 z4 := Tryz.sizeOf4
 v4 := Tryz.zeroValue4
 t9 := Tryz.underlying9
 a9 := Tryz.isAgg9
 z9 := Tryz.sizeOf9
 v9 := Tryz.zeroValue9
 t20 := Tryz.underlying20
 a20 := Tryz.isAgg20
 z20 := Tryz.sizeOf20
 v20 := Tryz.zeroValue20
 t31 := Tryz.underlying56
 a31 := Tryz.isAgg56
 z31 := Tryz.sizeOf56
 v31 := Tryz.zeroValue56
 t37 := Tryz.underlying76
 a37 := Tryz.isAgg76
 z37 := Tryz.sizeOf76
 v37 := Tryz.zeroValue76
 t70 := Tryz.underlying88
 a70 := Tryz.isAgg88
 z70 := Tryz.sizeOf88
 v70 := Tryz.zeroValue88
 t72 := Tryz.underlying90
 a72 := Tryz.isAgg90
 z72 := Tryz.sizeOf90
 v72 := Tryz.zeroValue90
 t75 := Tryz.underlying93
 a75 := Tryz.isAgg93
 z75 := Tryz.sizeOf93
 v75 := Tryz.zeroValue93
 t76 := Tryz.underlying94
 a76 := Tryz.isAgg94
 z76 := Tryz.sizeOf94
 v76 := Tryz.zeroValue94
 t127 := Tryz.underlying100
 a127 := Tryz.isAgg100
 z127 := Tryz.sizeOf100
 v127 := Tryz.zeroValue100
 t164 := Tryz.underlying104
 a164 := Tryz.isAgg104
 z164 := Tryz.sizeOf104
 v164 := Tryz.zeroValue104 }
theorem Tryz.Builder_Extra_156 : Builder.Extra Tryz.prog Tryz.lays156_ren := {
 sizeBuilder := by kernel_rfl
 liesBuilder := by kernel_rfl
 t5 := Tryz.underlying5
 a5 := Tryz.isAgg5
 z5 := Tryz.sizeOf5
 v5 := Tryz.zeroValue5
 infoByte := by kernel_rfl
 cellsByte := by kernel_rfl
 sizeByte := by kernel_rfl
 neB5 := by decide }
open Go.RowKit in
theorem Tryz.strings_Join_none (a : Option Addr) (c : Nat) (sep : ByteArray) (w : World) :
  Calls Tryz.prog 59 #[.slice a 0 c, .string sep] w fun e w' => e = .returned (.string ⟨#[]⟩) ∧ w' = w := Any.strings_Join_none Tryz.lays156 Tryz.Builder_Extra_156 a c sep w
open Go.RowKit in
theorem Tryz.strings_Join (bk o c : Nat) (xs : List ByteArray) (sep : ByteArray) (w : World) (hcells : ∀ (j : Nat) x, xs[j]? = some x → w.cell? ⟨bk, o + j, none⟩ = some (.string x)) (hbk : bk < w.heap.size) (hN : xs.length ≤ 140737488355328) (hcap : xs.length ≤ c) (hlen : (Lib.join (xs.map (·.data.toList)) sep.data.toList).length ≤ 140737488355328) :
  Calls Tryz.prog 59 #[.slice (some ⟨bk, o, none⟩) xs.length c, .string sep] w fun e w' => e = .returned (.string ⟨(Lib.join (xs.map (·.data.toList)) sep.data.toList).toArray⟩) ∧ Below w.heap.size w w' := Any.strings_Join Tryz.lays156 Tryz.Builder_Extra_156 bk o c xs sep w hcells hbk hN hcap hlen
def Tryz.lays137_ren : Go.Shelf.Ren := ⟨fun | 137 => 77 | 217 => 86 | 266 => 97 | n => n, fun | 9 => 9 | 5 => 5 | 3 => 3 | n => n, fun | n => n⟩
theorem Tryz.lays137 : Go.Proofs.Lays.n137 Tryz.prog Tryz.lays137_ren := {
 mixed := by kernel_rfl
 f137 := Tryz.func77.trans (congrArg some (by kernel_rfl))
 f217 := Tryz.func86.trans (congrArg some (by kernel_rfl))
 f266 := Tryz.func97.trans (congrArg some (by kernel_rfl))
 t3 := Tryz.underlying3
 a3 := Tryz.isAgg3
 z3 := Tryz.sizeOf3
 v3 := Tryz.zeroValue3
 t5 := Tryz.underlying5
 a5 := Tryz.isAgg5
 z5 := Tryz.sizeOf5
 v5 := Tryz.zeroValue5
 t9 := Tryz.underlying9
 a9 := Tryz.isAgg9
 z9 := Tryz.sizeOf9
 v9 := Tryz.zeroValue9 }
open Go.RowKit in
theorem Tryz.strings_IndexByte (s : ByteArray) (c : Int) (w : World) :
  Calls Tryz.prog 77 #[.string s, .int .u8 c] w fun e w' => e = .returned (.int .i64 (Lib.indexByte s.data.toList c.toNat.toUInt8)) ∧ w' = w := Any.strings_IndexByte Tryz.lays137 s c w
def Tryz.lays172_ren : Go.Shelf.Ren := ⟨fun | 172 => 72 | 244 => 78 | 245 => 79 | 247 => 87 | 279 => 88 | 280 => 89 | 281 => 90 | 282 => 91 | 287 => 98 | 316 => 99 | 171 => 61 | 205 => 100 | 321 => 103 | 322 => 104 | 243 => 69 | 246 => 76 | 283 => 82 | 284 => 83 | 285 => 84 | 286 => 85 | 129 => 93 | 317 => 92 | 318 => 94 | 319 => 95 | 320 => 96 | 337 => 101 | 338 => 102 | n => n, fun | 9 => 9 | 3 => 3 | 75 => 93 | 76 => 94 | 4 => 4 | 5 => 5 | 167 => 113 | 37 => 76 | 0 => 0 | 85 => 114 | 2 => 2 | 168 => 116 | 53 => 108 | 175 => 127 | 46 => 125 | 210 => 131 | 127 => 100 | 145 => 137 | 143 => 135 | 21 => 21 | 171 => 107 | 173 => 111 | 212 => 121 | 51 => 122 | 20 => 20 | 213 => 123 | 232 => 138 | 233 => 139 | 80 => 96 | n => n, fun | 15 => 2 | 16 => 3 | 17 => 1 | 18 => 4 | 19 => 5 | n => n⟩
theorem Tryz.lays172 : Go.Proofs.Lays.n172 Tryz.prog Tryz.lays172_ren := {
 mixed := by kernel_rfl
 f129 := Tryz.func93.trans (congrArg some (by kernel_rfl))
 f171 := Tryz.func61.trans (congrArg some (by kernel_rfl))
 f172 := Tryz.func72.trans (congrArg some (by kernel_rfl))
 f205 := Tryz.func100.trans (congrArg some (by kernel_rfl))
 f243 := Tryz.func69.trans (congrArg some (by kernel_rfl))
 f244 := Tryz.func78.trans (congrArg some (by kernel_rfl))
 f245 := Tryz.func79.trans (congrArg some (by kernel_rfl))
 f246 := Tryz.func76.trans (congrArg some (by kernel_rfl))
 f247 := Tryz.func87.trans (congrArg some (by kernel_rfl))
 f279 := Tryz.func88.trans (congrArg some (by kernel_rfl))
 f280 := Tryz.func89.trans (congrArg some (by kernel_rfl))
 f281 := Tryz.func90.trans (congrArg some (by kernel_rfl))
 f282 := Tryz.func91.trans (congrArg some (by kernel_rfl))
 f283 := Tryz.func82.trans (congrArg some (by kernel_rfl))
 f284 := Tryz.func83.trans (congrArg some (by kernel_rfl))
 f285 := Tryz.func84.trans (congrArg some (by kernel_rfl))
 f286 := Tryz.func85.trans (congrArg some (by kernel_rfl))
 f287 := Tryz.func98.trans (congrArg some (by kernel_rfl))
 f316 := Tryz.func99.trans (congrArg some (by kernel_rfl))
 f317 := Tryz.func92.trans (congrArg some (by kernel_rfl))
 f318 := Tryz.func94.trans (congrArg some (by kernel_rfl))
 f319 := Tryz.func95.trans (congrArg some (by kernel_rfl))
 f320 := Tryz.func96.trans (congrArg some (by kernel_rfl))
 f321 := Tryz.func103.trans (congrArg some (by kernel_rfl))
 f322 := Tryz.func104.trans (congrArg some (by kernel_rfl))
 f337 := Tryz.func101.trans (congrArg some (by kernel_rfl))
 f338 := Tryz.func102.trans (congrArg some (by kernel_rfl))
 t0 := Tryz.underlying0
 a0 := Tryz.isAgg0
 z0 := Tryz.sizeOf0
 v0 := Tryz.zeroValue0
 t2 := Tryz.underlying2
 a2 := Tryz.isAgg2
 z2 := Tryz.sizeOf2
 v2 := Tryz.zeroValue2
 t3 := Tryz.underlying3
 a3 := Tryz.isAgg3
 z3 := Tryz.sizeOf3
 v3 := Tryz.zeroValue3
 t4 := Tryz.underlying4
 a4 := Tryz.isAgg4
 z4 := Tryz.sizeOf4
 v4 := Tryz.zeroValue4
 t5 := Tryz.underlying5
 a5 := Tryz.isAgg5
 z5 := Tryz.sizeOf5
 v5 := Tryz.zeroValue5
 t9 := Tryz.underlying9
 a9 := Tryz.isAgg9
 z9 := Tryz.sizeOf9
 v9 := Tryz.zeroValue9
 t20 := Tryz.underlying20
 a20 := Tryz.isAgg20
 z20 := Tryz.sizeOf20
 v20 := Tryz.zeroValue20
 t21 := Tryz.underlying21
 a21 := Tryz.isAgg21
 z21 := Tryz.sizeOf21
 v21 := Tryz.zeroValue21
 t37 := Tryz.underlying76
 a37 := Tryz.isAgg76
 z37 := Tryz.sizeOf76
 v37 := Tryz.zeroValue76
 t46 := Tryz.underlying125
 a46 := Tryz.isAgg125
 z46 := Tryz.sizeOf125
 v46 := Tryz.zeroValue125
 t51 := Tryz.underlying122
 a51 := Tryz.isAgg122
 z51 := Tryz.sizeOf122
 v51 := Tryz.zeroValue122
 t53 := Tryz.underlying108
 a53 := Tryz.isAgg108
 z53 := Tryz.sizeOf108
 v53 := Tryz.zeroValue108
 t75 := Tryz.underlying93
 a75 := Tryz.isAgg93
 z75 := Tryz.sizeOf93
 v75 := Tryz.zeroValue93
 t76 := Tryz.underlying94
 a76 := Tryz.isAgg94
 z76 := Tryz.sizeOf94
 v76 := Tryz.zeroValue94
 t85 := Tryz.underlying114
 a85 := Tryz.isAgg114
 z85 := Tryz.sizeOf114
 v85 := Tryz.zeroValue114
 t127 := Tryz.underlying100
 a127 := Tryz.isAgg100
 z127 := Tryz.sizeOf100
 v127 := Tryz.zeroValue100
 t143 := Tryz.underlying135
 a143 := Tryz.isAgg135
 z143 := Tryz.sizeOf135
 v143 := Tryz.zeroValue135
 t145 := Tryz.underlying137
 a145 := Tryz.isAgg137
 z145 := Tryz.sizeOf137
 v145 := Tryz.zeroValue137
 t167 := Tryz.underlying113
 a167 := Tryz.isAgg113
 z167 := Tryz.sizeOf113
 v167 := Tryz.zeroValue113
 t168 := Tryz.underlying116
 a168 := Tryz.isAgg116
 z168 := Tryz.sizeOf116
 v168 := Tryz.zeroValue116
 t171 := Tryz.underlying107
 a171 := Tryz.isAgg107
 z171 := Tryz.sizeOf107
 v171 := Tryz.zeroValue107
 t173 := Tryz.underlying111
 a173 := Tryz.isAgg111
 z173 := Tryz.sizeOf111
 v173 := Tryz.zeroValue111
 t175 := Tryz.underlying127
 a175 := Tryz.isAgg127
 z175 := Tryz.sizeOf127
 v175 := Tryz.zeroValue127
 t210 := Tryz.underlying131
 a210 := Tryz.isAgg131
 z210 := Tryz.sizeOf131
 v210 := Tryz.zeroValue131
 t212 := Tryz.underlying121
 a212 := Tryz.isAgg121
 z212 := Tryz.sizeOf121
 v212 := Tryz.zeroValue121
 t213 := Tryz.underlying123
 a213 := Tryz.isAgg123
 z213 := Tryz.sizeOf123
 t232 := Tryz.underlying138
 a232 := Tryz.isAgg138
 z232 := Tryz.sizeOf138
 v232 := Tryz.zeroValue138
 t233 := Tryz.underlying139
 a233 := Tryz.isAgg139
 z233 := Tryz.sizeOf139
 v233 := Tryz.zeroValue139
 g15 := by kernel_rfl
 g16 := by kernel_rfl
 g17 := by kernel_rfl
 g18 := by kernel_rfl
 g19 := by kernel_rfl }
open Go.RowKit in
theorem Tryz.strconv_Atoi (s : ByteArray) (n : Int) (hl : s.size ≤ 18) (h : Lib.atoi s.data.toList = some n) (w : World) :
  Calls Tryz.prog 72 #[.string s] w fun e w' => e = .returned (.tuple #[.int .i64 n, .nilIface]) ∧ ∃ t, w' = Lib.bytesWorld w 5 t := Any.strconv_Atoi Tryz.lays172 s n hl h w
def Tryz.lays171_ren : Go.Shelf.Ren := ⟨fun | 171 => 61 | 243 => 69 | 246 => 76 | 283 => 82 | 284 => 83 | 285 => 84 | 286 => 85 | 129 => 93 | 317 => 92 | 318 => 94 | 319 => 95 | 320 => 96 | 337 => 101 | 338 => 102 | n => n, fun | 3 => 3 | 9 => 9 | 2 => 2 | 4 => 4 | 171 => 107 | 0 => 0 | 53 => 108 | 37 => 76 | 5 => 5 | 173 => 111 | 212 => 121 | 51 => 122 | 20 => 20 | 213 => 123 | 46 => 125 | 232 => 138 | 233 => 139 | n => n, fun | 17 => 1 | 18 => 4 | 19 => 5 | n => n⟩
theorem Tryz.lays171 : Go.Proofs.Lays.n171 Tryz.prog Tryz.lays171_ren := {
 mixed := by kernel_rfl
 f129 := Tryz.func93.trans (congrArg some (by kernel_rfl))
 f171 := Tryz.func61.trans (congrArg some (by kernel_rfl))
 f243 := Tryz.func69.trans (congrArg some (by kernel_rfl))
 f246 := Tryz.func76.trans (congrArg some (by kernel_rfl))
 f283 := Tryz.func82.trans (congrArg some (by kernel_rfl))
 f284 := Tryz.func83.trans (congrArg some (by kernel_rfl))
 f285 := Tryz.func84.trans (congrArg some (by kernel_rfl))
 f286 := Tryz.func85.trans (congrArg some (by kernel_rfl))
 f317 := Tryz.func92.trans (congrArg some (by kernel_rfl))
 f318 := Tryz.func94.trans (congrArg some (by kernel_rfl))
 f319 := Tryz.func95.trans (congrArg some (by kernel_rfl))
 f320 := Tryz.func96.trans (congrArg some (by kernel_rfl))
 f337 := Tryz.func101.trans (congrArg some (by kernel_rfl))
 f338 := Tryz.func102.trans (congrArg some (by kernel_rfl))
 t0 := Tryz.underlying0
 a0 := Tryz.isAgg0
 z0 := Tryz.sizeOf0
 v0 := Tryz.zeroValue0
 t2 := Tryz.underlying2
 a2 := Tryz.isAgg2
 z2 := Tryz.sizeOf2
 v2 := Tryz.zeroValue2
 t3 := Tryz.underlying3
 a3 := Tryz.isAgg3
 z3 := Tryz.sizeOf3
 v3 := Tryz.zeroValue3
 t4 := Tryz.underlying4
 a4 := Tryz.isAgg4
 z4 := Tryz.sizeOf4
 v4 := Tryz.zeroValue4
 t5 := Tryz.underlying5
 a5 := Tryz.isAgg5
 z5 := Tryz.sizeOf5
 v5 := Tryz.zeroValue5
 t9 := Tryz.underlying9
 a9 := Tryz.isAgg9
 z9 := Tryz.sizeOf9
 v9 := Tryz.zeroValue9
 t20 := Tryz.underlying20
 a20 := Tryz.isAgg20
 z20 := Tryz.sizeOf20
 v20 := Tryz.zeroValue20
 t37 := Tryz.underlying76
 a37 := Tryz.isAgg76
 z37 := Tryz.sizeOf76
 v37 := Tryz.zeroValue76
 t46 := Tryz.underlying125
 a46 := Tryz.isAgg125
 z46 := Tryz.sizeOf125
 v46 := Tryz.zeroValue125
 t51 := Tryz.underlying122
 a51 := Tryz.isAgg122
 z51 := Tryz.sizeOf122
 v51 := Tryz.zeroValue122
 t53 := Tryz.underlying108
 a53 := Tryz.isAgg108
 z53 := Tryz.sizeOf108
 v53 := Tryz.zeroValue108
 t171 := Tryz.underlying107
 a171 := Tryz.isAgg107
 z171 := Tryz.sizeOf107
 v171 := Tryz.zeroValue107
 t173 := Tryz.underlying111
 a173 := Tryz.isAgg111
 z173 := Tryz.sizeOf111
 v173 := Tryz.zeroValue111
 t212 := Tryz.underlying121
 a212 := Tryz.isAgg121
 z212 := Tryz.sizeOf121
 v212 := Tryz.zeroValue121
 t213 := Tryz.underlying123
 a213 := Tryz.isAgg123
 z213 := Tryz.sizeOf123
 t232 := Tryz.underlying138
 a232 := Tryz.isAgg138
 z232 := Tryz.sizeOf138
 v232 := Tryz.zeroValue138
 t233 := Tryz.underlying139
 a233 := Tryz.isAgg139
 z233 := Tryz.sizeOf139
 v233 := Tryz.zeroValue139
 g17 := by kernel_rfl
 g18 := by kernel_rfl
 g19 := by kernel_rfl }
open Go.RowKit Go.Sort Go.Lib in
theorem Tryz.strconv_Itoa_small (i : Nat) (hi : i < 100) (w : World) :
  Calls Tryz.prog 61 #[.int .i64 i] w fun e w' => e = .returned (.string ⟨(Lib.decDigits i).toArray⟩) ∧ w' = w := Any.strconv_Itoa_small Tryz.lays171 i hi w
end Go.Proofs

