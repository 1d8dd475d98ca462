/- What is proved here is used by the law's card: Shelf, Lib, RowParses, FtmplOperator, Spec, Reader, Stop, ProgUtf, ProgUtf2, Fine, FtmplMay, FspecPut, Put, Expr, Part, Parse, ProgVar, ProgParse, ProgPut, Few. -/
import Derived.Test.YtkipkbggnfllkaaGreatDoorCt3
import Derived.Shelf.Strconv.AtoiAll
import Derived.Shelf.Strings.Builder1
import Derived.Shelf.Small.Strs
import Derived.Shelf.Strconv.Itoa3
import Derived.Shelf.Strings.Search1
import Derived.Test.YtkipkbggnfllkaaGreatDoorProg
import Derived.Lib.AppendIntMem
import Derived.Test.YtkipkbggnfllkaaGreatDoorCards
import Derived.Test.YtkipkbggnfllkaaGreatDoorTie
import Derived.WalkKit
import Derived.ProofKit
import Derived.Handy
import Derived.Lay
import Derived.SevenTiedAt
import Derived.Lib.LaidTab
import Derived.Stop.LaidErr
import Derived.WalkSmall
import Derived.Lib.DecodeN
import Derived.Deep.RegionLaw
import Derived.RegionDies
import Derived.Defers
import Derived.Recover
import Derived.Tactics2
import Derived.Laws.Pointers
section
namespace Go.Proofs
open Go.Shelf
def Tryz.laysAtoi_ren : Go.Shelf.Ren := ⟨fun | 172 => 110 | 244 => 122 | 245 => 123 | 247 => 128 | 279 => 129 | 280 => 130 | 281 => 131 | 282 => 132 | 287 => 133 | 316 => 134 | 171 => 49 | 205 => 135 | 321 => 136 | 322 => 137 | 243 => 68 | 246 => 88 | 283 => 105 | 284 => 106 | 285 => 107 | 286 => 108 | 129 => 118 | 317 => 117 | 318 => 119 | 319 => 120 | 320 => 121 | 337 => 126 | 338 => 127 | n => n, fun | 9 => 9 | 3 => 3 | 75 => 62 | 76 => 63 | 4 => 4 | 5 => 5 | 167 => 144 | 37 => 58 | 0 => 0 | 85 => 145 | 2 => 2 | 168 => 147 | 53 => 82 | 175 => 152 | 46 => 140 | 210 => 156 | 127 => 79 | 145 => 161 | 143 => 159 | 21 => 21 | 171 => 125 | 173 => 128 | 212 => 137 | 51 => 138 | 20 => 20 | 213 => 139 | 232 => 150 | 233 => 151 | 80 => 51 | n => n, fun | 15 => 4 | 16 => 5 | 17 => 1 | 18 => 2 | 19 => 3 | n => n⟩
theorem Tryz.laysAtoi : Go.Proofs.LaysC.n172 Tryz.prog Tryz.laysAtoi_ren := {
 mixed := by kernel_rfl
 f129 := Tryz.func118.trans (congrArg some (by kernel_rfl))
 f171 := Tryz.func49.trans (congrArg some (by kernel_rfl))
 f172 := Tryz.func110.trans (congrArg some (by kernel_rfl))
 f205 := Tryz.func135.trans (congrArg some (by kernel_rfl))
 f243 := Tryz.func68.trans (congrArg some (by kernel_rfl))
 f244 := Tryz.func122.trans (congrArg some (by kernel_rfl))
 f245 := Tryz.func123.trans (congrArg some (by kernel_rfl))
 f246 := Tryz.func88.trans (congrArg some (by kernel_rfl))
 f247 := Tryz.func128.trans (congrArg some (by kernel_rfl))
 f279 := Tryz.func129.trans (congrArg some (by kernel_rfl))
 f280 := Tryz.func130.trans (congrArg some (by kernel_rfl))
 f281 := Tryz.func131.trans (congrArg some (by kernel_rfl))
 f282 := Tryz.func132.trans (congrArg some (by kernel_rfl))
 f283 := Tryz.func105.trans (congrArg some (by kernel_rfl))
 f284 := Tryz.func106.trans (congrArg some (by kernel_rfl))
 f285 := Tryz.func107.trans (congrArg some (by kernel_rfl))
 f286 := Tryz.func108.trans (congrArg some (by kernel_rfl))
 f287 := Tryz.func133.trans (congrArg some (by kernel_rfl))
 f316 := Tryz.func134.trans (congrArg some (by kernel_rfl))
 f317 := Tryz.func117.trans (congrArg some (by kernel_rfl))
 f318 := Tryz.func119.trans (congrArg some (by kernel_rfl))
 f319 := Tryz.func120.trans (congrArg some (by kernel_rfl))
 f320 := Tryz.func121.trans (congrArg some (by kernel_rfl))
 f321 := Tryz.func136.trans (congrArg some (by kernel_rfl))
 f322 := Tryz.func137.trans (congrArg some (by kernel_rfl))
 f337 := Tryz.func126.trans (congrArg some (by kernel_rfl))
 f338 := Tryz.func127.trans (congrArg some (by kernel_rfl))
 t0 := Tryz.underlying0
 a0 := Tryz.isAgg0
 z0 := Tryz.sizeOf0
 v0 := Tryz.zeroValue0
 t2 := Tryz.underlying2
 a2 := Tryz.isAgg2
 z2 := Tryz.sizeOf2
 v2 := Tryz.zeroValue2
 t3 := Tryz.underlying3
 a3 := Tryz.isAgg3
 z3 := Tryz.sizeOf3
 v3 := Tryz.zeroValue3
 t4 := Tryz.underlying4
 a4 := Tryz.isAgg4
 z4 := Tryz.sizeOf4
 v4 := Tryz.zeroValue4
 t5 := Tryz.underlying5
 a5 := Tryz.isAgg5
 z5 := Tryz.sizeOf5
 v5 := Tryz.zeroValue5
 t9 := Tryz.underlying9
 a9 := Tryz.isAgg9
 z9 := Tryz.sizeOf9
 v9 := Tryz.zeroValue9
 t20 := Tryz.underlying20
 a20 := Tryz.isAgg20
 z20 := Tryz.sizeOf20
 v20 := Tryz.zeroValue20
 t21 := Tryz.underlying21
 a21 := Tryz.isAgg21
 z21 := Tryz.sizeOf21
 v21 := Tryz.zeroValue21
 t37 := Tryz.underlying58
 a37 := Tryz.isAgg58
 z37 := Tryz.sizeOf58
 v37 := Tryz.zeroValue58
 t46 := Tryz.underlying140
 a46 := Tryz.isAgg140
 z46 := Tryz.sizeOf140
 v46 := Tryz.zeroValue140
 t51 := Tryz.underlying138
 a51 := Tryz.isAgg138
 z51 := Tryz.sizeOf138
 v51 := Tryz.zeroValue138
 t53 := Tryz.underlying82
 a53 := Tryz.isAgg82
 z53 := Tryz.sizeOf82
 v53 := Tryz.zeroValue82
 t75 := Tryz.underlying62
 a75 := Tryz.isAgg62
 z75 := Tryz.sizeOf62
 v75 := Tryz.zeroValue62
 t76 := Tryz.underlying63
 a76 := Tryz.isAgg63
 z76 := Tryz.sizeOf63
 v76 := Tryz.zeroValue63
 t85 := Tryz.underlying145
 a85 := Tryz.isAgg145
 z85 := Tryz.sizeOf145
 v85 := Tryz.zeroValue145
 t127 := Tryz.underlying79
 a127 := Tryz.isAgg79
 z127 := Tryz.sizeOf79
 v127 := Tryz.zeroValue79
 t143 := Tryz.underlying159
 a143 := Tryz.isAgg159
 z143 := Tryz.sizeOf159
 v143 := Tryz.zeroValue159
 t145 := Tryz.underlying161
 a145 := Tryz.isAgg161
 z145 := Tryz.sizeOf161
 v145 := Tryz.zeroValue161
 t167 := Tryz.underlying144
 a167 := Tryz.isAgg144
 z167 := Tryz.sizeOf144
 v167 := Tryz.zeroValue144
 t168 := Tryz.underlying147
 a168 := Tryz.isAgg147
 z168 := Tryz.sizeOf147
 v168 := Tryz.zeroValue147
 t171 := Tryz.underlying125
 a171 := Tryz.isAgg125
 z171 := Tryz.sizeOf125
 v171 := Tryz.zeroValue125
 t173 := Tryz.underlying128
 a173 := Tryz.isAgg128
 z173 := Tryz.sizeOf128
 v173 := Tryz.zeroValue128
 t175 := Tryz.underlying152
 a175 := Tryz.isAgg152
 z175 := Tryz.sizeOf152
 v175 := Tryz.zeroValue152
 t210 := Tryz.underlying156
 a210 := Tryz.isAgg156
 z210 := Tryz.sizeOf156
 v210 := Tryz.zeroValue156
 t212 := Tryz.underlying137
 a212 := Tryz.isAgg137
 z212 := Tryz.sizeOf137
 v212 := Tryz.zeroValue137
 t213 := Tryz.underlying139
 a213 := Tryz.isAgg139
 z213 := Tryz.sizeOf139
 t232 := Tryz.underlying150
 a232 := Tryz.isAgg150
 z232 := Tryz.sizeOf150
 v232 := Tryz.zeroValue150
 t233 := Tryz.underlying151
 a233 := Tryz.isAgg151
 z233 := Tryz.sizeOf151
 v233 := Tryz.zeroValue151
 g15 := by kernel_rfl
 g16 := by kernel_rfl
 g17 := by kernel_rfl
 g18 := by kernel_rfl
 g19 := by kernel_rfl
 t80 := Tryz.underlying51
 a80 := Tryz.isAgg51
 z80 := Tryz.sizeOf51
 v80 := Tryz.zeroValue51
 i0 := by kernel_rfl
 i2 := by kernel_rfl
 i3 := by kernel_rfl
 i4 := by kernel_rfl
 i5 := by kernel_rfl
 i9 := by kernel_rfl
 i20 := by kernel_rfl
 i21 := by kernel_rfl
 i37 := by kernel_rfl
 i46 := by kernel_rfl
 i51 := by kernel_rfl
 i53 := by kernel_rfl
 i75 := by kernel_rfl
 i76 := by kernel_rfl
 i80 := by kernel_rfl
 i85 := by kernel_rfl
 i127 := by kernel_rfl
 i143 := by kernel_rfl
 i145 := by kernel_rfl
 i167 := by kernel_rfl
 i168 := by kernel_rfl
 i171 := by kernel_rfl
 i173 := by kernel_rfl
 i175 := by kernel_rfl
 i210 := by kernel_rfl
 i212 := by kernel_rfl
 i232 := by kernel_rfl
 i233 := by kernel_rfl
 m15 := by kernel_rfl
 m16 := by kernel_rfl
 m17 := by kernel_rfl
 m18 := by kernel_rfl
 m19 := by kernel_rfl
 c0 := by kernel_rfl
 c2 := by kernel_rfl
 c3 := by kernel_rfl
 c4 := by kernel_rfl
 c5 := by kernel_rfl
 c9 := by kernel_rfl
 c20 := by kernel_rfl
 c21 := by kernel_rfl
 c37 := by kernel_rfl
 c46 := by kernel_rfl
 c51 := by kernel_rfl
 c53 := by kernel_rfl
 c75 := by kernel_rfl
 c76 := by kernel_rfl
 c80 := by kernel_rfl
 c85 := by kernel_rfl
 c127 := by kernel_rfl
 c143 := by kernel_rfl
 c145 := by kernel_rfl
 c167 := by kernel_rfl
 c168 := by kernel_rfl
 c171 := by kernel_rfl
 c173 := by kernel_rfl
 c175 := by kernel_rfl
 c210 := by kernel_rfl
 c212 := by kernel_rfl
 c213 := by kernel_rfl
 c232 := by kernel_rfl
 c233 := by kernel_rfl }
def Tryz.laysItoa_ren : Go.Shelf.Ren := ⟨fun | 171 => 49 | 243 => 68 | 246 => 88 | 283 => 105 | 284 => 106 | 285 => 107 | 286 => 108 | 129 => 118 | 317 => 117 | 318 => 119 | 319 => 120 | 320 => 121 | 337 => 126 | 338 => 127 | n => n, fun | 3 => 3 | 9 => 9 | 2 => 2 | 4 => 4 | 171 => 125 | 0 => 0 | 53 => 82 | 37 => 58 | 5 => 5 | 173 => 128 | 212 => 137 | 51 => 138 | 20 => 20 | 213 => 139 | 46 => 140 | 232 => 150 | 233 => 151 | n => n, fun | 17 => 1 | 18 => 2 | 19 => 3 | n => n⟩
theorem Tryz.laysItoa : Go.Proofs.LaysM.n171 Tryz.prog Tryz.laysItoa_ren := {
 mixed := by kernel_rfl
 f129 := Tryz.func118.trans (congrArg some (by kernel_rfl))
 f171 := Tryz.func49.trans (congrArg some (by kernel_rfl))
 f243 := Tryz.func68.trans (congrArg some (by kernel_rfl))
 f246 := Tryz.func88.trans (congrArg some (by kernel_rfl))
 f283 := Tryz.func105.trans (congrArg some (by kernel_rfl))
 f284 := Tryz.func106.trans (congrArg some (by kernel_rfl))
 f285 := Tryz.func107.trans (congrArg some (by kernel_rfl))
 f286 := Tryz.func108.trans (congrArg some (by kernel_rfl))
 f317 := Tryz.func117.trans (congrArg some (by kernel_rfl))
 f318 := Tryz.func119.trans (congrArg some (by kernel_rfl))
 f319 := Tryz.func120.trans (congrArg some (by kernel_rfl))
 f320 := Tryz.func121.trans (congrArg some (by kernel_rfl))
 f337 := Tryz.func126.trans (congrArg some (by kernel_rfl))
 f338 := Tryz.func127.trans (congrArg some (by kernel_rfl))
 t0 := Tryz.underlying0
 a0 := Tryz.isAgg0
 z0 := Tryz.sizeOf0
 v0 := Tryz.zeroValue0
 t2 := Tryz.underlying2
 a2 := Tryz.isAgg2
 z2 := Tryz.sizeOf2
 v2 := Tryz.zeroValue2
 t3 := Tryz.underlying3
 a3 := Tryz.isAgg3
 z3 := Tryz.sizeOf3
 v3 := Tryz.zeroValue3
 t4 := Tryz.underlying4
 a4 := Tryz.isAgg4
 z4 := Tryz.sizeOf4
 v4 := Tryz.zeroValue4
 t5 := Tryz.underlying5
 a5 := Tryz.isAgg5
 z5 := Tryz.sizeOf5
 v5 := Tryz.zeroValue5
 t9 := Tryz.underlying9
 a9 := Tryz.isAgg9
 z9 := Tryz.sizeOf9
 v9 := Tryz.zeroValue9
 t20 := Tryz.underlying20
 a20 := Tryz.isAgg20
 z20 := Tryz.sizeOf20
 v20 := Tryz.zeroValue20
 t37 := Tryz.underlying58
 a37 := Tryz.isAgg58
 z37 := Tryz.sizeOf58
 v37 := Tryz.zeroValue58
 t46 := Tryz.underlying140
 a46 := Tryz.isAgg140
 z46 := Tryz.sizeOf140
 v46 := Tryz.zeroValue140
 t51 := Tryz.underlying138
 a51 := Tryz.isAgg138
 z51 := Tryz.sizeOf138
 v51 := Tryz.zeroValue138
 t53 := Tryz.underlying82
 a53 := Tryz.isAgg82
 z53 := Tryz.sizeOf82
 v53 := Tryz.zeroValue82
 t171 := Tryz.underlying125
 a171 := Tryz.isAgg125
 z171 := Tryz.sizeOf125
 v171 := Tryz.zeroValue125
 t173 := Tryz.underlying128
 a173 := Tryz.isAgg128
 z173 := Tryz.sizeOf128
 v173 := Tryz.zeroValue128
 t212 := Tryz.underlying137
 a212 := Tryz.isAgg137
 z212 := Tryz.sizeOf137
 v212 := Tryz.zeroValue137
 t213 := Tryz.underlying139
 a213 := Tryz.isAgg139
 z213 := Tryz.sizeOf139
 t232 := Tryz.underlying150
 a232 := Tryz.isAgg150
 z232 := Tryz.sizeOf150
 v232 := Tryz.zeroValue150
 t233 := Tryz.underlying151
 a233 := Tryz.isAgg151
 z233 := Tryz.sizeOf151
 v233 := Tryz.zeroValue151
 g17 := by kernel_rfl
 g18 := by kernel_rfl
 g19 := by kernel_rfl
 i0 := by kernel_rfl
 i2 := by kernel_rfl
 i3 := by kernel_rfl
 i4 := by kernel_rfl
 i5 := by kernel_rfl
 i9 := by kernel_rfl
 i20 := by kernel_rfl
 i37 := by kernel_rfl
 i46 := by kernel_rfl
 i51 := by kernel_rfl
 i53 := by kernel_rfl
 i171 := by kernel_rfl
 i173 := by kernel_rfl
 i212 := by kernel_rfl
 i232 := by kernel_rfl
 i233 := by kernel_rfl
 m17 := by kernel_rfl
 m18 := by kernel_rfl
 m19 := by kernel_rfl }
def Tryz.laysIndexByte_ren : Go.Shelf.Ren := ⟨fun | 137 => 36 | 217 => 52 | 266 => 70 | n => n, fun | 9 => 9 | 5 => 5 | 3 => 3 | n => n, fun | n => n⟩
theorem Tryz.laysIndexByte : Go.Proofs.Lays.n137 Tryz.prog Tryz.laysIndexByte_ren := {
 mixed := by kernel_rfl
 f137 := Tryz.func36.trans (congrArg some (by kernel_rfl))
 f217 := Tryz.func52.trans (congrArg some (by kernel_rfl))
 f266 := Tryz.func70.trans (congrArg some (by kernel_rfl))
 t3 := Tryz.underlying3
 a3 := Tryz.isAgg3
 z3 := Tryz.sizeOf3
 v3 := Tryz.zeroValue3
 t5 := Tryz.underlying5
 a5 := Tryz.isAgg5
 z5 := Tryz.sizeOf5
 v5 := Tryz.zeroValue5
 t9 := Tryz.underlying9
 a9 := Tryz.isAgg9
 z9 := Tryz.sizeOf9
 v9 := Tryz.zeroValue9 }
def Tryz.laysString_ren : Go.Shelf.Ren := ⟨fun | 169 => 33 | n => n, fun | 70 => 57 | 9 => 9 | 0 => 0 | 72 => 60 | 37 => 58 | 127 => 79 | 3 => 3 | 5 => 5 | n => n, fun | n => n⟩
theorem Tryz.laysString : Go.Proofs.Lays.n169 Tryz.prog Tryz.laysString_ren := {
 mixed := by kernel_rfl
 f169 := Tryz.func33.trans (congrArg some (by kernel_rfl))
 t0 := Tryz.underlying0
 a0 := Tryz.isAgg0
 z0 := Tryz.sizeOf0
 v0 := Tryz.zeroValue0
 t3 := Tryz.underlying3
 a3 := Tryz.isAgg3
 z3 := Tryz.sizeOf3
 v3 := Tryz.zeroValue3
 t9 := Tryz.underlying9
 a9 := Tryz.isAgg9
 z9 := Tryz.sizeOf9
 v9 := Tryz.zeroValue9
 t37 := Tryz.underlying58
 a37 := Tryz.isAgg58
 z37 := Tryz.sizeOf58
 v37 := Tryz.zeroValue58
 t70 := Tryz.underlying57
 a70 := Tryz.isAgg57
 z70 := Tryz.sizeOf57
 v70 := Tryz.zeroValue57
 t72 := Tryz.underlying60
 a72 := Tryz.isAgg60
 z72 := Tryz.sizeOf60
 v72 := Tryz.zeroValue60
 t127 := Tryz.underlying79
 a127 := Tryz.isAgg79
 z127 := Tryz.sizeOf79
 v127 := Tryz.zeroValue79 }
end Go.Proofs
end
section
namespace Go.Proofs.YtkipkbggnfllkaaGreatDoor.P
open Go.RowKit Go.Proofs Go.Proofs.YtkipkbggnfllkaaGreatDoorW.PrintWords Go.Proofs.YtkipkbggnfllkaaGreatDoorW.PrintLast Go.Proofs.YtkipkbggnfllkaaGreatDoorW.PrintMore
def heldAt (w : World) (g : Nat) : Option (Array Value) := match w.heap[g]? with | some (.cells cs _ _) => some cs | _ => none
theorem heldAt_below {w w' : World} {g : Nat} {cs : Array Value} (h : heldAt w g = some cs) (hb : Below w.heap.size w w') : heldAt w' g = some cs := by
 have hlt : g < w.heap.size := by
  rcases Nat.lt_or_ge g w.heap.size with h' | h'
  · exact h'
  · simp [heldAt, Array.getElem?_eq_none h'] at h
 unfold heldAt at h ⊢
 rw [hb.block g hlt]
 exact h
structure Gl (w : World) : Prop where
 tab : heldAt w 1 = some (Lib.pow10Tab.map fun z => Value.int .u64 z).toArray
 err : ∃ te pe, heldAt w 4 = some #[.iface te pe]
theorem Gl.keep {w w' : World} (h : Gl w) (hb : Below w.heap.size w w') : Gl w' :=
 ⟨heldAt_below h.tab hb, h.err.elim fun te h1 => h1.elim fun pe h2 => ⟨te, pe, heldAt_below h2 hb⟩⟩
theorem Gl.keepAt {w w' : World} {n : Nat} (h : Gl w) (hn : w.heap.size ≤ n) (hb : Below n w w') : Gl w' := h.keep (hb.mono hn)
theorem heldAt_cell {w : World} {g : Nat} {cs : Array Value} (h : heldAt w g = some cs) (j : Nat) : w.cell? ⟨g, j, none⟩ = cs[j]? := by
 unfold heldAt at h
 unfold World.cell?
 split at h
 · rename_i cs' t fz hc
   injection h with h
   simp [hc, h]
 · cases h
def strings_IndexByte.f (s : ByteArray) (c : Int) : Option Int := some (Lib.indexByte s.data.toList c.toNat.toUInt8)
theorem strings_IndexByte.calls (s : ByteArray) (c : Int) (r : Int) (w : World) (h : strings_IndexByte.f s c = some r) :
 Calls Tryz.prog 36 #[.string s, .int .u8 c] w fun e w' => e = .returned (.int .i64 r) ∧ Drawn0 w w' := by
 injection h with h
 refine (Any.strings_IndexByte Tryz.laysIndexByte s c w).mono ?_
 rintro e w' ⟨rfl, rfl⟩
 rw [h]
 exact ⟨rfl, Drawn0.refl _⟩
def strconv_Itoa.f (n : Int) : Option ByteArray := if -9223372036854775808 ≤ n ∧ n ≤ 9223372036854775807 then some ⟨(Lib.itoa n).toArray⟩ else none
theorem strconv_Itoa.calls (n : Int) (r : ByteArray) (w : World) (hG : Gl w) (h : strconv_Itoa.f n = some r) :
 Calls Tryz.prog 49 #[.int .i64 n] w fun e w' => e = .returned (.string r) ∧ Below w.heap.size w w' := by
 unfold strconv_Itoa.f at h
 split at h
 · rename_i hn
   injection h with h
   refine (Any.strconv_Itoa Tryz.laysItoa n hn.1 hn.2 w ?_).mono ?_
   · unfold Lib.TabIs World.var?
     rw [show Tryz.prog.globalNamed _ = some 1 by kernel_rfl]
     exact hG.tab
   · rintro e w' ⟨rfl, k, os, rfl⟩
     rw [← h]
     refine ⟨rfl, ?_⟩
     exact Lib.below_grow _ w (Nat.le_refl _) k os
 · cases h
def atoiOf : Lib.NumEnd Int → Option Int
 | .ok v => some v
 | .range => none
 | _ => some 0
def strconv_Atoi.f (s : ByteArray) : Option Int := if s.size ≤ 1099511627776 then atoiOf (Lib.atoiAll s.data.toList) else none
theorem strconv_Atoi.calls (s : ByteArray) (r : Int) (w : World) (hG : Gl w) (h : strconv_Atoi.f s = some r) :
 Calls Tryz.prog 110 #[.string s] w fun e w' => (∃ v, e = .returned (.tuple #[.int .i64 r, v])) ∧ Below w.heap.size w w' := by
 unfold strconv_Atoi.f at h
 split at h
 · rename_i hs
   rcases hv : Lib.atoiAll s.data.toList with v | _ | _
   · rw [hv] at h
     injection h with h
     refine (Any.strconv_Atoi_ok Tryz.laysAtoi s (by omega) v hv w).mono ?_
     rintro e w' ⟨rfl, hw⟩
     rw [h]
     refine ⟨⟨_, rfl⟩, ?_⟩
     rcases hw with rfl | ⟨t, rfl⟩
     · exact Below.refl _ _
     · exact Lib.bytesWorld_below _ _ _
   · rw [hv] at h
     injection h with h
     obtain ⟨te, pe, he⟩ := hG.err
     refine (Any.strconv_Atoi_syntax Tryz.laysAtoi s (by omega) hv (.iface te pe) w ?_ (.inr ⟨te, pe, rfl⟩)).mono ?_
     · exact (heldAt_cell he 0).trans rfl
     · rintro e w' ⟨N, rfl, _, _, hb⟩
       rw [← h]
       exact ⟨⟨_, rfl⟩, hb⟩
   · rw [hv] at h
     cases h
 · cases h
end Go.Proofs.YtkipkbggnfllkaaGreatDoor.P
end
section
namespace Go.Proofs.YtkipkbggnfllkaaGreatDoor
open Go.ChangeShapes Go.WideShapes Go.ChangeAt Go.RowKit
set_option linter.unusedVariables false
set_option maxRecDepth 100000
theorem gl_of_laid {W : World} (h : laidMet Tryz.prog Rows.tmplParsesRow.laid W) : P.Gl W := by
 have h3 : laidMet Tryz.prog (_ :: _) W := (laidMet.tail (laidMet.tail h))
 have h5 : laidMet Tryz.prog (_ :: _) W := laidMet.tail (laidMet.tail h3)
 have ht := Lib.tabIs_of_head (k := .u64) (zs := Lib.pow10Tab) (g := 1) (by kernel_rfl) (by kernel_rfl) (Tryz.underlying137) (by kernel_rfl) (by kernel_rfl) (by kernel_rfl) h3
 have es := laid_sentinel (g := 4) h5 (by kernel_rfl) (by kernel_rfl) Tryz.underlying62 ?hrow Tryz.underlying159 Tryz.underlying161 rfl rfl Tryz.underlying9 (by kernel_rfl) (by kernel_rfl)
 case hrow => exact fun u hu => typeName_ptr_named (nm := "errors.errorString") (by kernel_rfl) (by kernel_rfl) (by decide) u (hu.trans (congrArg some (by kernel_rfl)))
 obtain ⟨a, s, hv, -, -, -⟩ := es
 unfold Lib.TabIs World.var? at ht
 unfold World.var? at hv
 obtain ⟨g1, hg1, ht⟩ := Option.bind_eq_some_iff.1 ht
 obtain ⟨g2, hg2, hv⟩ := Option.bind_eq_some_iff.1 hv
 have e1 : g1 = 1 := Option.some.inj (hg1.symm.trans (by kernel_rfl))
 have e2 : g2 = 4 := Option.some.inj (hg2.symm.trans (by kernel_rfl))
 subst e1 e2
 exact ⟨ht, _, _, hv⟩
end Go.Proofs.YtkipkbggnfllkaaGreatDoor
end
section
namespace Go.Proofs.YtkipkbggnfllkaaGreatDoor.P
open Go.RowKit Go.Proofs.YtkipkbggnfllkaaGreatDoorW.PrintWords Go.Proofs.YtkipkbggnfllkaaGreatDoorW.PrintLast Go.Proofs.YtkipkbggnfllkaaGreatDoorW.PrintMore
attribute [local go_sem] max2_int min2_int max_two min_two max_three min_three max_four min_four
set_option linter.unusedVariables false
set_option linter.unusedSimpArgs false
def tmpl_Operator.f (a0 : Int) : Option (Bool) := if a0 = 0 then (some true) else ((strings_IndexByte.f (⟨#[43, 35, 46, 47, 59, 63, 38]⟩ : ByteArray) a0).bind fun t323 => (some (decide (t323 ≥ 0))))
set_option maxHeartbeats 8000000 in
set_option maxRecDepth 100000 in
theorem tmpl_Operator.calls (a0 : Int) (r : Bool) (w : World) (h : tmpl_Operator.f a0 = some r) :
 Calls Tryz.prog 19 #[.int .u8 a0] w fun e w' => e = .returned (.bool r) ∧ Drawn0 w w' := by
 have H : (if a0 = 0 then (some true) else ((strings_IndexByte.f (⟨#[43, 35, 46, 47, 59, 63, 38]⟩ : ByteArray) a0).bind fun t323 => (some (decide (t323 ≥ 0))))) = some r := h
 clear h
 by_cases c2 : a0 = 0
 · rw [if_pos c2] at H
   have c2b0 : (a0 == 0) = true := beq_iff_eq.mpr c2
   have c2b1 : (a0 != 0) = false := bne_eq_false_iff_eq.mpr c2
   clear c2
   obtain rfl := Option.some.inj H
   go_enter Tryz.func19, Tryz.ntmps19
   go_wp2
   go_ret
   exact ⟨by first | rfl | (simp; done) | (simp [*]; done), by repeat (first | exact Drawn0.refl _ | apply Drawn0.step)⟩
 · rw [if_neg c2] at H
   have c2b0 : (a0 == 0) = false := beq_eq_false_iff_ne.mpr c2
   have c2b1 : (a0 != 0) = true := bne_iff_ne.mpr c2
   replace H := Option.bind_eq_some_iff.mp H
   obtain ⟨t323, A30, H⟩ := H
   replace H : (some (decide (t323 ≥ 0))) = some r := H
   have A3 := Aside0.mk A30
   clear A30
   obtain rfl := Option.some.inj H
   go_enter Tryz.func19, Tryz.ntmps19
   go_wp2_with (first | (go_at_call 36; (with_reducible refine (strings_IndexByte.calls (⟨#[43, 35, 46, 47, 59, 63, 38]⟩ : ByteArray) a0 t323 _ A3.out).mono ?_); rintro e w' ⟨rfl, ⟨nd, rfl⟩⟩))
   go_ret
   exact ⟨by first | rfl | (simp; done) | (simp [*]; done), by repeat (first | exact Drawn0.refl _ | apply Drawn0.step)⟩
end Go.Proofs.YtkipkbggnfllkaaGreatDoor.P
end
section
namespace Go.Proofs.YtkipkbggnfllkaaGreatDoor.P
open Go.RowKit Go.Proofs.YtkipkbggnfllkaaGreatDoorW.PrintWords Go.Proofs.YtkipkbggnfllkaaGreatDoorW.PrintLast Go.Proofs.YtkipkbggnfllkaaGreatDoorW.PrintMore
set_option linter.unusedVariables false
set_option linter.unusedSimpArgs false
def spec_behind.f (s : ByteArray) : Option (Int × Bool × Int × Bool) :=
 if s.toList = [] then some (0, true, 0, false)
 else if bt s 0 = 42 then some (1, (s.size : Int) == 1, 0, true)
 else if bt s 0 = 58 then
  (spec_figures.f (s.extract 1 s.size)).bind fun n =>
   (strconv_Atoi.f (s.extract 1 (n + 1).toNat)).bind fun m => some (n + 1, if n > 0 then n + 1 == (s.size : Int) else false, m, false)
 else some (0, false, 0, false)
def SpecCells (w : World) (g : Nat) (nm : ByteArray) (m : Int) (st : Bool) : Prop := w.heap[g]? = some (.cells #[.string nm, .int .i64 m, .bool st] 43 (0, 0))
theorem SpecCells.cell0 {w : World} {g : Nat} {nm : ByteArray} {m : Int} {st : Bool} (h : SpecCells w g nm m st) : w.cell? ⟨g, 0, none⟩ = some (.string nm) := by unfold SpecCells at h; rw [Lib.cell_of_heap h]; rfl
theorem SpecCells.cell1 {w : World} {g : Nat} {nm : ByteArray} {m : Int} {st : Bool} (h : SpecCells w g nm m st) : w.cell? ⟨g, 1, none⟩ = some (.int .i64 m) := by unfold SpecCells at h; rw [Lib.cell_of_heap h]; rfl
theorem SpecCells.cell2 {w : World} {g : Nat} {nm : ByteArray} {m : Int} {st : Bool} (h : SpecCells w g nm m st) : w.cell? ⟨g, 2, none⟩ = some (.bool st) := by unfold SpecCells at h; rw [Lib.cell_of_heap h]; rfl
theorem SpecCells.free {w : World} {g : Nat} {nm : ByteArray} {m : Int} {st : Bool} (h : SpecCells w g nm m st) (j : Nat) : w.frozen? ⟨g, j, none⟩ = false := Lib.frozen_of_heap h j
theorem SpecCells.lt {w : World} {g : Nat} {nm : ByteArray} {m : Int} {st : Bool} (h : SpecCells w g nm m st) : g < w.heap.size := (Array.getElem?_eq_some_iff.1 h).1
theorem SpecCells.keep {w w' : World} {g : Nat} {nm : ByteArray} {m : Int} {st : Bool} (h : SpecCells w g nm m st) (hb : Below w.heap.size w w') : SpecCells w' g nm m st := (hb.block g h.lt).trans h
theorem SpecCells.setMax {w : World} {g : Nat} {nm : ByteArray} {m : Int} {st : Bool} (h : SpecCells w g nm m st) (k : Int) : SpecCells (w.setCell ⟨g, 1, none⟩ (.int .i64 k)) g nm k st := heap_setCell_same _ _ 1 _ _ _ h
theorem SpecCells.setStar {w : World} {g : Nat} {nm : ByteArray} {m : Int} {st : Bool} (h : SpecCells w g nm m st) (b : Bool) : SpecCells (w.setCell ⟨g, 2, none⟩ (.bool b)) g nm m b := heap_setCell_same _ _ 2 _ _ _ h
theorem SpecCells.setName {w : World} {g : Nat} {nm : ByteArray} {m : Int} {st : Bool} (h : SpecCells w g nm m st) (s : ByteArray) : SpecCells (w.setCell ⟨g, 0, none⟩ (.string s)) g s m st := heap_setCell_same _ _ 0 _ _ _ h
theorem toList_nil_iff (s : ByteArray) : s.toList = [] ↔ s.size = 0 := by
 rw [ByteArray.toList_eq]
 constructor
 · intro h
   have : s.data.toList.length = 0 := by rw [h]; rfl
   simpa using this
 · intro h
   exact List.eq_nil_of_length_eq_zero (by simpa using h)
set_option maxRecDepth 100000 in
set_option maxHeartbeats 1000000 in
theorem spec_behind.calls (s : ByteArray) (hs : s.size ≤ 1099511627776) (n : Int) (whole : Bool) (m : Int) (st : Bool) (B g : Nat) (nm : ByteArray) (w : World) (hG : Gl w) (hB : B ≤ g) (hg : SpecCells w g nm 0 false) (h : spec_behind.f s = some (n, whole, m, st)) :
 Calls Tryz.prog 89 #[.string s, .pointer (some ⟨g, 0, none⟩)] w fun e w' => e = .returned (.tuple #[.int .i64 n, .bool whole]) ∧ SpecCells w' g nm m st ∧ Below B w w' := by
 have HG := Lib.hid hG
 have HC := Lib.hid hg
 have hglt := hg.lt
 have f1 := hg.free 1
 have f2 := hg.free 2
 have d1 := hg.cell1
 have d2 := hg.cell2
 unfold spec_behind.f at h
 clear hG hg
 by_cases h0 : s.toList = []
 · rw [if_pos h0] at h
   have h0b : (s.toList == ([] : List UInt8)) = true := beq_iff_eq.2 h0
   have HR := Lib.hid (Option.some.inj h)
   clear h h0
   go_enter Tryz.func89, Tryz.ntmps89
   go_wp2
   go_ret2
   have := HR.out
   simp only [Prod.mk.injEq] at this
   obtain ⟨rfl, rfl, rfl, rfl⟩ := this
   exact ⟨rfl, HC.out, Below.refl _ _⟩
 · rw [if_neg h0] at h
   have h0b : (s.toList == ([] : List UInt8)) = false := beq_eq_false_iff_ne.2 h0
   have hpos : 0 < s.size := Nat.pos_of_ne_zero (fun e => h0 ((toList_nil_iff s).2 e))
   have hix : ∀ h : 0 < s.size, ((s[0]'h).toNat : Int) = bt s 0 := fun h => bt_at s 0 h
   obtain ⟨c, hc⟩ : ∃ c, c = bt s 0 := ⟨_, rfl⟩
   rw [← hc] at h hix
   clear hc h0
   by_cases h1 : c = 42
   · rw [if_pos h1] at h
     have q1 : (c == 42) = true := beq_iff_eq.2 h1
     have HR := Lib.hid (Option.some.inj h)
     clear h h1
     go_enter Tryz.func89, Tryz.ntmps89
     go_wp2
     go_ret2
     have := HR.out
     simp only [Prod.mk.injEq] at this
     obtain ⟨rfl, rfl, rfl, rfl⟩ := this
     exact ⟨rfl, HC.out.setStar true, (Below.refl _ _).setCell (p := ⟨g, 2, none⟩) hB _⟩
   · rw [if_neg h1] at h
     have q1 : (c == 42) = false := beq_eq_false_iff_ne.2 h1
     by_cases h2 : c = 58
     · rw [if_pos h2] at h
       have q2 : (c == 58) = true := beq_iff_eq.2 h2
       obtain ⟨k, hk, h⟩ := Option.bind_eq_some_iff.1 h
       obtain ⟨a, ha, h⟩ := Option.bind_eq_some_iff.1 h
       have hk0 : 0 ≤ k ∧ k + 1 ≤ s.size ∧ k ≤ 4 := by
        unfold spec_figures.f at hk
        split at hk
        · injection hk with hk
          have := figsFrom_le (s.extract 1 s.size) (min (s.extract 1 s.size).size 4) 0
          have h3 : (s.extract 1 s.size).size = s.size - 1 := by rw [ByteArray.size_extract]; omega
          omega
        · cases hk
       obtain ⟨hk0, hk1, hk2⟩ := hk0
       have HK := Lib.hid hk
       have HA := Lib.hid ha
       have HR := Lib.hid (Option.some.inj h)
       have hsl : ∀ W : World, (Instr.slice 9 (.string s) (some (.int .i64 1)) none none).run Tryz.prog W = .ok (.string (s.extract 1 s.size)) W := fun W => run_slice_string_l W 9 s Tryz.underlying9 .i64 1 (by omega) (by omega)
       have hsm : ∀ W : World, (Instr.slice 9 (.string s) (some (.int .i64 1)) (some (.int .i64 (1 + k))) none).run Tryz.prog W = .ok (.string (s.extract 1 (k + 1).toNat)) W := fun W => by
        rw [run_slice_string (P := Tryz.prog) W 9 s .i64 .i64 1 (1 + k) Tryz.underlying9 (by omega) (by omega) (by omega), show 1 + k = k + 1 by omega]
        rfl
       clear h h1 h2 hk ha
       by_cases h5 : 0 < k
       · have q5 : decide (1 < 1 + k) = true := decide_eq_true (by omega)
         go_enter Tryz.func89, Tryz.ntmps89
         go_wp2_with fail
         refine (spec_figures.calls _ _ _ HK.out).mono ?_
         rintro e w1 ⟨rfl, hb1⟩
         have HB1 := Lib.hid hb1
         have HC1 := Lib.hid (HC.out.keep hb1)
         clear hb1
         go_wp2_with fail
         refine (strconv_Atoi.calls _ _ _ (HG.out.keep HB1.out) HA.out).mono ?_
         rintro e w2 ⟨⟨v, rfl⟩, hb2⟩
         have HB2 := Lib.hid (below_then HB1.out HB1.out.size hb2)
         have hc2 := HC1.out.keep hb2
         have e1 := hc2.cell1
         have g1 := hc2.free 1
         have HC2 := Lib.hid hc2
         clear hb2 hc2
         go_wp2
         go_ret2
         have := HR.out
         simp only [Prod.mk.injEq] at this
         obtain ⟨rfl, rfl, rfl, rfl⟩ := this
         refine ⟨?_, HC2.out.setMax a, (HB2.out.mono (Nat.le_of_lt (Nat.lt_of_le_of_lt hB hglt))).setCell (p := ⟨g, 1, none⟩) hB _⟩
         show Ending.returned (.tuple #[.int .i64 (1 + k), .bool (1 + k == (s.size : Int))]) = _
         rw [if_pos h5, show 1 + k = k + 1 by omega]
       · have q5 : decide (1 < 1 + k) = false := decide_eq_false (by omega)
         go_enter Tryz.func89, Tryz.ntmps89
         go_wp2_with fail
         refine (spec_figures.calls _ _ _ HK.out).mono ?_
         rintro e w1 ⟨rfl, hb1⟩
         have HB1 := Lib.hid hb1
         have HC1 := Lib.hid (HC.out.keep hb1)
         clear hb1
         go_wp2_with fail
         refine (strconv_Atoi.calls _ _ _ (HG.out.keep HB1.out) HA.out).mono ?_
         rintro e w2 ⟨⟨v, rfl⟩, hb2⟩
         have HB2 := Lib.hid (below_then HB1.out HB1.out.size hb2)
         have hc2 := HC1.out.keep hb2
         have e1 := hc2.cell1
         have g1 := hc2.free 1
         have HC2 := Lib.hid hc2
         clear hb2 hc2
         go_wp2
         go_ret2
         have := HR.out
         simp only [Prod.mk.injEq] at this
         obtain ⟨rfl, rfl, rfl, rfl⟩ := this
         refine ⟨?_, HC2.out.setMax a, (HB2.out.mono (Nat.le_of_lt (Nat.lt_of_le_of_lt hB hglt))).setCell (p := ⟨g, 1, none⟩) hB _⟩
         show Ending.returned (.tuple #[.int .i64 (1 + k), .bool false]) = _
         rw [if_neg (show ¬ k > 0 by omega), show 1 + k = k + 1 by omega]
     · rw [if_neg h2] at h
       have q2 : (c == 58) = false := beq_eq_false_iff_ne.2 h2
       have HR := Lib.hid (Option.some.inj h)
       clear h h1 h2
       go_enter Tryz.func89, Tryz.ntmps89
       go_wp2
       go_ret2
       have := HR.out
       simp only [Prod.mk.injEq] at this
       obtain ⟨rfl, rfl, rfl, rfl⟩ := this
       exact ⟨rfl, HC.out, Below.refl _ _⟩
theorem endsFrom_bounds (s : ByteArray) : ∀ (k : Nat) (x y : Int), 0 ≤ y → y ≤ x → x ≤ s.size → 0 ≤ (endsFrom s k x y).2 ∧ (endsFrom s k x y).2 ≤ (endsFrom s k x y).1 ∧ (endsFrom s k x y).1 ≤ s.size
 | 0, x, y, h0, h1, h2 => ⟨h0, h1, h2⟩
 | k + 1, x, y, h0, h1, h2 => by
  rw [endsFrom]
  split
  · split
    · exact endsFrom_bounds s k _ _ (by omega) (by omega) (by omega)
    · split
      · exact endsFrom_bounds s k _ _ (by omega) (by omega) (by omega)
      · split
        · rename_i ht
          have h3 : 3 ≤ (s.extract x.toNat s.size).size := by
           unfold isTriplet at ht
           simp only [Bool.and_eq_true, decide_eq_true_eq] at ht
           exact ht.1
          rw [ByteArray.size_extract] at h3
          exact endsFrom_bounds s k _ _ (by omega) (by omega) (by omega)
        · split
          · split
            · exact ⟨h0, by simp; omega, by simp; omega⟩
            · exact ⟨h0, by simp; omega, by simp; omega⟩
          · exact ⟨h0, h1, h2⟩
  · exact ⟨h0, h1, h2⟩
theorem vname_End_bounds {s : ByteArray} {n : Int} (h : vname_End.f s = some n) : 0 ≤ n ∧ n ≤ s.size := by
 unfold vname_End.f vname_ends.f at h
 split at h
 · simp only [Option.bind_some, Option.some.injEq] at h
   have := endsFrom_bounds s (s.size + 1) 0 0 (by omega) (by omega) (by omega)
   omega
 · simp at h
def takeStop (a b : Int) : Int := max a b
theorem figures_bounds {s : ByteArray} {k : Int} (h : spec_figures.f s = some k) : 0 ≤ k ∧ k ≤ s.size ∧ k ≤ 4 := by
 unfold spec_figures.f at h
 split at h
 · injection h with h
   have := figsFrom_le s (min s.size 4) 0
   omega
 · cases h
theorem behind_bounds {s : ByteArray} {n : Int} {wh : Bool} {m : Int} {st : Bool} (h : spec_behind.f s = some (n, wh, m, st)) : 0 ≤ n ∧ n ≤ s.size := by
 unfold spec_behind.f at h
 have h9 : (0 : Int) ≤ s.size := by omega
 by_cases h0 : s.toList = []
 · rw [if_pos h0] at h
   simp only [Option.some.injEq, Prod.mk.injEq] at h
   omega
 · rw [if_neg h0] at h
   have hp : 0 < s.size := Nat.pos_of_ne_zero (fun e => h0 ((toList_nil_iff s).2 e))
   by_cases h1 : bt s 0 = 42
   · rw [if_pos h1] at h
     simp only [Option.some.injEq, Prod.mk.injEq] at h
     omega
   · rw [if_neg h1] at h
     by_cases h2 : bt s 0 = 58
     · rw [if_pos h2] at h
       obtain ⟨k, hk, h⟩ := Option.bind_eq_some_iff.1 h
       obtain ⟨a, ha, h⟩ := Option.bind_eq_some_iff.1 h
       simp only [Option.some.injEq, Prod.mk.injEq] at h
       have := figures_bounds hk
       rw [ByteArray.size_extract] at this
       omega
     · rw [if_neg h2] at h
       simp only [Option.some.injEq, Prod.mk.injEq] at h
       omega
def spec_Take.f (s : ByteArray) : Option (ByteArray × Int × Bool × Int × Int) :=
 (vname_End.f s).bind fun en => (spec_behind.f (s.extract en.toNat s.size)).bind fun b => (vname_Bad.f s).bind fun bd =>
  if en > 0 ∧ b.2.1 = true then some (s.extract 0 en.toNat, b.2.2.1, b.2.2.2, s.size, 0)
  else some (⟨#[]⟩, 0, false, takeStop bd (if en = 0 then 0 else en + b.1), 2)
theorem takeEnd {w W : World} (hx : SpecCells W w.heap.size ⟨#[]⟩ 0 false) (hb : Below w.heap.size w W) (nm : ByteArray) (m : Int) (st : Bool) : SpecCells (((W.setCell ⟨w.heap.size, 0, none⟩ (.string nm)).setCell ⟨w.heap.size, 1, none⟩ (.int .i64 m)).setCell ⟨w.heap.size, 2, none⟩ (.bool st)) w.heap.size nm m st ∧ Below w.heap.size w (((W.setCell ⟨w.heap.size, 0, none⟩ (.string nm)).setCell ⟨w.heap.size, 1, none⟩ (.int .i64 m)).setCell ⟨w.heap.size, 2, none⟩ (.bool st)) :=
 ⟨((SpecCells.setName hx nm).setMax m).setStar st, ((hb.setCell (p := ⟨w.heap.size, 0, none⟩) (Nat.le_refl _) _).setCell (p := ⟨w.heap.size, 1, none⟩) (Nat.le_refl _) _).setCell (p := ⟨w.heap.size, 2, none⟩) (Nat.le_refl _) _⟩
set_option maxRecDepth 100000 in
set_option maxHeartbeats 1000000 in
theorem spec_Take.calls (s : ByteArray) (r1 : ByteArray) (r2 : Int) (r3 : Bool) (r4 r5 : Int) (w : World) (hs : s.size ≤ 1099511627776) (hG : Gl w) (h : spec_Take.f s = some (r1, r2, r3, r4, r5)) :
 Calls Tryz.prog 72 #[.string s] w fun e w' => e = .returned (.tuple #[.agg #[.string r1, .int .i64 r2, .bool r3], .int .i64 r4, .int .i64 r5]) ∧ Below w.heap.size w w' := by
 unfold spec_Take.f at h
 obtain ⟨en, hen, h⟩ := Option.bind_eq_some_iff.1 h
 obtain ⟨⟨n, whole, m, st⟩, hbe, h⟩ := Option.bind_eq_some_iff.1 h
 obtain ⟨bd, hbd, h⟩ := Option.bind_eq_some_iff.1 h
 obtain ⟨he0, he1⟩ := vname_End_bounds hen
 have HE := Lib.hid hen
 have HBe := Lib.hid hbe
 have HBd := Lib.hid hbd
 have HG := Lib.hid hG
 have hnb := behind_bounds hbe
 rw [ByteArray.size_extract] at hnb
 obtain ⟨hn0, hn1⟩ := hnb
 simp only at h
 have hsl : ∀ W : World, (Instr.slice 9 (.string s) (some (.int .i64 en)) none none).run Tryz.prog W = .ok (.string (s.extract en.toNat s.size)) W := fun W => run_slice_string_l W 9 s Tryz.underlying9 .i64 en (by omega) (by omega)
 have hsh : ∀ W : World, (Instr.slice 9 (.string s) none (some (.int .i64 en)) none).run Tryz.prog W = .ok (.string (s.extract 0 en.toNat)) W := fun W => run_slice_string_h W 9 s Tryz.underlying9 .i64 en (by omega) (by omega)
 clear hen hbe hbd hG
 have HR := Lib.hid h
 clear h
 go_enter Tryz.func72, Tryz.ntmps72
 go_wp2_with fail
 refine (vname_End.calls _ _ _ HE.out).mono ?_
 rintro e w1 ⟨rfl, hb1⟩
 have HB1 := Lib.hid hb1
 clear hb1
 go_wp2_with fail
 have hgw1 : Gl w1 := (HG.out.keep ((Below.refl _ _).alloc (Nat.le_refl _) (.cells #[.string ⟨#[]⟩, .int .i64 0, .bool false] 43))).keep HB1.out
 have hsz : (s.extract en.toNat s.size).size ≤ 1099511627776 := by rw [ByteArray.size_extract]; omega
 refine (spec_behind.calls _ hsz n whole m st w1.heap.size w1.heap.size (s.extract 0 en.toNat) _ (hgw1.keep ((Below.refl _ _).alloc (Nat.le_refl _) _)) (Nat.le_refl _) (heap_alloc_new w1 _) HBe.out).mono ?_
 rintro e w2 ⟨rfl, hc2, hb2⟩
 have hbox : w1.heap[w.heap.size]? = some (.cells #[.string ⟨#[]⟩, .int .i64 0, .bool false] 43 (0, 0)) := (HB1.out.block _ (by simp)).trans (heap_alloc_new w _)
 have hlt1 : w.heap.size < w1.heap.size := (Array.getElem?_eq_some_iff.1 hbox).1
 have hbox2 : w2.heap[w.heap.size]? = some (.cells #[.string ⟨#[]⟩, .int .i64 0, .bool false] 43 (0, 0)) := (hb2.block _ hlt1).trans ((heap_alloc_old w1 _ hlt1).trans hbox)
 have HBw : Hid (Below w.heap.size w w2) := Lib.hid (((((Below.refl _ _).alloc (Nat.le_refl _) _).trans (HB1.out.mono (by simp))).alloc (Nat.le_of_lt hlt1) _).trans (hb2.mono (Nat.le_of_lt hlt1)))
 have HX := Lib.hid hbox2
 have g0 := hc2.cell0
 have g1 := hc2.cell1
 have g2 := hc2.cell2
 have x0 : w2.cell? ⟨w.heap.size, 0, none⟩ = some (.string ⟨#[]⟩) := by rw [Lib.cell_of_heap hbox2]; rfl
 have x1 : w2.cell? ⟨w.heap.size, 1, none⟩ = some (.int .i64 0) := by rw [Lib.cell_of_heap hbox2]; rfl
 have x2 : w2.cell? ⟨w.heap.size, 2, none⟩ = some (.bool false) := by rw [Lib.cell_of_heap hbox2]; rfl
 have y0 : w2.frozen? ⟨w.heap.size, 0, none⟩ = false := Lib.frozen_of_heap hbox2 0
 have y1 : w2.frozen? ⟨w.heap.size, 1, none⟩ = false := Lib.frozen_of_heap hbox2 1
 have y2 : w2.frozen? ⟨w.heap.size, 2, none⟩ = false := Lib.frozen_of_heap hbox2 2
 clear hgw1 hc2 hb2 hbox hlt1 hbox2 hsz
 by_cases h1 : 0 < en
 · have q1 : decide (0 < en) = true := decide_eq_true h1
   have q2 : (en == 0) = false := beq_eq_false_iff_ne.2 (by omega)
   cases whole with
   | true =>
    have hr := HR.out
    rw [if_pos ⟨h1, rfl⟩] at hr
    have HRR := Lib.hid (Option.some.inj hr)
    clear hr HR
    go_wp2
    obtain ⟨hf, hfb⟩ := takeEnd HX.out HBw.out (s.extract 0 en.toNat) m st
    obtain ⟨W, hW⟩ : ∃ W, W = (((w2.setCell ⟨w.heap.size, 0, none⟩ (.string (s.extract 0 en.toNat))).setCell ⟨w.heap.size, 1, none⟩ (.int .i64 m)).setCell ⟨w.heap.size, 2, none⟩ (.bool st)) := ⟨_, rfl⟩
    rw [← hW] at hf hfb ⊢
    have f0 := hf.cell0
    have f1 := hf.cell1
    have f2 := hf.cell2
    refine bodyPost_ret (v := .tuple #[.agg #[.string (s.extract 0 en.toNat), .int .i64 m, .bool st], .int .i64 s.size, .int .i64 0]) (by simp [results, Tryz.results72, go_sem, f0, f1, f2]) rfl ⟨?_, hfb⟩
    have := HRR.out
    simp only [Prod.mk.injEq] at this
    obtain ⟨rfl, rfl, rfl, rfl, rfl⟩ := this
    rfl
   | false =>
    have hr := HR.out
    rw [if_neg (fun h => absurd h.2 (by simp)), if_neg (by omega)] at hr
    have HRR := Lib.hid (Option.some.inj hr)
    clear hr HR
    go_wp2_with fail
    refine (vname_Bad.calls _ _ _ HBd.out).mono ?_
    rintro e w3 ⟨rfl, hb3⟩
    have hx3 := SpecCells.keep HX.out hb3
    have HX3 := Lib.hid hx3
    have HB3 := Lib.hid (below_then HBw.out HBw.out.size hb3)
    have z0 := hx3.cell0
    have z1 := hx3.cell1
    have z2 := hx3.cell2
    have v0 := hx3.free 0
    have v1 := hx3.free 1
    have v2 := hx3.free 2
    clear hx3 hb3 x0 x1 x2 y0 y1 y2 g0 g1 g2
    go_wp2
    obtain ⟨hf, hfb⟩ := takeEnd HX3.out HB3.out ⟨#[]⟩ 0 false
    obtain ⟨W, hW⟩ : ∃ W, W = (((w3.setCell ⟨w.heap.size, 0, none⟩ (.string ⟨#[]⟩)).setCell ⟨w.heap.size, 1, none⟩ (.int .i64 0)).setCell ⟨w.heap.size, 2, none⟩ (.bool false)) := ⟨_, rfl⟩
    rw [← hW] at hf hfb ⊢
    have f0 := hf.cell0
    have f1 := hf.cell1
    have f2 := hf.cell2
    refine bodyPost_ret (v := .tuple #[.agg #[.string ⟨#[]⟩, .int .i64 0, .bool false], .int .i64 (takeStop bd (en + n)), .int .i64 2]) (by simp [results, Tryz.results72, go_sem, takeStop, f0, f1, f2]) rfl ⟨?_, hfb⟩
    have := HRR.out
    simp only [Prod.mk.injEq] at this
    obtain ⟨rfl, rfl, rfl, rfl, rfl⟩ := this
    rfl
 · have q1 : decide (0 < en) = false := decide_eq_false h1
   have q2 : (en == 0) = true := beq_iff_eq.2 (by omega)
   have hr := HR.out
   rw [if_neg (fun h => h1 h.1), if_pos (by omega)] at hr
   have HRR := Lib.hid (Option.some.inj hr)
   clear hr HR
   obtain rfl : en = 0 := by omega
   go_wp2_with fail
   refine (vname_Bad.calls _ _ _ HBd.out).mono ?_
   rintro e w3 ⟨rfl, hb3⟩
   have hx3 := SpecCells.keep HX.out hb3
   have HX3 := Lib.hid hx3
   have HB3 := Lib.hid (below_then HBw.out HBw.out.size hb3)
   have z0 := hx3.cell0
   have z1 := hx3.cell1
   have z2 := hx3.cell2
   have v0 := hx3.free 0
   have v1 := hx3.free 1
   have v2 := hx3.free 2
   clear hx3 hb3 x0 x1 x2 y0 y1 y2 g0 g1 g2
   go_wp2
   obtain ⟨hf, hfb⟩ := takeEnd HX3.out HB3.out ⟨#[]⟩ 0 false
   obtain ⟨W, hW⟩ : ∃ W, W = (((w3.setCell ⟨w.heap.size, 0, none⟩ (.string ⟨#[]⟩)).setCell ⟨w.heap.size, 1, none⟩ (.int .i64 0)).setCell ⟨w.heap.size, 2, none⟩ (.bool false)) := ⟨_, rfl⟩
   rw [← hW] at hf hfb ⊢
   have f0 := hf.cell0
   have f1 := hf.cell1
   have f2 := hf.cell2
   refine bodyPost_ret (v := .tuple #[.agg #[.string ⟨#[]⟩, .int .i64 0, .bool false], .int .i64 (takeStop bd (0)), .int .i64 2]) (by simp [results, Tryz.results72, go_sem, takeStop, f0, f1, f2]) rfl ⟨?_, hfb⟩
   have := HRR.out
   simp only [Prod.mk.injEq] at this
   obtain ⟨rfl, rfl, rfl, rfl, rfl⟩ := this
   rfl
structure But (g : Nat) (w w' : World) : Prop where
 os : w'.os = w.os
 tape : w'.tape = w.tape
 output : w'.output = w.output
 size : w.heap.size ≤ w'.heap.size
 block : ∀ k, k < w.heap.size → k ≠ g → w'.heap[k]? = w.heap[k]?
theorem But.refl (g : Nat) (w : World) : But g w w := ⟨rfl, rfl, rfl, Nat.le_refl _, fun _ _ _ => rfl⟩
theorem But.trans {g : Nat} {w w1 w2 : World} (h : But g w w1) (k : But g w1 w2) : But g w w2 :=
 ⟨k.os.trans h.os, k.tape.trans h.tape, k.output.trans h.output, Nat.le_trans h.size k.size, fun i hi hg => (k.block i (Nat.lt_of_lt_of_le hi h.size) hg).trans (h.block i hi hg)⟩
theorem But.of {g : Nat} {w w1 : World} (h : Below w.heap.size w w1) : But g w w1 := ⟨h.os, h.tape, h.output, h.size, fun i hi _ => h.block i hi⟩
theorem But.then_ {g : Nat} {w w1 w2 : World} (h : But g w w1) (k : Below w1.heap.size w1 w2) : But g w w2 := h.trans (But.of k)
theorem But.set {g : Nat} {w w1 : World} (h : But g w w1) (j : Nat) (u : Value) : But g w (w1.setCell ⟨g, j, none⟩ u) :=
 ⟨h.os, h.tape, h.output, by simpa [World.setCell] using h.size, fun i hi hg => (Below.heap_setCell w1 ⟨g, j, none⟩ u i hg).trans (h.block i hi hg)⟩
theorem But.far {g : Nat} {w w1 : World} (h : But g w w1) {p : Addr} (hp : w.heap.size ≤ p.block) (u : Value) : But g w (w1.setCell p u) :=
 ⟨h.os, h.tape, h.output, by simpa [World.setCell] using h.size, fun i hi hg => (Below.heap_setCell w1 p u i (by omega)).trans (h.block i hi hg)⟩
theorem But.alloc {g : Nat} {w w1 : World} (h : But g w w1) (o : Obj) : But g w (w1.alloc o) := h.then_ ((Below.refl _ _).alloc (Nat.le_refl _) o)
theorem But.below {g B : Nat} {w0 w w1 : World} (h : But g w w1) (hb : Below B w0 w) (hg : B ≤ g) (hB : B ≤ w.heap.size) : Below B w0 w1 :=
 ⟨h.os.trans hb.os, h.tape.trans hb.tape, h.output.trans hb.output, Nat.le_trans hb.size h.size, fun k hk => (h.block k (by omega) (by omega)).trans (hb.block k hk)⟩
theorem But.gl {g : Nat} {w w1 : World} (h : But g w w1) (hG : Gl w) (h1 : g ≠ 1) (h2 : g ≠ 4) : Gl w1 := by
 have hh : ∀ k cs, k ≠ g → heldAt w k = some cs → heldAt w1 k = some cs := fun k cs hk hc => by
  have hlt : k < w.heap.size := by
   rcases Nat.lt_or_ge k w.heap.size with h' | h'
   · exact h'
   · simp [heldAt, Array.getElem?_eq_none h'] at hc
  unfold heldAt at hc ⊢
  rw [h.block k hlt hk]
  exact hc
 obtain ⟨te, pe, he⟩ := hG.err
 exact ⟨hh _ _ h1.symm hG.tab, te, pe, hh _ _ h2.symm he⟩
def Rd (w : World) (g : Nat) (s : ByteArray) (a : Int) (v : Value) : Prop := w.heap[g]? = some (.cells #[.string s, .int .i64 a, v] 48 (0, 0))
theorem Rd.cell0 {w : World} {g : Nat} {s : ByteArray} {a : Int} {v : Value} (h : Rd w g s a v) : w.cell? ⟨g, 0, none⟩ = some (.string s) := by unfold Rd at h; rw [Lib.cell_of_heap h]; rfl
theorem Rd.cell1 {w : World} {g : Nat} {s : ByteArray} {a : Int} {v : Value} (h : Rd w g s a v) : w.cell? ⟨g, 1, none⟩ = some (.int .i64 a) := by unfold Rd at h; rw [Lib.cell_of_heap h]; rfl
theorem Rd.cell2 {w : World} {g : Nat} {s : ByteArray} {a : Int} {v : Value} (h : Rd w g s a v) : w.cell? ⟨g, 2, none⟩ = some v := by unfold Rd at h; rw [Lib.cell_of_heap h]; rfl
theorem Rd.free {w : World} {g : Nat} {s : ByteArray} {a : Int} {v : Value} (h : Rd w g s a v) (j : Nat) : w.frozen? ⟨g, j, none⟩ = false := Lib.frozen_of_heap h j
theorem Rd.lt {w : World} {g : Nat} {s : ByteArray} {a : Int} {v : Value} (h : Rd w g s a v) : g < w.heap.size := (Array.getElem?_eq_some_iff.1 h).1
theorem Rd.keep {w w' : World} {g : Nat} {s : ByteArray} {a : Int} {v : Value} (h : Rd w g s a v) (hb : Below w.heap.size w w') : Rd w' g s a v := (hb.block g h.lt).trans h
theorem Rd.setAt {w : World} {g : Nat} {s : ByteArray} {a : Int} {v : Value} (h : Rd w g s a v) (k : Int) : Rd (w.setCell ⟨g, 1, none⟩ (.int .i64 k)) g s k v := heap_setCell_same _ _ 1 _ _ _ h
theorem Rd.setParts {w : World} {g : Nat} {s : ByteArray} {a : Int} {v : Value} (h : Rd w g s a v) (u : Value) : Rd (w.setCell ⟨g, 2, none⟩ u) g s a u := heap_setCell_same _ _ 2 _ _ _ h
theorem Rd.far {w : World} {g : Nat} {s : ByteArray} {a : Int} {v : Value} (h : Rd w g s a v) {p : Addr} (hp : g ≠ p.block) (u : Value) : Rd (w.setCell p u) g s a v := (Below.heap_setCell w p u g hp).trans h
theorem Rd.drew {w : World} {g : Nat} {s : ByteArray} {a : Int} {v : Value} (h : Rd w g s a v) : Rd w.drew g s a v := h
set_option maxRecDepth 100000 in
set_option maxHeartbeats 800000 in
theorem text_rest.calls (w : World) (g : Nat) (s : ByteArray) (a : Int) (v : Value) (hr : Rd w g s a v) (h0 : 0 ≤ a) (h1 : a ≤ s.size) (hs : s.size ≤ 1099511627776) :
 Calls Tryz.prog 22 #[.pointer (some ⟨g, 0, none⟩)] w fun e w' => e = .returned (.string (s.extract a.toNat s.size)) ∧ Drawn0 w w' := by
 have c0 := hr.cell0
 have c1 := hr.cell1
 have hsl : ∀ W : World, (Instr.slice 9 (.string s) (some (.int .i64 a)) none none).run Tryz.prog W = .ok (.string (s.extract a.toNat s.size)) W := fun W => run_slice_string_l W 9 s Tryz.underlying9 .i64 a (by omega) (by omega)
 clear hr
 go_enter Tryz.func22, Tryz.ntmps22
 go_wp2
 go_quiet (fail)
 go_wp2
 go_ret
 exact ⟨rfl, ⟨_, rfl⟩⟩
theorem anyFrom_spec (s : ByteArray) : ∀ (k p : Nat), anyFrom s k p = -1 ∨ ((p : Int) ≤ anyFrom s k p ∧ anyFrom s k p < s.size ∧ (bt s (anyFrom s k p) = 44 ∨ bt s (anyFrom s k p) = 125))
 | 0, p => .inl rfl
 | k + 1, p => by
  rw [anyFrom]
  split
  · rename_i hlt
    split
    · rename_i hc
      right
      refine ⟨Int.le_refl _, by omega, ?_⟩
      have hb := bt_at s p (by simpa using hlt)
      by_cases ha : (s[p]'hlt).toNat < 128
      · have hd := decode_ascii s p hlt ha
        rw [hd] at hc
        rw [← hb]
        exact hc
      · have hd := (decode_high s p hlt (by omega)).1
        omega
    · have hp := decode_pos s p hlt
      rcases anyFrom_spec s k (p + (Utf8.decode s p).2) with h | ⟨h1, h2, h3⟩
      · exact .inl h
      · exact .inr ⟨by omega, h2, h3⟩
  · exact .inl rfl
theorem take_bounds {s : ByteArray} {r1 : ByteArray} {r2 : Int} {r3 : Bool} {r4 r5 : Int} (h : spec_Take.f s = some (r1, r2, r3, r4, r5)) : 0 ≤ r4 ∧ r4 ≤ s.size ∧ (r5 = 0 → r4 = s.size) ∧ (r5 = 0 ∨ r5 = 2) := by
 unfold spec_Take.f at h
 obtain ⟨en, hen, h⟩ := Option.bind_eq_some_iff.1 h
 obtain ⟨⟨n, whole, m, st⟩, hbe, h⟩ := Option.bind_eq_some_iff.1 h
 obtain ⟨bd, hbd, h⟩ := Option.bind_eq_some_iff.1 h
 obtain ⟨he0, he1⟩ := vname_End_bounds hen
 have hnb := behind_bounds hbe
 rw [ByteArray.size_extract] at hnb
 have hb : 0 ≤ bd ∧ bd ≤ s.size := by
  unfold vname_Bad.f vname_ends.f at hbd
  split at hbd
  · simp only [Option.bind_some, Option.some.injEq] at hbd
    have := endsFrom_bounds s (s.size + 1) 0 0 (by omega) (by omega) (by omega)
    omega
  · simp at hbd
 simp only at h
 split at h
 · simp only [Option.some.injEq, Prod.mk.injEq] at h
   omega
 · simp only [Option.some.injEq, Prod.mk.injEq, takeStop] at h
   obtain ⟨_, _, _, h4, h5⟩ := h
   split at h4 <;> omega
def reader_spec.f (s : ByteArray) (a : Int) : Option (Bool × (ByteArray × Int × Bool) × Int × Int) :=
 let one := s.extract a.toNat s.size
 let i := anyFrom one one.size 0
 (spec_Take.f (if i ≥ 0 then one.extract 0 i.toNat else one)).bind fun t =>
  if t.2.2.2.2 = 0 ∧ i ≥ 0 then some (true, (t.1, t.2.1, t.2.2.1), bt one i, a + t.2.2.2.1 + 1) else some (false, (⟨#[]⟩, 0, false), 0, a + t.2.2.2.1)
def wrongAt (n : Int) : Ending := .panicked [{ v := .iface 49 (.int .i64 n), recovered := false }]
theorem reads_two (w : World) (a b : Int) : ReadsInt (w.alloc (.cells #[.int .u8 a, .int .u8 b] 5)) .u8 (some ⟨w.heap.size, 0, none⟩) 2 [a, b] := by
 refine ⟨rfl, by omega, fun _ => ⟨_, rfl, fun j hj => ?_⟩⟩
 have hadd : (⟨w.heap.size, 0, none⟩ : Addr).add j = ⟨w.heap.size, j, none⟩ := by unfold Addr.add; split <;> simp_all
 rw [hadd]
 have : j = 0 ∨ j = 1 := by omega
 rcases this with rfl | rfl <;> simp
theorem SpecCells.far {w : World} {g : Nat} {nm : ByteArray} {m : Int} {st : Bool} (h : SpecCells w g nm m st) {p : Addr} (hp : g ≠ p.block) (u : Value) : SpecCells (w.setCell p u) g nm m st := (Below.heap_setCell w p u g hp).trans h
theorem specDone {w W : World} {g b : Nat} {s : ByteArray} {a : Int} {v : Value} (hr : Rd W g s a v) (hx : SpecCells W b ⟨#[]⟩ 0 false) (hb : But g w W) (hne : g ≠ b) (hwb : w.heap.size ≤ b) (a1 a2 : Int) (nm : ByteArray) (m : Int) (st : Bool) (o : Obj) :
 Rd ((((((W.setCell ⟨g, 1, none⟩ (.int .i64 a1)).setCell ⟨g, 1, none⟩ (.int .i64 a2)).setCell ⟨b, 0, none⟩ (.string nm)).setCell ⟨b, 1, none⟩ (.int .i64 m)).setCell ⟨b, 2, none⟩ (.bool st)).alloc o) g s a2 v ∧
 SpecCells ((((((W.setCell ⟨g, 1, none⟩ (.int .i64 a1)).setCell ⟨g, 1, none⟩ (.int .i64 a2)).setCell ⟨b, 0, none⟩ (.string nm)).setCell ⟨b, 1, none⟩ (.int .i64 m)).setCell ⟨b, 2, none⟩ (.bool st)).alloc o) b nm m st ∧
 But g w ((((((W.setCell ⟨g, 1, none⟩ (.int .i64 a1)).setCell ⟨g, 1, none⟩ (.int .i64 a2)).setCell ⟨b, 0, none⟩ (.string nm)).setCell ⟨b, 1, none⟩ (.int .i64 m)).setCell ⟨b, 2, none⟩ (.bool st)).alloc o) :=
 ⟨(((((hr.setAt a1).setAt a2).far hne _).far hne _).far hne _).keep ((Below.refl _ _).alloc (Nat.le_refl _) _),
  (((((hx.far (Ne.symm hne) _).far (Ne.symm hne) _).setName nm).setMax m).setStar st).keep ((Below.refl _ _).alloc (Nat.le_refl _) _),
  (((((hb.set 1 _).set 1 _).far (p := ⟨b, 0, none⟩) hwb _).far (p := ⟨b, 1, none⟩) hwb _).far (p := ⟨b, 2, none⟩) hwb _).alloc _⟩
set_option maxRecDepth 100000 in
set_option maxHeartbeats 2000000 in
theorem reader_spec.calls (w : World) (g : Nat) (s : ByteArray) (a : Int) (v : Value) (ok : Bool) (nm : ByteArray) (m : Int) (st : Bool) (c a' : Int) (hr : Rd w g s a v) (h0 : 0 ≤ a) (h1 : a ≤ s.size) (hs : s.size ≤ 1099511627776) (hG : Gl w)
 (h : reader_spec.f s a = some (ok, (nm, m, st), c, a')) :
 Calls Tryz.prog 53 #[.pointer (some ⟨g, 0, none⟩)] w fun e w' =>
  (if ok = true then e = .returned (.tuple #[.agg #[.string nm, .int .i64 m, .bool st], .int .u8 c]) else e = wrongAt a') ∧ Rd w' g s a' v ∧ But g w w' := by
 unfold reader_spec.f at h
 obtain ⟨one, hone⟩ : ∃ one, one = s.extract a.toNat s.size := ⟨_, rfl⟩
 have hosz : one.size = s.size - a.toNat := by rw [hone, ByteArray.size_extract]; omega
 rw [← hone] at h
 simp only at h
 obtain ⟨i, hi⟩ : ∃ i, i = anyFrom one one.size 0 := ⟨_, rfl⟩
 have hsp := anyFrom_spec one one.size 0
 rw [← hi] at h hsp
 obtain ⟨⟨nm1, m1, st1, n, bad⟩, hta, h⟩ := Option.bind_eq_some_iff.1 h
 have htb := take_bounds hta
 have HONE := Lib.hid hone
 have HI := Lib.hid hi
 have HTA := Lib.hid hta
 have HG := Lib.hid hG
 have HRd := Lib.hid hr
 have HOS := Lib.hid hosz
 have hglt := hr.lt
 have HR := Lib.hid h
 clear hone hi hta hG hr h hosz
 go_enter Tryz.func53, Tryz.ntmps53
 go_wp2_with fail
 refine (text_rest.calls _ g s a v (HRd.out.keep ((Below.refl _ _).alloc (Nat.le_refl _) _)) h0 h1 hs).mono ?_
 rintro e w1 ⟨rfl, hb1⟩
 have HB1 := Lib.hid (((Below.refl _ _).alloc (Nat.le_refl _) _).trans (hb1.below.mono (by simp)))
 rw [← HONE.out]
 have hx1 : SpecCells w1 w.heap.size ⟨#[]⟩ 0 false := (hb1.below.block _ (by simp)).trans (heap_alloc_new w _)
 have HX1 := Lib.hid hx1
 clear hb1 hx1
 have hcv : ∀ W : World, (convert 58 9 (.slice (some ⟨W.heap.size, 0, none⟩) 2 2)).run Tryz.prog (W.alloc (.cells #[.int .u8 44, .int .u8 125] 5)) = .ok (.string twoEnds) (W.alloc (.cells #[.int .u8 44, .int .u8 125] 5)) := fun W => string_of_reads (c := 2) Tryz.underlying58 Tryz.underlying5 Tryz.underlying9 (reads_two W 44 125)
 have hsz1 : one.size ≤ 1099511627776 := by have := HOS.out; omega
 go_wp2_with fail
 refine (tmpl_anyAt.calls one hsz1 _).mono ?_
 rintro e w2 ⟨rfl, hb2⟩
 have HB2 := Lib.hid ((HB1.out.alloc HB1.out.size _).trans (hb2.mono (by simp; have := HB1.out.size; omega)))
 rw [← HI.out]
 have HX2 := Lib.hid ((HX1.out.keep ((Below.refl _ _).alloc (Nat.le_refl _) _)).keep hb2)
 clear hb2 hcv
 by_cases h2 : 0 ≤ i
 · have q1 : decide (0 ≤ i) = true := decide_eq_true h2
   rcases hsp with hsp | ⟨_, hi1, hi2⟩
   · omega
   have hsh : ∀ W : World, (Instr.slice 9 (.string one) none (some (.int .i64 i)) none).run Tryz.prog W = .ok (.string (one.extract 0 i.toNat)) W := fun W => run_slice_string_h W 9 one Tryz.underlying9 .i64 i h2 (by omega)
   have hix := bt_at one i
   obtain ⟨b, hb⟩ : ∃ b, b = bt one i := ⟨_, rfl⟩
   rw [← hb] at hi2 hix
   have HBt := Lib.hid hb
   have hlt : i.toNat < one.size := by omega
   have hta := HTA.out
   rw [if_pos h2] at hta htb
   have hn0 := htb.1
   have hn1 : n ≤ one.size := by have := htb.2.1; rw [ByteArray.size_extract] at this; omega
   have hn2 : bad = 0 ∨ bad = 2 := htb.2.2.2
   have HN := Lib.hid htb.2.2.1
   clear htb
   have HTA1 := Lib.hid hta
   clear hb hta HTA
   go_wp2_with fail
   go_quiet (fail)
   go_wp2_with fail
   refine (spec_Take.calls _ nm1 m1 st1 n bad _ (by rw [ByteArray.size_extract]; omega) (HG.out.keep (pw_below_drewN HB2.out nq)) HTA1.out).mono ?_
   rintro e w3 ⟨rfl, hb3⟩
   have HB3 := Lib.hid (below_then (pw_below_drewN HB2.out nq) (pw_below_drewN HB2.out nq).size hb3)
   have HX3 := Lib.hid (HX2.out.keep ((pw_below_drewN (Below.refl _ _) nq).trans hb3))
   have hrd3 := HRd.out.keep HB3.out
   have HRd3 := Lib.hid hrd3
   have r1 := hrd3.cell1
   have z1 := hrd3.free 1
   have hg3 := hrd3.lt
   have hne : ¬ g = w.heap.size := by omega
   have hlw := HX3.out.lt
   have x0 := HX3.out.cell0
   have x1 := HX3.out.cell1
   have x2 := HX3.out.cell2
   have y0 := HX3.out.free 0
   have y1 := HX3.out.free 1
   have y2 := HX3.out.free 2
   have hsum : a + n ≤ s.size := by have := HOS.out; omega
   clear hb3 hrd3
   by_cases hbad : bad = 0
   · have q2 : (bad == 0) = true := beq_iff_eq.2 hbad
     have q3 : (bad != 0) = false := by simp [hbad]
     have q4 : (b == 0) = false := beq_eq_false_iff_ne.2 (by omega)
     have hr := HR.out
     rw [if_pos ⟨hbad, h2⟩] at hr
     simp only [Option.some.injEq, Prod.mk.injEq] at hr
     obtain ⟨rfl, ⟨rfl, rfl, rfl⟩, rfl, rfl⟩ := hr
     clear HR hbad
     go_wp2
     obtain ⟨hf1, hf2, hf3⟩ := specDone HRd3.out HX3.out (But.of HB3.out) hne (Nat.le_refl _) (a + n) (a + n + 1) nm1 m1 st1 (.cells #[.string nm1, .int .i64 m1, .bool st1] 43)
     obtain ⟨W, hW⟩ : ∃ W, W = ((((((w3.setCell ⟨g, 1, none⟩ (.int .i64 (a + n))).setCell ⟨g, 1, none⟩ (.int .i64 (a + n + 1))).setCell ⟨w.heap.size, 0, none⟩ (.string nm1)).setCell ⟨w.heap.size, 1, none⟩ (.int .i64 m1)).setCell ⟨w.heap.size, 2, none⟩ (.bool st1)).alloc (.cells #[.string nm1, .int .i64 m1, .bool st1] 43)) := ⟨_, rfl⟩
     rw [← hW] at hf1 hf2 hf3 ⊢
     have f0 := hf2.cell0
     have f1 := hf2.cell1
     have f2 := hf2.cell2
     refine bodyPost_ret (v := .tuple #[.agg #[.string nm1, .int .i64 m1, .bool st1], .int .u8 b]) (by simp [results, Tryz.results53, go_sem, f0, f1, f2]) rfl ⟨?_, hf1, hf3⟩
     rw [HBt.out]
   · have q2 : (bad == 0) = false := beq_eq_false_iff_ne.2 hbad
     have q3 : (bad != 0) = true := bne_iff_ne.2 hbad
     have hr := HR.out
     rw [if_neg (fun h => hbad h.1)] at hr
     simp only [Option.some.injEq, Prod.mk.injEq] at hr
     obtain ⟨rfl, ⟨rfl, rfl, rfl⟩, rfl, rfl⟩ := hr
     clear HR
     go_wp2
     exact ⟨rfl, rfl, (HRd3.out.setAt _).keep ((Below.refl _ _).alloc (Nat.le_refl _) _), ((But.of HB3.out).set 1 _).alloc _⟩
 · have q1 : decide (0 ≤ i) = false := decide_eq_false h2
   have hta := HTA.out
   rw [if_neg h2] at hta htb
   have hn0 := htb.1
   have hn1 : n ≤ one.size := htb.2.1
   have hn2 : bad = 0 ∨ bad = 2 := htb.2.2.2
   clear htb hsp
   have HTA1 := Lib.hid hta
   clear hta HTA
   have hr := HR.out
   rw [if_neg (fun h => h2 h.2)] at hr
   simp only [Option.some.injEq, Prod.mk.injEq] at hr
   obtain ⟨rfl, ⟨rfl, rfl, rfl⟩, rfl, rfl⟩ := hr
   clear HR
   go_wp2_with fail
   refine (spec_Take.calls _ nm1 m1 st1 n bad _ hsz1 (HG.out.keep (HB2.out)) HTA1.out).mono ?_
   rintro e w3 ⟨rfl, hb3⟩
   have HB3 := Lib.hid (below_then (HB2.out) HB2.out.size hb3)
   have HX3 := Lib.hid (HX2.out.keep hb3)
   have hrd3 := HRd.out.keep HB3.out
   have HRd3 := Lib.hid hrd3
   have r1 := hrd3.cell1
   have z1 := hrd3.free 1
   have hg3 := hrd3.lt
   have hne : ¬ g = w.heap.size := by omega
   have hlw := HX3.out.lt
   have x0 := HX3.out.cell0
   have x1 := HX3.out.cell1
   have x2 := HX3.out.cell2
   have y0 := HX3.out.free 0
   have y1 := HX3.out.free 1
   have y2 := HX3.out.free 2
   have hsum : a + n ≤ s.size := by have := HOS.out; omega
   clear hb3 hrd3
   rcases hn2 with rfl | rfl
   · go_wp2
     exact ⟨rfl, rfl, (HRd3.out.setAt _).keep ((Below.refl _ _).alloc (Nat.le_refl _) _), ((But.of HB3.out).set 1 _).alloc _⟩
   · go_wp2
     exact ⟨rfl, rfl, (HRd3.out.setAt _).keep ((Below.refl _ _).alloc (Nat.le_refl _) _), ((But.of HB3.out).set 1 _).alloc _⟩
def stopFrom (k : Nat) (r : ByteArray) : Nat → Int → Option Int
 | 0, _ => none
 | d + 1, n => if n < r.size then (ucs_Fits.f k (r.extract 0 (n + 1).toNat)).bind fun b => if b = true then stopFrom k r d (n + 1) else some n else some n
def stopOf (k : Nat) (r : ByteArray) : Option Int :=
 if bt r 0 = 37 then some (if 1 < (r.size : Int) ∧ isHex (bt r 1).toNat = true then 2 else 1) else stopFrom k r (r.size + 1) 0
def reader_stop.f (k : Nat) (s : ByteArray) (a : Int) : Option Int := (stopOf k (s.extract a.toNat s.size)).map fun n => a + n
set_option maxRecDepth 100000 in
set_option maxHeartbeats 2000000 in
theorem reader_stop.calls (k : Nat) (w : World) (g : Nat) (s : ByteArray) (a : Int) (v : Value) (q : Int) (hr : Rd w g s a v) (h0 : 0 ≤ a) (h1 : a < s.size) (hs : s.size ≤ 1099511627776) (h : reader_stop.f k s a = some q) :
 Calls Tryz.prog 40 #[.pointer (some ⟨g, 0, none⟩)] w fun e w' => e = .returned (.int .i64 q) ∧ Below w.heap.size w w' := by
 unfold reader_stop.f at h
 obtain ⟨r, hr'⟩ : ∃ r, r = s.extract a.toNat s.size := ⟨_, rfl⟩
 have hrsz : r.size = s.size - a.toNat := by rw [hr', ByteArray.size_extract]; omega
 rw [← hr'] at h
 obtain ⟨p, hp, rfl⟩ := Option.map_eq_some_iff.1 h
 have HR := Lib.hid hr'
 have HS := Lib.hid hrsz
 have HRd := Lib.hid hr
 have hrp : 0 < r.size := by omega
 have hrs : r.size ≤ 1099511627776 := by omega
 clear h hr' hr hrsz
 unfold stopOf at hp
 have hix := bt_at r 0
 obtain ⟨c, hc⟩ : ∃ c, c = bt r 0 := ⟨_, rfl⟩
 rw [← hc] at hp hix
 have hix0 : ∀ h : 0 < r.size, ((r[0]'h).toNat : Int) = c := hix
 clear hc hix
 by_cases hc : c = 37
 · have q1 : (c == 37) = true := beq_iff_eq.2 hc
   rw [if_pos hc] at hp
   by_cases hn : (1 : Int) < r.size
   · have q2 : decide (1 < (r.size : Int)) = true := decide_eq_true hn
     have hix1 : ∀ h : 1 < r.size, ((r[1]'h).toNat : Int) = bt r 1 := bt_at r 1
     have hcr := bt_range r 1
     obtain ⟨c1, hc1⟩ : ∃ c, c = bt r 1 := ⟨_, rfl⟩
     rw [← hc1] at hix1 hcr hp
     obtain ⟨hcr0, hcr1⟩ := hcr
     have hn1 : 1 < r.size := by omega
     clear hc1 hc
     cases hb : isHex c1.toNat with
     | true =>
      rw [if_pos ⟨hn, hb⟩] at hp
      have HB := Lib.hid hb
      have HP := Lib.hid (Option.some.inj hp)
      clear hp hb
      go_enter Tryz.func40, Tryz.ntmps40
      go_wp2_with fail
      refine (text_rest.calls _ g s a v HRd.out h0 (by omega) hs).mono ?_
      rintro e w1 ⟨rfl, hb1⟩
      rw [← HR.out]
      have HB1 := Lib.hid hb1.below
      have hrd1 := HRd.out.keep hb1.below
      have c1 := hrd1.cell1
      have HRd1 := Lib.hid hrd1
      clear hb1 hrd1
      go_wp2_with fail
      have k1 := cell_regrown c1
      refine wp_region_quiet_below (by kernel_rfl) (by kernel_rfl) ?_
      repeat (go_big_quiet_step (first | (go_at_call 55; exact Calls.regrown_of (chars_Hex.calls _ _ rfl)) | exact Calls.regrown_of (chars_Set_Has.calls isHex _ true _ (by rw [chars_Set_Has.f, if_pos ⟨hcr0, hcr1⟩, HB.out]))))
      refine wpQuiet_nil ?_
      rintro _ ⟨⟨dq, osq⟩, rfl⟩
      have HBq := Lib.hid (HB1.out.trans ((below_regrown w1 dq osq).mono HB1.out.size))
      have c2 := k1 dq osq
      clear k1
      go_wp2
      go_ret
      rw [← HP.out]
      exact ⟨rfl, HBq.out⟩
     | false =>
      rw [if_neg (fun h => by rw [hb] at h; exact absurd h.2 (by simp))] at hp
      have HB := Lib.hid hb
      have HP := Lib.hid (Option.some.inj hp)
      clear hp hb
      go_enter Tryz.func40, Tryz.ntmps40
      go_wp2_with fail
      refine (text_rest.calls _ g s a v HRd.out h0 (by omega) hs).mono ?_
      rintro e w1 ⟨rfl, hb1⟩
      rw [← HR.out]
      have HB1 := Lib.hid hb1.below
      have hrd1 := HRd.out.keep hb1.below
      have c1 := hrd1.cell1
      have HRd1 := Lib.hid hrd1
      clear hb1 hrd1
      go_wp2_with fail
      have k1 := cell_regrown c1
      refine wp_region_quiet_below (by kernel_rfl) (by kernel_rfl) ?_
      repeat (go_big_quiet_step (first | (go_at_call 55; exact Calls.regrown_of (chars_Hex.calls _ _ rfl)) | exact Calls.regrown_of (chars_Set_Has.calls isHex _ false _ (by rw [chars_Set_Has.f, if_pos ⟨hcr0, hcr1⟩, HB.out]))))
      refine wpQuiet_nil ?_
      rintro _ ⟨⟨dq, osq⟩, rfl⟩
      have HBq := Lib.hid (HB1.out.trans ((below_regrown w1 dq osq).mono HB1.out.size))
      have c2 := k1 dq osq
      clear k1
      go_wp2
      go_ret
      rw [← HP.out]
      exact ⟨rfl, HBq.out⟩
   · have q2 : decide (1 < (r.size : Int)) = false := decide_eq_false hn
     rw [if_neg (fun h => hn h.1)] at hp
     have HP := Lib.hid (Option.some.inj hp)
     clear hp hc
     go_enter Tryz.func40, Tryz.ntmps40
     go_wp2_with fail
     refine (text_rest.calls _ g s a v HRd.out h0 (by omega) hs).mono ?_
     rintro e w1 ⟨rfl, hb1⟩
     rw [← HR.out]
     have HB1 := Lib.hid hb1.below
     have hrd1 := HRd.out.keep hb1.below
     have c1 := hrd1.cell1
     have HRd1 := Lib.hid hrd1
     clear hb1 hrd1
     go_wp2_with fail
     have k1 := cell_regrown c1
     refine wp_region_quiet_below (by kernel_rfl) (by kernel_rfl) ?_
     repeat (go_big_quiet_step (fail))
     refine wpQuiet_nil ?_
     rintro _ ⟨⟨dq, osq⟩, rfl⟩
     have HBq := Lib.hid (HB1.out.trans ((below_regrown w1 dq osq).mono HB1.out.size))
     have c2 := k1 dq osq
     clear k1
     go_wp2
     go_ret
     rw [← HP.out]
     exact ⟨rfl, HBq.out⟩
 · have q1 : (c == 37) = false := beq_eq_false_iff_ne.2 hc
   rw [if_neg hc] at hp
   have HP := Lib.hid hp
   clear hp hc
   go_enter Tryz.func40, Tryz.ntmps40
   go_wp2_with fail
   refine (text_rest.calls _ g s a v HRd.out h0 (by omega) hs).mono ?_
   rintro e w1 ⟨rfl, hb1⟩
   rw [← HR.out]
   have HB1 := Lib.hid hb1.below
   have hrd1 := HRd.out.keep hb1.below
   have c1 := hrd1.cell1
   have HRd1 := Lib.hid hrd1
   clear hb1 hrd1
   go_wp2
   go_loopw [5] (fun x wr => ∃ (d : Nat) (n : Int), x = .int .i64 n ∧ 0 ≤ n ∧ n ≤ r.size ∧ (r.size : Int) < n + d ∧ Hid (stopFrom k r d n = some p) ∧ Hid (Below w.heap.size w wr)) (fun x wr => r.size - (intOf x).toNat)
   case atStart => exact ⟨r.size + 1, 0, rfl, by omega, by omega, by omega, HP, HB1⟩
   case round =>
    obtain ⟨d, n, rfl, hn0, hn1, hd, HE, HBw⟩ := hrel
    cases d with
    | zero => omega
    | succ d =>
     have hE := HE.out
     rw [stopFrom] at hE
     by_cases hlt : n < r.size
     · rw [if_pos hlt] at hE
       obtain ⟨b, hb, hE⟩ := Option.bind_eq_some_iff.1 hE
       have HF := Lib.hid hb
       have q3 : decide (n < (r.size : Int)) = true := decide_eq_true hlt
       have hsl : ∀ W : World, (Instr.slice 9 (.string r) none (some (.int .i64 (n + 1))) none).run Tryz.prog W = .ok (.string (r.extract 0 (n + 1).toNat)) W := fun W => run_slice_string_h W 9 r Tryz.underlying9 .i64 (n + 1) (by omega) (by omega)
       clear hb
       cases b with
       | true =>
        rw [if_pos rfl] at hE
        have HE1 := Lib.hid hE
        clear hE HE
        go_wp2_with fail
        refine (ucs_Fits.calls k _ _ _ HF.out).mono ?_
        rintro e w2 ⟨rfl, hb2⟩
        have HB2 := Lib.hid (below_then HBw.out HBw.out.size hb2)
        clear hb2
        go_wp2
        go_roundw
        case rel => exact ⟨d, n + 1, by go_num, by omega, by omega, by omega, HE1, HB2⟩
        case measure => simp [intOf]; omega
       | false =>
        rw [if_neg (by simp)] at hE
        have HE1 := Lib.hid (Option.some.inj hE)
        clear hE HE
        go_wp2_with fail
        refine (ucs_Fits.calls k _ _ _ HF.out).mono ?_
        rintro e w2 ⟨rfl, hb2⟩
        have HB2 := Lib.hid (below_then HBw.out HBw.out.size hb2)
        have d1 := (HRd.out.keep HB2.out).cell1
        clear hb2
        go_wp2
        go_ret
        exact ⟨by show Ending.returned (.int .i64 (a + n)) = _; rw [HE1.out], HB2.out⟩
     · rw [if_neg hlt] at hE
       have q3 : decide (n < (r.size : Int)) = false := decide_eq_false hlt
       have HE1 := Lib.hid (Option.some.inj hE)
       clear hE HE
       have d1 := (HRd.out.keep HBw.out).cell1
       go_wp2
       go_ret
       exact ⟨by show Ending.returned (.int .i64 (a + n)) = _; rw [HE1.out], HBw.out⟩
theorem get_bs (s : ByteArray) (i : Nat) : (s.get! i).toNat = (bs s).getD i 0 := by
 by_cases h : i < s.size
 · obtain ⟨b, hb, he⟩ := bt_get s i h
   rw [List.getD_eq_getElem?_getD, hb, Option.getD_some]
   have h2 := bt_at s (i : Int) (by simpa using h)
   rw [he] at h2
   have e : s.get! i = s[i]'h := by
    cases s with
    | mk d =>
     show d[i]! = _
     rw [getElem!_pos d i h]
     rfl
   rw [e]
   have : ((s[i]'h).toNat : Int) = (b : Int) := h2
   omega
 · rw [List.getD_eq_getElem?_getD, List.getElem?_eq_none (by rw [bs_length]; omega)]
   cases s with
   | mk d =>
    show (d[i]!).toNat = 0
    rw [getElem!_neg d i h]
    rfl
def dec (l : List Nat) : Nat × Nat := Lib.decodeN l.length (l.getD 0 0) (l.getD 1 0) (l.getD 2 0) (l.getD 3 0)
theorem decode_bs (s : ByteArray) (p : Nat) : Utf8.decode s p = dec ((bs s).drop p) := by
 rw [Lib.decode_at, get_bs, get_bs, get_bs, get_bs, dec, List.length_drop, bs_length]
 simp only [List.getD_eq_getElem?_getD, List.getElem?_drop, Nat.add_zero]
def Fffd (l : List Nat) : Prop := ∃ r, l = 239 :: 191 :: 189 :: r
theorem dec_uAt (l : List Nat) (hl : ∀ b ∈ l, b < 256) (h0 : l ≠ []) : ((uAt l).2 ≠ 0 → dec l = uAt l ∧ ((uAt l).1 = 65533 → Fffd l)) ∧ ((uAt l).2 = 0 → dec l = (65533, 1) ∧ ¬ Fffd l) := by
 match l, hl, h0 with
 | [], _, h0 => exact absurd rfl h0
 | [b0], hl, _ =>
  have hb0 := hl b0 (by simp)
  simp only [uAt, dec, Lib.decodeN, List.length_cons, List.length_nil, List.getD_cons_zero]
  by_cases h : b0 < 128
  · rw [if_pos h, if_pos h]
    exact ⟨fun _ => ⟨rfl, fun g => by simp only at g; omega⟩, fun g => by cases g⟩
  · rw [if_neg h, if_neg h, if_neg (by omega), if_neg (by omega), if_neg (by omega)]
    exact ⟨fun g => absurd rfl g, fun _ => ⟨rfl, fun ⟨r, g⟩ => by cases g⟩⟩
 | b0 :: b1 :: r, hl, _ =>
  have hb0 := hl b0 (by simp)
  have hb1 := hl b1 (by simp)
  by_cases h : b0 < 128
  · simp only [uAt, dec, Lib.decodeN, List.getD_cons_zero]
    rw [if_pos h, if_pos h]
    exact ⟨fun _ => ⟨rfl, fun g => by simp only at g; omega⟩, fun g => by cases g⟩
  by_cases h2 : b0 / 32 = 6
  · rw [uAt2 h2]
    unfold u2
    have e : dec (b0 :: b1 :: r) = if b1 / 64 = 2 then (if b0 % 32 * 64 + b1 % 64 ≥ 128 then (b0 % 32 * 64 + b1 % 64, 2) else (65533, 1)) else (65533, 1) := by
     simp only [dec, Lib.decodeN, List.length_cons, List.getD_cons_zero, List.getD_cons_succ]
     rw [if_neg h]
     by_cases g : b1 / 64 = 2
     · rw [if_pos ⟨h2, by omega, g⟩, if_pos g]
     · rw [if_neg fun k => g k.2.2, if_neg g, if_neg (by omega), if_neg (by omega)]
    rw [e]
    have hnf : ¬ Fffd (b0 :: b1 :: r) := fun ⟨r', g⟩ => by have := (List.cons.inj g).1; omega
    by_cases g : b1 / 64 = 2
    · rw [if_pos g]
      by_cases g2 : 128 ≤ b0 % 32 * 64 + b1 % 64
      · rw [if_pos ⟨g, g2⟩, if_pos g2]
        exact ⟨fun _ => ⟨rfl, fun k => by simp only at k; omega⟩, fun k => by cases k⟩
      · rw [if_neg fun k => g2 k.2, if_neg g2]
        exact ⟨fun k => absurd rfl k, fun _ => ⟨rfl, hnf⟩⟩
    · rw [if_neg g, if_neg fun k => g k.1]
      exact ⟨fun k => absurd rfl k, fun _ => ⟨rfl, hnf⟩⟩
  match r, hl with
  | [], _ =>
   simp only [uAt, dec, Lib.decodeN, List.length_cons, List.length_nil, List.getD_cons_zero, List.getD_cons_succ]
   rw [if_neg h, if_neg h2, if_neg h, if_neg (by omega), if_neg (by omega), if_neg (by omega)]
   exact ⟨fun g => absurd rfl g, fun _ => ⟨rfl, fun ⟨r, g⟩ => by cases g⟩⟩
  | b2 :: r, hl =>
   have hb2 := hl b2 (by simp)
   by_cases h3 : b0 / 16 = 14
   · rw [uAt3 h3]
     unfold u3 MayR
     have e : dec (b0 :: b1 :: b2 :: r) = if b1 / 64 = 2 ∧ b2 / 64 = 2 then (if b0 % 16 * 4096 + b1 % 64 * 64 + b2 % 64 ≥ 2048 ∧ (b0 % 16 * 4096 + b1 % 64 * 64 + b2 % 64 < 55296 ∨ (57344 ≤ b0 % 16 * 4096 + b1 % 64 * 64 + b2 % 64 ∧ b0 % 16 * 4096 + b1 % 64 * 64 + b2 % 64 ≤ 1114111)) then (b0 % 16 * 4096 + b1 % 64 * 64 + b2 % 64, 3) else (65533, 1)) else (65533, 1) := by
      simp only [dec, Lib.decodeN, List.length_cons, List.getD_cons_zero, List.getD_cons_succ]
      rw [if_neg h, if_neg (by omega)]
      by_cases g : b1 / 64 = 2 ∧ b2 / 64 = 2
      · rw [if_pos ⟨h3, ⟨by omega, g.1⟩, by omega, g.2⟩, if_pos g]
      · rw [if_neg fun k => g ⟨k.2.1.2, k.2.2.2⟩, if_neg g, if_neg (by omega)]
     rw [e]
     have hff : Fffd (b0 :: b1 :: b2 :: r) → b0 % 16 * 4096 + b1 % 64 * 64 + b2 % 64 = 65533 ∧ b1 / 64 = 2 ∧ b2 / 64 = 2 := by
      rintro ⟨r', g⟩
      simp only [List.cons.injEq] at g
      omega
     have hff2 : b0 % 16 * 4096 + b1 % 64 * 64 + b2 % 64 = 65533 → b1 / 64 = 2 → b2 / 64 = 2 → Fffd (b0 :: b1 :: b2 :: r) := by
      intro g1 g2 g3
      refine ⟨r, ?_⟩
      simp only [List.cons.injEq, and_true]
      omega
     by_cases g : b1 / 64 = 2 ∧ b2 / 64 = 2
     · rw [if_pos g]
       by_cases g2 : b0 % 16 * 4096 + b1 % 64 * 64 + b2 % 64 ≥ 2048 ∧ (b0 % 16 * 4096 + b1 % 64 * 64 + b2 % 64 < 55296 ∨ (57344 ≤ b0 % 16 * 4096 + b1 % 64 * 64 + b2 % 64 ∧ b0 % 16 * 4096 + b1 % 64 * 64 + b2 % 64 ≤ 1114111))
       · rw [if_pos g2, if_pos ⟨g.1, g.2, g2.1, by omega, by omega⟩]
         exact ⟨fun _ => ⟨rfl, fun k => hff2 k g.1 g.2⟩, fun k => by cases k⟩
       · rw [if_neg g2, if_neg fun k => g2 ⟨k.2.2.1, by omega⟩]
         exact ⟨fun k => absurd rfl k, fun _ => ⟨rfl, fun k => by have := hff k; omega⟩⟩
     · rw [if_neg g, if_neg fun k => g ⟨k.1, k.2.1⟩]
       exact ⟨fun k => absurd rfl k, fun _ => ⟨rfl, fun k => g (hff k).2⟩⟩
   have hnf : ¬ Fffd (b0 :: b1 :: b2 :: r) := fun ⟨r', g⟩ => by have := (List.cons.inj g).1; omega
   match r, hl with
   | [], _ =>
    simp only [uAt, dec, Lib.decodeN, List.length_cons, List.length_nil, List.getD_cons_zero, List.getD_cons_succ]
    rw [if_neg h, if_neg h2, if_neg h3, if_neg h, if_neg (by omega), if_neg (by omega), if_neg (by omega)]
    exact ⟨fun g => absurd rfl g, fun _ => ⟨rfl, hnf⟩⟩
   | b3 :: r, hl =>
    have hb3 := hl b3 (by simp)
    by_cases h4 : b0 / 8 = 30
    · rw [uAt4 h4]
      unfold u4 MayR
      have e : dec (b0 :: b1 :: b2 :: b3 :: r) = if b1 / 64 = 2 ∧ b2 / 64 = 2 ∧ b3 / 64 = 2 then (if b0 % 8 * 262144 + b1 % 64 * 4096 + b2 % 64 * 64 + b3 % 64 ≥ 65536 ∧ (b0 % 8 * 262144 + b1 % 64 * 4096 + b2 % 64 * 64 + b3 % 64 < 55296 ∨ (57344 ≤ b0 % 8 * 262144 + b1 % 64 * 4096 + b2 % 64 * 64 + b3 % 64 ∧ b0 % 8 * 262144 + b1 % 64 * 4096 + b2 % 64 * 64 + b3 % 64 ≤ 1114111)) then (b0 % 8 * 262144 + b1 % 64 * 4096 + b2 % 64 * 64 + b3 % 64, 4) else (65533, 1)) else (65533, 1) := by
       simp only [dec, Lib.decodeN, List.length_cons, List.getD_cons_zero, List.getD_cons_succ]
       rw [if_neg h, if_neg (by omega), if_neg (by omega)]
       by_cases g : b1 / 64 = 2 ∧ b2 / 64 = 2 ∧ b3 / 64 = 2
       · rw [if_pos ⟨h4, ⟨by omega, g.1⟩, ⟨by omega, g.2.1⟩, by omega, g.2.2⟩, if_pos g]
       · rw [if_neg fun k => g ⟨k.2.1.2, k.2.2.1.2, k.2.2.2.2⟩, if_neg g]
      rw [e]
      by_cases g : b1 / 64 = 2 ∧ b2 / 64 = 2 ∧ b3 / 64 = 2
      · rw [if_pos g]
        by_cases g2 : b0 % 8 * 262144 + b1 % 64 * 4096 + b2 % 64 * 64 + b3 % 64 ≥ 65536 ∧ (b0 % 8 * 262144 + b1 % 64 * 4096 + b2 % 64 * 64 + b3 % 64 < 55296 ∨ (57344 ≤ b0 % 8 * 262144 + b1 % 64 * 4096 + b2 % 64 * 64 + b3 % 64 ∧ b0 % 8 * 262144 + b1 % 64 * 4096 + b2 % 64 * 64 + b3 % 64 ≤ 1114111))
        · rw [if_pos g2, if_pos ⟨g.1, g.2.1, g.2.2, g2.1, by omega, by omega⟩]
          exact ⟨fun _ => ⟨rfl, fun k => by simp only at k; omega⟩, fun k => by cases k⟩
        · rw [if_neg g2, if_neg fun k => g2 ⟨k.2.2.2.1, by omega⟩]
          exact ⟨fun k => absurd rfl k, fun _ => ⟨rfl, hnf⟩⟩
      · rw [if_neg g, if_neg fun k => g ⟨k.1, k.2.1, k.2.2.1⟩]
        exact ⟨fun k => absurd rfl k, fun _ => ⟨rfl, hnf⟩⟩
    · simp only [uAt, dec, Lib.decodeN, List.length_cons, List.getD_cons_zero, List.getD_cons_succ]
      rw [if_neg h, if_neg h2, if_neg h3, if_neg h4, if_neg h, if_neg (by omega), if_neg (by omega), if_neg (by omega)]
      exact ⟨fun g => absurd rfl g, fun _ => ⟨rfl, hnf⟩⟩
theorem enc_fffd : (Utf8.encode 65533).toList = [239, 191, 189] := by decide +kernel
theorem fffd_iff (s : ByteArray) (p : Nat) (hp : p < s.size) : Fffd ((bs s).drop p) ↔ ¬ ((decide (s.size - p < 3) || (s.extract p (p + 3)).toList != (Utf8.encode 65533).toList) = true) := by
 rw [enc_fffd]
 have e : (s.extract p (p + 3)).toList = ([239, 191, 189] : List UInt8) ↔ ((bs s).drop p).take 3 = [239, 191, 189] := by
  rw [toList_is, bs_extract, List.drop_take, show p + 3 - p = 3 by omega]
  rfl
 simp only [Bool.or_eq_true, decide_eq_true_eq, bne_iff_ne, ne_eq, e, not_or, Classical.not_not]
 constructor
 · rintro ⟨r, h⟩
   have hl := congrArg List.length h
   rw [List.length_drop, bs_length] at hl
   simp only [List.length_cons] at hl
   exact ⟨by omega, by rw [h]; rfl⟩
 · rintro ⟨-, h⟩
   refine ⟨((bs s).drop p).drop 3, ?_⟩
   conv => lhs; rw [← List.take_append_drop 3 ((bs s).drop p), h]
   rfl
theorem bs_drop_lt (s : ByteArray) (p : Nat) : ∀ b ∈ (bs s).drop p, b < 256 := fun b hb => bs_lt s b (List.mem_of_mem_drop hb)
theorem badAt_uAt (s : ByteArray) (p : Nat) (hp : p < s.size) : badAt s p = true ↔ (uAt ((bs s).drop p)).2 = 0 := by
 have hne : (bs s).drop p ≠ [] := by
  intro g
  have := congrArg List.length g
  rw [List.length_drop, bs_length] at this
  simp only [List.length_nil] at this
  omega
 obtain ⟨h1, h2⟩ := dec_uAt _ (bs_drop_lt s p) hne
 have h3 := fffd_iff s p hp
 unfold badAt
 rw [decode_bs, Bool.and_eq_true, beq_iff_eq]
 by_cases h : (uAt ((bs s).drop p)).2 = 0
 · obtain ⟨g1, g2⟩ := h2 h
   rw [g1]
   rw [h3, Classical.not_not] at g2
   exact ⟨fun _ => h, fun _ => ⟨rfl, g2⟩⟩
 · obtain ⟨g1, g2⟩ := h1 h
   rw [g1]
   constructor
   · rintro ⟨k1, k2⟩
     exact absurd k2 (h3.1 (g2 k1))
   · intro k
     exact absurd k h
theorem chars_bad (s : ByteArray) (k p : Nat) (h : (uAt ((bs s).drop p)).2 = 0) : charsFrom s k p = ([], p) := by
 refine charsFrom_stop fun ⟨g1, g2⟩ => ?_
 rw [(badAt_uAt s p g1).2 h] at g2
 cases g2
theorem uAt_lt (s : ByteArray) (p : Nat) (h : (uAt ((bs s).drop p)).2 ≠ 0) : p < s.size := by
 refine Classical.byContradiction fun g => ?_
 rw [List.drop_eq_nil_of_le (by rw [bs_length]; omega)] at h
 exact h rfl
theorem chars_good (s : ByteArray) (k p : Nat) (h : (uAt ((bs s).drop p)).2 ≠ 0) : charsFrom s (k + 1) p = (((uAt ((bs s).drop p)).1 : Int) :: (charsFrom s k (p + (uAt ((bs s).drop p)).2)).1, (charsFrom s k (p + (uAt ((bs s).drop p)).2)).2) := by
 have hp := uAt_lt s p h
 have hb : badAt s p = false := by
  cases e : badAt s p with
  | false => rfl
  | true => exact absurd ((badAt_uAt s p hp).1 e) h
 have hne : (bs s).drop p ≠ [] := fun g => by
  rw [g] at h
  exact h rfl
 rw [charsFrom_step hp hb, decode_bs, ((dec_uAt _ (bs_drop_lt s p) hne).1 h).1]
theorem chars_ge (s : ByteArray) : ∀ k p, p ≤ (charsFrom s k p).2
 | 0, p => Nat.le_refl _
 | k + 1, p => by
  by_cases h : (uAt ((bs s).drop p)).2 = 0
  · rw [chars_bad s _ p h]
    exact Nat.le_refl _
  · rw [chars_good s k p h]
    have := chars_ge s k (p + (uAt ((bs s).drop p)).2)
    simp only
    omega
theorem uAt_le (l : List Nat) : (uAt l).2 ≤ l.length := by
 match l with
 | [] => exact Nat.le_refl _
 | b0 :: r =>
  rcases uAt_width b0 r with h | ⟨h1, h2, -⟩
  · omega
  · rw [List.length_cons]
    omega
theorem uAt_take {l : List Nat} {m : Nat} (h : (uAt l).2 ≤ m) (h0 : (uAt l).2 ≠ 0) : uAt (l.take m) = uAt l := by
 match l, h, h0 with
 | [], _, h0 => exact absurd rfl h0
 | b0 :: r, h, h0 =>
  rcases uAt_width b0 r with g | ⟨g1, -, -, g4⟩
  · exact absurd g h0
  · exact g4 m (by omega)
theorem chars_one (s : ByteArray) (h0 : (uAt (bs s)).2 ≠ 0) (h : (uAt (bs s)).2 = s.size) : charsFrom s s.size 0 = ([((uAt (bs s)).1 : Int)], s.size) := by
 obtain ⟨k, hk⟩ : ∃ k, s.size = k + 1 := ⟨s.size - 1, by omega⟩
 have e := chars_good s k 0 (by rw [List.drop_zero]; exact h0)
 rw [List.drop_zero, Nat.zero_add, h, chars_bad s k s.size (by rw [List.drop_eq_nil_of_le (by rw [bs_length]; exact Nat.le_refl _)]; rfl)] at e
 conv => lhs; rw [hk]
 exact e
theorem prog_prefix (s : ByteArray) (hs : s.size ≤ 1099511627776) : ∃ one, utf_Prefix.f s 1 = some one ∧ bs one = (bs s).take (uAt (bs s)).2 := by
 unfold utf_Prefix.f
 rw [if_pos hs]
 refine ⟨_, rfl, ?_⟩
 by_cases h : (uAt (bs s)).2 = 0
 · rw [chars_bad s _ 0 (by rw [List.drop_zero]; exact h), h]
   have e : bs (s.extract 0 0) = [] := by rw [bs_upto]; rfl
   rw [bs_upto, e]
   simp
 · have hp := uAt_lt s 0 (by rw [List.drop_zero]; exact h)
   have hP := chars_ge s (s.size - 1) (uAt (bs s)).2
   have hC : (charsFrom s s.size 0).2 = (charsFrom s (s.size - 1) (uAt (bs s)).2).2 := by
    obtain ⟨k, hk⟩ : ∃ k, s.size = k + 1 := ⟨s.size - 1, by omega⟩
    have e := chars_good s k 0 (by rw [List.drop_zero]; exact h)
    rw [List.drop_zero, Nat.zero_add] at e
    rw [hk, e]
    rfl
   have hle := charsFrom_le s s.size 0 (Nat.zero_le _)
   rw [← hC] at hP
   generalize hp' : (charsFrom s s.size 0).2 = p at *
   have hq : bs (s.extract 0 p) = (bs s).take p := bs_upto s p
   have hsz : (s.extract 0 p).size = p := bs_size_upto s p hle
   have hu : uAt (bs (s.extract 0 p)) = uAt (bs s) := by rw [hq]; exact uAt_take hP h
   have hd : (Utf8.decode (s.extract 0 p) 0).2 = (uAt (bs s)).2 := by
    have hne : bs (s.extract 0 p) ≠ [] := fun g => by
     rw [g] at hu
     rw [← hu] at h
     exact h rfl
    rw [decode_bs, List.drop_zero, ((dec_uAt _ (bs_lt _) hne).1 (by rw [hu]; exact h)).1, hu]
   have hpos : prefPos (s.extract 0 p) 1 ((s.extract 0 p).size + 1) 0 0 = (uAt (bs s)).2 := by
    rw [prefPos, if_pos (by omega), if_neg (by omega), hd]
    obtain ⟨k, hk⟩ : ∃ k, (s.extract 0 p).size = k + 1 := ⟨(s.extract 0 p).size - 1, by omega⟩
    rw [hk, prefPos]
    by_cases g : 0 + (uAt (bs s)).2 < (s.extract 0 p).size
    · rw [if_pos g, if_pos (by omega), Nat.zero_add]
    · rw [if_neg g]
      omega
   rw [hpos, bs_upto, hq, List.take_take, Nat.min_eq_left hP]
theorem meets_one (c : Nat) : meetsFrom (c : Int) (c : Int) 19 0 = decide (MayC c) := by
 rw [mt_le (Nat.le_refl _)]
 rw [Bool.eq_iff_iff, mt_iff, decide_eq_true_eq]
 constructor
 · rintro ⟨x, h1, h2, h3⟩
   obtain rfl : x = c := by omega
   exact h3
 · intro h
   exact ⟨c, Nat.le_refl _, Nat.le_refl _, h⟩
theorem prog_take (s : ByteArray) (hs : s.size ≤ 1099511627776) : ∃ c : Int, Ev (fun k => ucs_Take.f k s) (c, (ucsAt (bs s) : Int)) := by
 obtain ⟨one, h1, h2⟩ := prog_prefix s hs
 have hle := uAt_le (bs s)
 have hsz : one.size = (uAt (bs s)).2 := by rw [← bs_length, h2, List.length_take]; omega
 have hsz2 : one.size ≤ 1099511627776 := by rw [hsz]; rw [bs_length] at hle; omega
 rw [ucs_uAt _ (bs_lt s)]
 by_cases h : (uAt (bs s)).2 = 0
 · rw [if_pos h]
   have hc : utf_Chars.f one = some ([], true) := by
    unfold utf_Chars.f
    have e : one.size = 0 := by omega
    rw [if_pos hsz2, e]
    rfl
   refine ⟨0, Ev.congr (fun k => by simp only [ucs_Take.f]; rw [h1, Option.bind_some, hc, Option.bind_some]) (Ev.step (f := fun _ => some (0, 0)) (fun k => by simp only [ucs_Take.l0]; rw [if_neg (by simp)]) (Ev.now _))⟩
 · rw [if_neg h]
   have hu : uAt (bs one) = uAt (bs s) := by rw [h2]; exact uAt_take (Nat.le_refl _) h
   have hch := chars_one one (by rw [hu]; exact h) (by rw [hu]; exact hsz.symm)
   rw [hu] at hch
   have hc : utf_Chars.f one = some ([((uAt (bs s)).1 : Int)], true) := by
    unfold utf_Chars.f
    rw [if_pos hsz2, hch, if_neg (by simp)]
   have hm : ucs_May.f ((uAt (bs s)).1 : Int) = some (decide (MayC (uAt (bs s)).1)) := by
    unfold ucs_May.f ucs_meets.f
    rw [meets_one]
    rfl
   have hl : ∀ r, Ev (fun k => if MayC (uAt (bs s)).1 then some (((uAt (bs s)).1 : Int), (one.size : Int)) else some (0, 0)) r → Ev (fun k => ucs_Take.f k s) r := by
    intro r hr
    refine Ev.congr (f := fun k => ucs_Take.l0 k one [((uAt (bs s)).1 : Int)] 1 0) (fun k => by simp only [ucs_Take.f]; rw [h1, Option.bind_some, hc, Option.bind_some]; rfl) ?_
    by_cases g : MayC (uAt (bs s)).1
    · refine Ev.step (f := fun k => if MayC (uAt (bs s)).1 then some (((uAt (bs s)).1 : Int), (one.size : Int)) else some (0, 0)) (fun k => ?_) hr
      simp only [ucs_Take.l0]
      rw [if_pos (by omega), if_pos (by omega), if_pos (by simp), show rd [((uAt (bs s)).1 : Int)] 0 = ((uAt (bs s)).1 : Int) from rfl, hm, Option.bind_some, decide_eq_true g, if_pos rfl, if_pos g]
    · refine Ev.step (f := fun k => ucs_Take.l0 k one [((uAt (bs s)).1 : Int)] 1 1) (fun k => ?_) (Ev.step (f := fun k => if MayC (uAt (bs s)).1 then some (((uAt (bs s)).1 : Int), (one.size : Int)) else some (0, 0)) (fun k => ?_) hr)
      · simp only [ucs_Take.l0]
        rw [if_pos (by omega), if_pos (by omega), if_pos (by simp), show rd [((uAt (bs s)).1 : Int)] 0 = ((uAt (bs s)).1 : Int) from rfl, hm, Option.bind_some, decide_eq_false g, if_neg (by simp), w64 (n := 0 + 1) (by omega) (by omega)]
        rfl
      · simp only [ucs_Take.l0]
        rw [if_neg (by omega), if_neg g]
   by_cases g : MayC (uAt (bs s)).1
   · rw [if_pos g, ← hsz]
     exact ⟨_, hl _ (Ev.pos g (Ev.now _))⟩
   · rw [if_neg g]
     exact ⟨0, hl _ (Ev.neg g (Ev.now _))⟩
theorem prog_digit {b : Nat} (h : b < 256) : ∃ n : Int, Ev (fun k => pct_Digit.f k (b : Int)) (n, isHex b) := by
 have : ∀ b : Fin 256, ∃ n : Fin 16, pct_Digit.f 20 ((b.1 : Nat) : Int) = some (((n.1 : Nat) : Int), isHex b.1) := by decide +kernel
 obtain ⟨n, hn⟩ := this ⟨b, h⟩
 exact ⟨_, Ev.of (fun k => pct_Digit.mono _ k) hn⟩
theorem prog_trip (s : ByteArray) : Ev (fun k => pct_Triplet.f k s) (trip (bs s)) := by
 by_cases h : 3 ≤ s.size
 · obtain ⟨a, a1, a2, a3⟩ := bs_get s 0 (by omega)
   obtain ⟨b, b1, b2, b3⟩ := bs_get s 1 (by omega)
   obtain ⟨c, c1, c2, c3⟩ := bs_get s 2 (by omega)
   have e : bs s = a :: b :: c :: (bs s).drop 3 := by
    rw [← c3, ← b3, ← a3]
    rfl
   have a2' : bt s 0 = (a : Int) := a2
   have b2' : bt s 1 = (b : Int) := b2
   have c2' : bt s 2 = (c : Int) := c2
   have hv : ∃ n : Int, Ev (fun k => pct_value.f k s) (n, trip (bs s)) := by
    by_cases ha : a = 37
    · obtain ⟨n, hn⟩ := prog_digit b1
      obtain ⟨m, hm⟩ := prog_digit c1
      have hj : ∀ r, Ev (fun k => (pct_Digit.f k (b : Int)).bind fun bt349 => (pct_Digit.f k (c : Int)).bind fun bt351 => (if bt349.2 = true then (some ((wrap64 ((wrap64 (16 * bt349.1)) + bt351.1)) % 256, bt351.2)) else (some ((wrap64 ((wrap64 (16 * bt349.1)) + bt351.1)) % 256, false)))) r → Ev (fun k => pct_value.f k s) r := by
       intro r hr
       refine Ev.congr (f := fun k => pct_value.j0 k s false) (fun k => by simp only [pct_value.f]; rw [if_neg (by omega), if_pos (by omega), a2', show ((a : Int) != 37) = false by rw [ha]; rfl]) ?_
       refine Ev.step (f := _) (fun k => ?_) hr
       have d1 : (1 < (s.size : Int)) = True := eq_true (by omega)
       have d2 : (2 < (s.size : Int)) = True := eq_true (by omega)
       simp only [pct_value.j0, Bool.false_eq_true, d1, d2, if_true, if_false, b2', c2']
      rw [e]
      simp only [trip, ha]
      refine ⟨wrap64 ((wrap64 (16 * n)) + m) % 256, hj _ (hn.bind (hm.bind ?_))⟩
      cases hx : isHex b with
      | true => exact Ev.now _
      | false => exact Ev.now _
    · refine ⟨0, ?_⟩
      have : trip (bs s) = false := by
       rw [e]
       simp only [trip]
       rw [beq_eq_false_iff_ne.2 ha, Bool.false_and]
      rw [this]
      refine Ev.congr (f := fun k => pct_value.j0 k s true) (fun k => by simp only [pct_value.f]; rw [if_neg (by omega), if_pos (by omega), a2', show ((a : Int) != 37) = true by rw [bne_iff_ne]; omega]) ?_
      exact Ev.step (f := fun _ => some (0, false)) (fun k => by simp only [pct_value.j0]; rw [if_pos trivial]) (Ev.now _)
   obtain ⟨n, hn⟩ := hv
   exact hn.bind (Ev.now _)
 · rw [trip_short (by rw [bs_length]; omega)]
   have hv : Ev (fun k => pct_value.f k s) (0, false) := by
    refine Ev.congr (f := fun k => pct_value.j0 k s true) (fun k => by simp only [pct_value.f]; rw [if_pos (by omega)]) ?_
    exact Ev.step (f := fun _ => some (0, false)) (fun k => by simp only [pct_value.j0]; rw [if_pos trivial]) (Ev.now _)
   exact hv.bind (Ev.now _)
theorem prog_piece (s : ByteArray) (hs : s.size ≤ 1099511627776) : Ev (fun k => tmpl_piece.f k s) (pieceN (bs s) : Int) := by
 unfold tmpl_piece.f
 obtain ⟨c, hc⟩ := prog_take s hs
 refine hc.bind ?_
 rcases bs_cases s with ⟨-, h2, h3⟩ | ⟨b, r, hb, h2, h3, h4, h5, h6, h7⟩
 · rw [h2]
   exact Ev.pos h3 (Ev.now _)
 · have hp : pieceN (bs s) = if isLit b = true then 1 else if trip (bs s) = true then 3 else ucsAt (bs s) := by rw [h2]; rfl
   refine Ev.neg h6 ?_
   have hh : chars_Set_Has.f isLit (bt s 0) = some (isLit b) := by
    unfold chars_Set_Has.f
    rw [h3, if_pos ⟨by omega, by omega⟩]
    rfl
   simp only [chars_Literal.f, Option.bind_some, hh]
   refine Ev.pos (by omega) ?_
   rw [hp]
   by_cases hl : isLit b = true
   · rw [if_pos hl]
     exact Ev.pos hl (Ev.now _)
   rw [if_neg hl]
   refine Ev.neg hl ?_
   refine (prog_trip s).bind ?_
   by_cases ht : trip (bs s) = true
   · have e3 : (if trip (bs s) = true then 3 else ucsAt (bs s)) = 3 := if_pos ht
     rw [e3]
     exact Ev.pos ht (Ev.now _)
   have e3 : (if trip (bs s) = true then 3 else ucsAt (bs s)) = ucsAt (bs s) := if_neg ht
   rw [e3]
   exact Ev.neg ht (Ev.now _)
theorem prog_pieces_from (s : ByteArray) (hs : s.size ≤ 1099511627776) : ∀ (d a : Nat), s.size - a < d → a ≤ s.size → Ev (fun k => tmpl_pieces.l0 k s (a : Int) (pieceN ((bs s).drop a) : Int)) ((a + piecesN d ((bs s).drop a) : Nat) : Int)
 | 0, a, h, _ => by omega
 | d + 1, a, h, ha => by
  simp only [piecesN]
  by_cases h0 : pieceN ((bs s).drop a) = 0
  · rw [if_pos h0, h0]
    exact Ev.step (f := fun _ => some (a : Int)) (fun k => by simp only [tmpl_pieces.l0]; rw [if_neg (by omega)]) (Ev.now _)
  · rw [if_neg h0, List.drop_drop, ← Nat.add_assoc]
    obtain ⟨q1, -, -⟩ := piece_top h0
    rw [List.length_drop, bs_length] at q1
    have hp := prog_piece (s.extract (a + pieceN ((bs s).drop a)) s.size) (by rw [bs_size_from]; omega)
    rw [bs_from] at hp
    have ih := prog_pieces_from s hs d (a + pieceN ((bs s).drop a)) (by omega) (by omega)
    generalize pieceN ((bs s).drop a) = m at *
    have ew : wrap64 ((a : Int) + (m : Int)) = ((a + m : Nat) : Int) := by rw [w64 (by omega) (by omega)]; omega
    refine Ev.step (f := fun k => (tmpl_piece.f k (s.extract (a + m) s.size)).bind fun t362 => tmpl_pieces.l0 k s ((a + m : Nat) : Int) t362) (fun k => ?_) (hp.bind ih)
    have c1 : ((m : Int) > 0) = True := eq_true (by omega)
    have c2 : (0 ≤ ((a + m : Nat) : Int)) = True := eq_true (by omega)
    have c3 : (((a + m : Nat) : Int) ≤ (s.size : Int)) = True := eq_true (by omega)
    simp only [tmpl_pieces.l0, ew, c1, c2, c3, if_true, Int.toNat_natCast]
theorem prog_pieces (s : ByteArray) (hs : s.size ≤ 1099511627776) (d : Nat) (hd : s.size < d) : Ev (fun k => tmpl_pieces.f k s) ((piecesN d (bs s) : Nat) : Int) := by
 have h := prog_pieces_from s hs d 0 (by omega) (by omega)
 rw [List.drop_zero, Nat.zero_add] at h
 exact (prog_piece s hs).bind h
def goodV (v : S43) : Bool := match spec_May.f v.f0 v.f1 v.f2 with
 | some b => b
 | none => false
theorem goodV_some {v : S43} (h : v.f0.size ≤ 1099511627776) : spec_May.f v.f0 v.f1 v.f2 = some (goodV v) := by
 have : ∃ b, spec_May.f v.f0 v.f1 v.f2 = some b := by
  unfold spec_May.f vname_May.f vname_End.f vname_ends.f
  rw [if_pos h]
  simp only [Option.bind_some]
  repeat' split
  all_goals first | exact ⟨_, rfl⟩ | skip
  all_goals (simp only [Option.bind_some]; repeat' split)
  all_goals exact ⟨_, rfl⟩
 obtain ⟨b, hb⟩ := this
 unfold goodV
 rw [hb]
def firstBad : List S43 → Nat → Int
 | [], _ => -1
 | v :: r, i => if goodV v = true then firstBad r (i + 1) else (i : Int)
theorem firstBad_iff : ∀ (l : List S43) (i : Nat), firstBad l i ≥ 0 ↔ l.all goodV = false
 | [], i => by simp [firstBad]
 | v :: r, i => by
  simp only [firstBad, List.all_cons]
  by_cases h : goodV v = true
  · rw [if_pos h, h, Bool.true_and]
    exact firstBad_iff r (i + 1)
  · rw [if_neg h, Bool.eq_false_iff.2 h, Bool.false_and]
    simp
theorem tmpl_fine1.calls (v : S43) (r : Bool) (w : World) (h : spec_May.f v.f0 v.f1 v.f2 = some r) :
 Calls Tryz.prog 45 #[.agg #[.string v.f0, .int .i64 v.f1, .bool v.f2]] w fun e w' => e = .returned (.bool (!r)) ∧ Below w.heap.size w w' := by
 have HS := Lib.hid h
 clear h
 go_enter Tryz.func45, Tryz.ntmps45
 go_wp2_with (go_at_call 46; refine (spec_May.calls v.f0 v.f1 v.f2 r _ HS.out).mono ?_; rintro e w' ⟨rfl, hb⟩)
 go_ret
 exact ⟨rfl, below_step (below_alloc (Below.refl _ _) _) hb⟩
set_option maxHeartbeats 1000000 in
theorem slices_IndexFunc.calls (A : Option Addr) (c : Nat) (l : List S43) (w : World) (hC : Kd.C k43 w A l.length l) (hc : l.length ≤ c) (hl : l.length ≤ 1099511627776) (hg : ∀ v ∈ l, spec_May.f v.f0 v.f1 v.f2 = some (goodV v)) :
 Calls Tryz.prog 64 #[.slice A l.length c, .func (.func 45) #[] #[]] w fun e w' => e = .returned (.int .i64 (firstBad l 0)) ∧ Below w.heap.size w w' := by
 have HC := Lib.hid hC
 have HG := Lib.hid hg
 have HCc := Lib.hid hc
 clear hC hg hc
 obtain ⟨R, hR⟩ : ∃ R, R = firstBad l 0 := ⟨_, rfl⟩
 have HR := Lib.hid hR
 rw [← hR]
 clear hR
 go_enter Tryz.func64, Tryz.ntmps64
 go_wp2
 go_loopw [5, 8] (fun _ i wr => ∃ k : Nat, k ≤ l.length ∧ i = .int .i64 k ∧ Hid (firstBad (l.drop k) k = R) ∧ Hid (Below w.heap.size w wr)) (fun _ i _ => l.length - (intOf i).toNat)
 case atStart => exact ⟨0, Nat.zero_le _, rfl, Lib.hid HR.out.symm, Lib.hid (Below.refl _ _)⟩
 case round =>
  obtain ⟨k, hk, rfl, HF, HB⟩ := hrel
  by_cases hlt : k < l.length
  · have hltz : (k : Int) < (l.length : Int) := by omega
    obtain ⟨ad, hA, x0, x1, x2⟩ := at_T43 (Kd.C_below HC.out HB.out) (k : Int) (by omega) hltz
    subst hA
    have hd : ∃ y, rd_T43 l (k : Int) = y ∧ l.drop k = y :: l.drop (k + 1) ∧ y ∈ l := by
     refine ⟨l[k], ?_, List.drop_eq_getElem_cons hlt, List.getElem_mem hlt⟩
     unfold rd_T43
     rw [Int.toNat_natCast, List.getD_eq_getElem?_getD, List.getElem?_eq_getElem hlt]
     rfl
    obtain ⟨y, hy, hdr, hmem⟩ := hd
    rw [hy] at x0 x1 x2
    simp only [Int.toNat_natCast] at x0 x1 x2
    have HF1 := HF.out
    rw [hdr] at HF1
    simp only [firstBad] at HF1
    have HGy := Lib.hid (HG.out y hmem)
    clear hy hdr hmem HF
    cases hgood : goodV y with
    | true =>
     rw [hgood] at HGy HF1
     have HF2 := Lib.hid HF1
     clear HF1 hgood
     go_wp2_with (refine (tmpl_fine1.calls y true _ HGy.out).mono ?_; rintro e w' ⟨rfl, hb⟩)
     have HF3 := Lib.hid (show firstBad (l.drop (k + 1)) (k + 1) = R by have := HF2.out; simpa using this)
     clear HF2
     have HB3 := Lib.hid (below_step HB.out hb)
     clear HB hb
     go_roundw
     case rel => exact ⟨k + 1, hlt, by go_num, HF3, HB3⟩
     case measure => simp [intOf]; omega
    | false =>
     rw [hgood] at HGy HF1
     have HF2 := Lib.hid HF1
     clear HF1 hgood
     go_wp2_with (refine (tmpl_fine1.calls y false _ HGy.out).mono ?_; rintro e w' ⟨rfl, hb⟩)
     have hk3 : (k : Int) = R := by have := HF2.out; simpa using this
     have HB3 := Lib.hid (below_step HB.out hb)
     clear HF2 HB hb
     subst hk3
     go_ret
     exact ⟨rfl, HB3.out⟩
  · have hk2 : k = l.length := by omega
    subst hk2
    have hR : (-1 : Int) = R := by
     have := HF.out
     rw [List.drop_eq_nil_of_le (Nat.le_refl _)] at this
     exact this
    clear HF
    subst hR
    go_wp2
    go_ret
    exact ⟨rfl, HB.out⟩
theorem slices_ContainsFunc.calls (A : Option Addr) (c : Nat) (l : List S43) (w : World) (hC : Kd.C k43 w A l.length l) (hc : l.length ≤ c) (hl : l.length ≤ 1099511627776) (hg : ∀ v ∈ l, spec_May.f v.f0 v.f1 v.f2 = some (goodV v)) :
 Calls Tryz.prog 44 #[.slice A l.length c, .func (.func 45) #[] #[]] w fun e w' => e = .returned (.bool (!(l.all goodV))) ∧ Below w.heap.size w w' := by
 have hcon := slices_IndexFunc.calls A c l w hC hc hl hg
 have hiff : decide (firstBad l 0 ≥ 0) = !(l.all goodV) := by
  cases h : l.all goodV with
  | false => exact decide_eq_true ((firstBad_iff l 0).2 h)
  | true => exact decide_eq_false fun g => by rw [(firstBad_iff l 0).1 g] at h; cases h
 have HI := Lib.hid hiff
 clear hiff hC hc hg
 generalize firstBad l 0 = R at hcon HI
 generalize (!(l.all goodV)) = B at HI ⊢
 go_enter Tryz.func44, Tryz.ntmps44
 go_wp2_with (refine hcon.mono ?_; rintro e w' ⟨rfl, hb⟩)
 go_ret
 exact ⟨by rw [← HI.out]; rfl, hb⟩
def fineB (a0 : ByteArray) (a1 : Int) (l : List S43) : Bool :=
 if l.length = 0 then (a1 == 0) && ((a0.toList != []) && (((piecesN (a0.size + 1) (bs a0) : Nat) : Int) == (a0.size : Int)))
 else (a0.toList == []) && ((match tmpl_Operator.f a1 with | some b => b | none => false) && l.all goodV)
def tmpl_fine.f (a0 : ByteArray) (a1 : Int) (l : List S43) : Option Bool :=
 if a0.size ≤ 1099511627776 ∧ 0 ≤ a1 ∧ a1 ≤ 255 ∧ l.length ≤ 1099511627776 ∧ (l.all fun v => decide (v.f0.size ≤ 1099511627776)) = true then some (fineB a0 a1 l) else none
set_option maxHeartbeats 2000000 in
theorem tmpl_fine.calls (a0_0 : ByteArray) (a0_1 : Int) (A : Option Addr) (c : Nat) (a0_2 : List S43) (r : Bool) (w : World) (hC : Kd.C k43 w A a0_2.length a0_2) (hc : a0_2.length ≤ c) (h : tmpl_fine.f a0_0 a0_1 a0_2 = some r) :
 Calls Tryz.prog 27 #[.agg #[.string a0_0, .int .u8 a0_1, .slice A a0_2.length c]] w fun e w' => e = .returned (.bool r) ∧ Below w.heap.size w w' := by
 unfold tmpl_fine.f at h
 split at h
 case isFalse => cases h
 rename_i hsz
 injection h with h
 obtain ⟨hs0, ha0, ha1, hl0, hall⟩ := hsz
 have HR := Lib.hid h
 have HC := Lib.hid hC
 have HCc := Lib.hid hc
 have hg : ∀ v ∈ a0_2, spec_May.f v.f0 v.f1 v.f2 = some (goodV v) := fun v hv => goodV_some (of_decide_eq_true (List.all_eq_true.1 hall v hv))
 have HG := Lib.hid hg
 clear h hC hc hg hall
 obtain ⟨L, hL⟩ : ∃ L, L = a0_2.length := ⟨_, rfl⟩
 have HL := Lib.hid hL
 have HR0 := Lib.hid (show (if L = 0 then (a0_1 == 0) && ((a0_0.toList != []) && (((piecesN (a0_0.size + 1) (bs a0_0) : Nat) : Int) == (a0_0.size : Int))) else (a0_0.toList == []) && ((match tmpl_Operator.f a0_1 with | some b => b | none => false) && a0_2.all goodV)) = r by rw [hL]; exact HR.out)
 rw [← hL]
 clear hL HR
 have hb0 : Below w.heap.size w (w.alloc (.cells #[.string a0_0, .int .u8 a0_1, .slice A L c] 41)) := below_alloc (Below.refl _ _) _
 have d0 : (w.alloc (.cells #[.string a0_0, .int .u8 a0_1, .slice A L c] 41)).cell? ⟨w.heap.size, 0, none⟩ = some (.string a0_0) := by simp
 have d1 : (w.alloc (.cells #[.string a0_0, .int .u8 a0_1, .slice A L c] 41)).cell? ⟨w.heap.size, 1, none⟩ = some (.int .u8 a0_1) := by simp
 have d2 : (w.alloc (.cells #[.string a0_0, .int .u8 a0_1, .slice A L c] 41)).cell? ⟨w.heap.size, 2, none⟩ = some (.slice A L c) := by simp
 have HB0 := Lib.hid hb0
 clear hb0
 go_enter Tryz.func27, Tryz.ntmps27
 have hR0 := HR0.out
 clear HR0
 by_cases hlen : L = 0
 · rw [if_pos hlen] at hR0
   have HR1 := Lib.hid hR0
   clear hR0
   subst hlen
   obtain ⟨K, hK⟩ := prog_pieces a0_0 hs0 (a0_0.size + 1) (by omega)
   have HK := Lib.hid (hK K (Nat.le_refl _))
   clear hK
   obtain ⟨n, hn⟩ : ∃ n : Int, n = ((piecesN (a0_0.size + 1) (bs a0_0) : Nat) : Int) := ⟨_, rfl⟩
   rw [← hn] at HK HR1
   clear hn
   go_wp2_with fail
   have k0 := cell_regrown d0
   have k1 := cell_regrown d1
   by_cases h1 : a0_1 = 0
   · subst h1
     by_cases h2 : a0_0.toList = []
     · have h2b : (a0_0.toList != []) = false := by rw [h2]; rfl
       have h2c : a0_0.toList.isEmpty = true := by rw [h2]; rfl
       refine wp_region_quiet_below (by kernel_rfl) (by kernel_rfl) ?_
       repeat (go_big_quiet_step (exact Calls.regrown_of (tmpl_pieces.calls K a0_0 n _ HK.out)))
       refine wpQuiet_nil ?_
       rintro _ ⟨⟨dq, osq⟩, rfl⟩
       go_wp2
       go_ret
       refine ⟨?_, below_step HB0.out (below_regrown _ dq osq)⟩
       rw [← HR1.out, h2b, Bool.false_and, Bool.and_false]
       rfl
     · have h2b : (a0_0.toList != []) = true := bne_iff_ne.2 h2
       have h2c : a0_0.toList.isEmpty = false := by cases hh : a0_0.toList with
        | nil => exact absurd hh h2
        | cons x l => rfl
       refine wp_region_quiet_below (by kernel_rfl) (by kernel_rfl) ?_
       repeat (go_big_quiet_step (exact Calls.regrown_of (tmpl_pieces.calls K a0_0 n _ HK.out)))
       refine wpQuiet_nil ?_
       rintro _ ⟨⟨dq, osq⟩, rfl⟩
       go_wp2
       go_ret
       refine ⟨?_, below_step HB0.out (below_regrown _ dq osq)⟩
       rw [← HR1.out, h2b, Bool.true_and]
       rfl
   · have h1b : (a0_1 == 0) = false := beq_eq_false_iff_ne.2 h1
     refine wp_region_quiet_below (by kernel_rfl) (by kernel_rfl) ?_
     repeat (go_big_quiet_step (exact Calls.regrown_of (tmpl_pieces.calls K a0_0 n _ HK.out)))
     refine wpQuiet_nil ?_
     rintro _ ⟨⟨dq, osq⟩, rfl⟩
     go_wp2
     go_ret
     refine ⟨?_, below_step HB0.out (below_regrown _ dq osq)⟩
     rw [← HR1.out, h1b, Bool.false_and]
     rfl
 · rw [if_neg hlen] at hR0
   by_cases h2 : a0_0.toList = []
   · obtain ⟨b, hop⟩ : ∃ b, tmpl_Operator.f a0_1 = some b := by
      unfold tmpl_Operator.f strings_IndexByte.f
      split
      · exact ⟨_, rfl⟩
      · exact ⟨_, rfl⟩
     rw [hop, h2] at hR0
     have HO := Lib.hid hop
     have HR1 := Lib.hid hR0
     clear hop hR0
     cases b with
     | false =>
      go_wp2_with (refine (tmpl_Operator.calls a0_1 false _ HO.out).mono ?_; rintro e w' ⟨rfl, hd⟩)
      go_ret
      refine ⟨?_, below_step HB0.out hd.below⟩
      rw [← HR1.out]
      rfl
     | true =>
      have hcon : ∀ W, Kd.C k43 W A a0_2.length a0_2 → Calls Tryz.prog 44 #[.slice A L c, .func (.func 45) #[] #[]] W fun e w' => e = .returned (.bool (!(a0_2.all goodV))) ∧ Below W.heap.size W w' := fun W h => by
       rw [HL.out]
       exact slices_ContainsFunc.calls A c a0_2 W h HCc.out hl0 HG.out
      go_wp2_with (first | (refine (tmpl_Operator.calls a0_1 true _ HO.out).mono ?_; rintro e w' ⟨rfl, ⟨nd, rfl⟩⟩) | (refine (hcon _ (Kd.C_below HC.out (pw_below_drewN HB0.out nd))).mono ?_; rintro e w' ⟨rfl, hb⟩))
      go_ret
      refine ⟨?_, below_step (pw_below_drewN HB0.out nd) hb⟩
      rw [← HR1.out]
      simp
   · have HR1 := Lib.hid hR0
     clear hR0
     go_wp2
     go_ret
     refine ⟨?_, HB0.out⟩
     rw [← HR1.out, beq_eq_false_iff_ne.2 h2, Bool.false_and]
     rfl
end Go.Proofs.YtkipkbggnfllkaaGreatDoor.P
end
section
namespace Go.Proofs.YtkipkbggnfllkaaGreatDoor.P
open Go.RowKit Go.Proofs.YtkipkbggnfllkaaGreatDoorW.PrintWords Go.Proofs.YtkipkbggnfllkaaGreatDoorW.PrintLast Go.Proofs.YtkipkbggnfllkaaGreatDoorW.PrintMore
attribute [local go_sem] max2_int min2_int max_two min_two max_three min_three max_four min_four
set_option linter.unusedVariables false
set_option linter.unusedSimpArgs false
def tmpl_May.l0 : Nat → List (S41) → List (S41) → Int → Int → Option (Bool)
 | 0, _, _, _, _ => none
 | k + 1, x0, x5, x6, x7 => if x7 < x6 then (if 0 ≤ x7 then (if x7 < (x5.length : Int) then ((tmpl_fine.f ((rd_T41 x5 x7).f0) ((rd_T41 x5 x7).f1) ((rd_T41 x5 x7).f2)).bind fun t274 => (if t274 = true then (if x7 > 0 then (if (((rd_T41 x5 x7).f2).length : Int) = 0 then (if 0 ≤ (wrap64 (x7 - 1)) then (if (wrap64 (x7 - 1)) < (x0.length : Int) then (if (((rd_T41 x0 (wrap64 (x7 - 1))).f2).length : Int) = 0 then (some false) else (tmpl_May.l0 k x0 x5 x6 (wrap64 (x7 + 1)))) else (none)) else (none)) else (tmpl_May.l0 k x0 x5 x6 (wrap64 (x7 + 1)))) else (tmpl_May.l0 k x0 x5 x6 (wrap64 (x7 + 1)))) else (some false))) else (none)) else (none)) else (some true)
def tmpl_May.f (k : Nat) (l0 : List (S41)) : Option (Bool) := tmpl_May.l0 k l0 l0 (l0.length : Int) 0
set_option maxHeartbeats 8000000 in
set_option maxRecDepth 100000 in
theorem tmpl_May.calls (k : Nat) (A0 : Option Addr) (c0 : Nat) (l0 : List (S41)) (r : Bool) (w : World) (hr0 : Kd.C k41 w A0 l0.length l0) (hc0 : l0.length ≤ c0) (h : tmpl_May.f k l0 = some r) :
 Calls Tryz.prog 11 #[.slice A0 l0.length c0] w fun e w' => e = .returned (.bool r) ∧ Below w.heap.size w w' := by
 have hu41 := Tryz.underlying41
 have HR0 := Aside0.mk hr0
 have HC0 := Aside0.mk hc0
 clear hr0 hc0
 have HB := Aside0.mk (Below.refl w.heap.size w)
 have H : (tmpl_May.l0 k l0 l0 (l0.length : Int) 0) = some r := h
 clear h
 have H' := Aside0.mk H
 clear H
 go_enter Tryz.func11, Tryz.ntmps11
 go_wp2
 go_loopg [7] k (fun kq v7 w' => ∃ (x7_1 : Int), v7 = .int .i64 x7_1 ∧ Aside0 (tmpl_May.l0 kq l0 l0 (l0.length : Int) x7_1 = some r) ∧ Aside0 (kq ≤ k) ∧ Aside0 (Below w.heap.size w w'))
 case atStart => exact ⟨(0), (by first | rfl | (simp; done) | (simp [*]; done)), H', ⟨Nat.le_refl _⟩, ⟨by repeat (first | (with_reducible first | exact HB.out | apply below_alloc | apply pw_below_drewN | apply below_drew1) | exact HB.out)⟩⟩
 case round =>
  clear H'
  try clear c1
  obtain ⟨x7_1, rfl, HA, HK1, HB⟩ := hrel
  cases gk with
  | zero => exact absurd HA.out (by simp [tmpl_May.l0])
  | succ k1 =>
   have H := HA.out
   clear HA
   simp only [tmpl_May.l0] at H
   by_cases c2 : x7_1 < (l0.length : Int)
   · rw [if_pos c2] at H
     have c2b0 : decide (x7_1 < (l0.length : Int)) = true := decide_eq_true c2
     clear c2
     by_cases c3 : 0 ≤ x7_1
     · rw [if_pos c3] at H
       have c3b0 : decide (0 ≤ x7_1) = true := decide_eq_true c3
       clear c3
       by_cases c4 : x7_1 < (l0.length : Int)
       · rw [if_pos c4] at H
         have c4b0 : decide (x7_1 < (l0.length : Int)) = true := decide_eq_true c4
         clear c4
         replace H := Option.bind_eq_some_iff.mp H
         obtain ⟨t274, A50, H⟩ := H
         replace H : (if t274 = true then (if x7_1 > 0 then (if (((rd_T41 l0 x7_1).f2).length : Int) = 0 then (if 0 ≤ (wrap64 (x7_1 - 1)) then (if (wrap64 (x7_1 - 1)) < (l0.length : Int) then (if (((rd_T41 l0 (wrap64 (x7_1 - 1))).f2).length : Int) = 0 then (some false) else (tmpl_May.l0 k1 l0 l0 (l0.length : Int) (wrap64 (x7_1 + 1)))) else (none)) else (none)) else (tmpl_May.l0 k1 l0 l0 (l0.length : Int) (wrap64 (x7_1 + 1)))) else (tmpl_May.l0 k1 l0 l0 (l0.length : Int) (wrap64 (x7_1 + 1)))) else (some false)) = some r := H
         have A5 := Aside0.mk A50
         clear A50
         by_cases c6 : t274 = true
         · subst c6
           have H1 : (if x7_1 > 0 then (if (((rd_T41 l0 x7_1).f2).length : Int) = 0 then (if 0 ≤ (wrap64 (x7_1 - 1)) then (if (wrap64 (x7_1 - 1)) < (l0.length : Int) then (if (((rd_T41 l0 (wrap64 (x7_1 - 1))).f2).length : Int) = 0 then (some false) else (tmpl_May.l0 k1 l0 l0 (l0.length : Int) (wrap64 (x7_1 + 1)))) else (none)) else (none)) else (tmpl_May.l0 k1 l0 l0 (l0.length : Int) (wrap64 (x7_1 + 1)))) else (tmpl_May.l0 k1 l0 l0 (l0.length : Int) (wrap64 (x7_1 + 1)))) = some r := by rw [if_pos rfl] at H; exact H
           clear H
           have H := H1
           clear H1
           by_cases c7 : x7_1 > 0
           · rw [if_pos c7] at H
             have c7b0 : decide (0 < x7_1) = true := decide_eq_true c7
             clear c7
             by_cases c8 : (((rd_T41 l0 x7_1).f2).length : Int) = 0
             · rw [if_pos c8] at H
               have c8b0 : ((((rd_T41 l0 x7_1).f2).length : Int) == 0) = true := beq_iff_eq.mpr c8
               have c8b1 : ((((rd_T41 l0 x7_1).f2).length : Int) != 0) = false := bne_eq_false_iff_eq.mpr c8
               clear c8
               obtain ⟨ji9, hji9⟩ : ∃ j_ : Int, (wrap64 (x7_1 - 1)) = j_ := ⟨_, rfl⟩
               replace H : (if 0 ≤ (ji9) then (if (ji9) < (l0.length : Int) then (if (((rd_T41 l0 (ji9)).f2).length : Int) = 0 then (some false) else (tmpl_May.l0 k1 l0 l0 (l0.length : Int) (wrap64 (x7_1 + 1)))) else (none)) else (none)) = some r := by first | (rw [hji9] at H; exact H) | (simp only [hji9] at H ⊢; exact H)
               (try rw [hji9] at A5)
               have hji9w : (IntKind.i64.wrap (x7_1 - 1)) = ji9 := (i64_w _).trans hji9
               by_cases c10 : 0 ≤ (ji9)
               · rw [if_pos c10] at H
                 have c10b0 : decide (0 ≤ (ji9)) = true := decide_eq_true c10
                 clear c10
                 by_cases c11 : (ji9) < (l0.length : Int)
                 · rw [if_pos c11] at H
                   have c11b0 : decide ((ji9) < (l0.length : Int)) = true := decide_eq_true c11
                   clear c11
                   by_cases c12 : (((rd_T41 l0 (ji9)).f2).length : Int) = 0
                   · rw [if_pos c12] at H
                     have c12b0 : ((((rd_T41 l0 (ji9)).f2).length : Int) == 0) = true := beq_iff_eq.mpr c12
                     have c12b1 : ((((rd_T41 l0 (ji9)).f2).length : Int) != 0) = false := bne_eq_false_iff_eq.mpr c12
                     clear c12
                     obtain rfl := Option.some.inj H
                     have p272 : 0 ≤ (x7_1 : Int) := of_decide_eq_true (by first | (with_reducible assumption) | assumption)
                     have q272 : x7_1 < (l0.length : Int) := of_decide_eq_true (by first | (with_reducible assumption) | assumption)
                     obtain ⟨ad272, A272_2, c272_2, e272, hx272_0, hx272_1, hx272_2, hl272_2, hi272_2⟩ := at_T41 HR0.out x7_1 p272 q272
                     cases e272
                     replace hx272_0 := (HB.out.cell (World.block_lt_of_cell? w _ hx272_0)).trans hx272_0
                     replace hx272_1 := (HB.out.cell (World.block_lt_of_cell? w _ hx272_1)).trans hx272_1
                     replace hx272_2 := (HB.out.cell (World.block_lt_of_cell? w _ hx272_2)).trans hx272_2
                     have HR272_2 := Aside0.mk hi272_2
                     have HC272_2 := Aside0.mk hl272_2
                     clear hi272_2 hl272_2
                     replace p272 := eq_true p272
                     replace q272 := eq_true q272
                     go_wp2_with (first | ((with_reducible refine gate_dst (N := 4) rfl ?_); (try (refine gate_guard (by rfl) ?_; dsimp only)); refine box_event ?hg (N := 4) ?hd (cs := #[.string (⟨#[]⟩ : ByteArray), .int .u8 0, .slice none 0 0]) (t := 41) ?hr ?_; (case hd => rfl); (case hg => rfl); (case hr => first | (go_simp; done) | (go_simp; rfl)); intro gb273 hg w13 hbox hb; have n0_ := Aside0.mk (below_step (by repeat (first | (with_reducible first | exact HB.out | apply below_alloc | apply pw_below_drewN | apply below_drew1) | exact HB.out)) hb); have n1_ := Aside0.mk (hbox); have n2_ := Aside0.mk ((by rw [hg]; exact (below_size (by repeat (first | (with_reducible first | exact HB.out | apply below_alloc | apply pw_below_drewN | apply below_drew1) | exact HB.out))) : w.heap.size ≤ gb273)); have n3_ := Aside0.mk ((by rw [hg]; exact (below_size (by repeat (first | (with_reducible first | exact HB.out | apply below_alloc | apply pw_below_drewN | apply below_drew1) | exact HB.out))) : w.heap.size ≤ gb273)); clear HB; have HB := n0_; have BK273 := n1_; have GW273 := n2_; have GE273 := n3_; clear n0_ n1_ n2_ n3_; clear hb hbox hg; have hcz14_0 : w13.cell? ⟨gb273, 0, none⟩ = some (.string (⟨#[]⟩ : ByteArray)) := (blk_cell BK273.out 0).trans rfl; have hcz14_1 : w13.cell? ⟨gb273, 1, none⟩ = some (.int .u8 0) := (blk_cell BK273.out 1).trans rfl; have hcz14_2 : w13.cell? ⟨gb273, 2, none⟩ = some (.slice none 0 0) := (blk_cell BK273.out 2).trans rfl; have hfz14_0 := blk_frozen BK273.out 0; have hfz14_1 := blk_frozen BK273.out 1; have hfz14_2 := blk_frozen BK273.out 2) | ((with_reducible refine gate_callee (f := 27) rfl ?_); refine goesL_ (some 13) rfl rfl Tryz.func27 (by kernel_rfl) rfl #[.agg #[.string ((rd_T41 l0 x7_1).f0), .int .u8 ((rd_T41 l0 x7_1).f1), .slice A272_2 ((rd_T41 l0 x7_1).f2).length c272_2]] rfl (by (try simp only [List.map_toArray, List.map_cons, List.map_nil]); first | done | rfl | (simp only [List.length_drop, List.length_take]; rfl)) ?_; (with_reducible refine (tmpl_fine.calls ((rd_T41 l0 x7_1).f0) ((rd_T41 l0 x7_1).f1) _ _ ((rd_T41 l0 x7_1).f2) true _ ?side1 ?side2 A5.out).mono ?_); (case side1 => exact Kd.C_below HR272_2.out (by repeat (first | (with_reducible first | exact HB.out | apply below_alloc | apply pw_below_drewN | apply below_drew1 | refine below_set ?_ GE273.out) | exact HB.out))); (case side2 => exact HC272_2.out); rintro e w15 ⟨rfl, hb⟩; refine ⟨_, rfl, ?_⟩; have n0_ := Aside0.mk (blk_below (g := gb273) (o := .cells #[.string ((rd_T41 l0 x7_1).f0), .int .u8 ((rd_T41 l0 x7_1).f1), .slice A272_2 ((rd_T41 l0 x7_1).f2).length c272_2] 41 (0, 0)) (by (with_reducible repeat (first | refine blk_drewN ?_ _ | refine blk_drew ?_ | refine blk_alloc ?_ _)); refine blk_put (cs := #[.string ((rd_T41 l0 x7_1).f0), .int .u8 ((rd_T41 l0 x7_1).f1), .slice none 0 0]) ?_ 2 _ rfl; (with_reducible repeat (first | refine blk_drewN ?_ _ | refine blk_drew ?_ | refine blk_alloc ?_ _)); refine blk_put (cs := #[.string ((rd_T41 l0 x7_1).f0), .int .u8 0, .slice none 0 0]) ?_ 1 _ rfl; (with_reducible repeat (first | refine blk_drewN ?_ _ | refine blk_drew ?_ | refine blk_alloc ?_ _)); refine blk_put (cs := #[.string (⟨#[]⟩ : ByteArray), .int .u8 0, .slice none 0 0]) ?_ 0 _ rfl; (with_reducible repeat (first | refine blk_drewN ?_ _ | refine blk_drew ?_ | refine blk_alloc ?_ _)); exact BK273.out) hb); have n1_ := Aside0.mk (below_step (by repeat (first | (with_reducible first | exact HB.out | apply below_alloc | apply pw_below_drewN | apply below_drew1 | refine below_set ?_ GE273.out) | exact HB.out)) hb); clear BK273; clear HB; have BK273 := n0_; have HB := n1_; clear n0_ n1_; (try clear hb); (try clear hb2); (try clear hk); (try clear hi); have hcz16_0 : w15.cell? ⟨gb273, 0, none⟩ = some (.string ((rd_T41 l0 x7_1).f0)) := (blk_cell BK273.out 0).trans rfl; have hcz16_1 : w15.cell? ⟨gb273, 1, none⟩ = some (.int .u8 ((rd_T41 l0 x7_1).f1)) := (blk_cell BK273.out 1).trans rfl; have hcz16_2 : w15.cell? ⟨gb273, 2, none⟩ = some (.slice A272_2 ((rd_T41 l0 x7_1).f2).length c272_2) := (blk_cell BK273.out 2).trans rfl; have hfz16_0 := blk_frozen BK273.out 0; have hfz16_1 := blk_frozen BK273.out 1; have hfz16_2 := blk_frozen BK273.out 2; have p275 : 0 ≤ ((ji9) : Int) := of_decide_eq_true (by first | (with_reducible assumption) | assumption); have q275 : (ji9) < (l0.length : Int) := of_decide_eq_true (by first | (with_reducible assumption) | assumption); obtain ⟨ad275, A275_2, c275_2, e275, hx275_0, hx275_1, hx275_2, hl275_2, hi275_2⟩ := at_T41 HR0.out (ji9) p275 q275; obtain rfl : ad272 = ad275 := (by injection e275); replace hx275_0 := (HB.out.cell (World.block_lt_of_cell? w _ hx275_0)).trans hx275_0; replace hx275_1 := (HB.out.cell (World.block_lt_of_cell? w _ hx275_1)).trans hx275_1; replace hx275_2 := (HB.out.cell (World.block_lt_of_cell? w _ hx275_2)).trans hx275_2; have HR275_2 := Aside0.mk hi275_2; have HC275_2 := Aside0.mk hl275_2; clear hi275_2 hl275_2; replace p275 := eq_true p275; replace q275 := eq_true q275))
                     go_ret
                     exact ⟨by first | rfl | (simp [errW_none, errW_some] <;> rfl) | (simp only [← hji9]; first | rfl | (simp [errW_none, errW_some] <;> rfl)) | (simp [*, errW_none, errW_some] <;> rfl), by repeat (first | (with_reducible first | exact HB.out | apply below_alloc | apply pw_below_drewN | apply below_drew1 | refine below_set ?_ GE273.out) | exact HB.out)⟩
                   · rw [if_neg c12] at H
                     have c12b0 : ((((rd_T41 l0 (ji9)).f2).length : Int) == 0) = false := beq_eq_false_iff_ne.mpr c12
                     have c12b1 : ((((rd_T41 l0 (ji9)).f2).length : Int) != 0) = true := bne_iff_ne.mpr c12
                     have c12b2 : ¬ (((rd_T41 l0 (ji9)).f2) = []) := fun h_ => c12 (by rw [h_]; rfl)
                     have H' := Aside0.mk H
                     clear H
                     have p272 : 0 ≤ (x7_1 : Int) := of_decide_eq_true (by first | (with_reducible assumption) | assumption)
                     have q272 : x7_1 < (l0.length : Int) := of_decide_eq_true (by first | (with_reducible assumption) | assumption)
                     obtain ⟨ad272, A272_2, c272_2, e272, hx272_0, hx272_1, hx272_2, hl272_2, hi272_2⟩ := at_T41 HR0.out x7_1 p272 q272
                     cases e272
                     replace hx272_0 := (HB.out.cell (World.block_lt_of_cell? w _ hx272_0)).trans hx272_0
                     replace hx272_1 := (HB.out.cell (World.block_lt_of_cell? w _ hx272_1)).trans hx272_1
                     replace hx272_2 := (HB.out.cell (World.block_lt_of_cell? w _ hx272_2)).trans hx272_2
                     have HR272_2 := Aside0.mk hi272_2
                     have HC272_2 := Aside0.mk hl272_2
                     clear hi272_2 hl272_2
                     replace p272 := eq_true p272
                     replace q272 := eq_true q272
                     go_wp2_with (first | ((with_reducible refine gate_dst (N := 4) rfl ?_); (try (refine gate_guard (by rfl) ?_; dsimp only)); refine box_event ?hg (N := 4) ?hd (cs := #[.string (⟨#[]⟩ : ByteArray), .int .u8 0, .slice none 0 0]) (t := 41) ?hr ?_; (case hd => rfl); (case hg => rfl); (case hr => first | (go_simp; done) | (go_simp; rfl)); intro gb273 hg w17 hbox hb; have n0_ := Aside0.mk (below_step (by repeat (first | (with_reducible first | exact HB.out | apply below_alloc | apply pw_below_drewN | apply below_drew1) | exact HB.out)) hb); have n1_ := Aside0.mk (hbox); have n2_ := Aside0.mk ((by rw [hg]; exact (below_size (by repeat (first | (with_reducible first | exact HB.out | apply below_alloc | apply pw_below_drewN | apply below_drew1) | exact HB.out))) : w.heap.size ≤ gb273)); have n3_ := Aside0.mk ((by rw [hg]; exact (below_size (by repeat (first | (with_reducible first | exact HB.out | apply below_alloc | apply pw_below_drewN | apply below_drew1) | exact HB.out))) : w.heap.size ≤ gb273)); clear HB; have HB := n0_; have BK273 := n1_; have GW273 := n2_; have GE273 := n3_; clear n0_ n1_ n2_ n3_; clear hb hbox hg; have hcz18_0 : w17.cell? ⟨gb273, 0, none⟩ = some (.string (⟨#[]⟩ : ByteArray)) := (blk_cell BK273.out 0).trans rfl; have hcz18_1 : w17.cell? ⟨gb273, 1, none⟩ = some (.int .u8 0) := (blk_cell BK273.out 1).trans rfl; have hcz18_2 : w17.cell? ⟨gb273, 2, none⟩ = some (.slice none 0 0) := (blk_cell BK273.out 2).trans rfl; have hfz18_0 := blk_frozen BK273.out 0; have hfz18_1 := blk_frozen BK273.out 1; have hfz18_2 := blk_frozen BK273.out 2) | ((with_reducible refine gate_callee (f := 27) rfl ?_); refine goesL_ (some 13) rfl rfl Tryz.func27 (by kernel_rfl) rfl #[.agg #[.string ((rd_T41 l0 x7_1).f0), .int .u8 ((rd_T41 l0 x7_1).f1), .slice A272_2 ((rd_T41 l0 x7_1).f2).length c272_2]] rfl (by (try simp only [List.map_toArray, List.map_cons, List.map_nil]); first | done | rfl | (simp only [List.length_drop, List.length_take]; rfl)) ?_; (with_reducible refine (tmpl_fine.calls ((rd_T41 l0 x7_1).f0) ((rd_T41 l0 x7_1).f1) _ _ ((rd_T41 l0 x7_1).f2) true _ ?side1 ?side2 A5.out).mono ?_); (case side1 => exact Kd.C_below HR272_2.out (by repeat (first | (with_reducible first | exact HB.out | apply below_alloc | apply pw_below_drewN | apply below_drew1 | refine below_set ?_ GE273.out) | exact HB.out))); (case side2 => exact HC272_2.out); rintro e w19 ⟨rfl, hb⟩; refine ⟨_, rfl, ?_⟩; have n0_ := Aside0.mk (blk_below (g := gb273) (o := .cells #[.string ((rd_T41 l0 x7_1).f0), .int .u8 ((rd_T41 l0 x7_1).f1), .slice A272_2 ((rd_T41 l0 x7_1).f2).length c272_2] 41 (0, 0)) (by (with_reducible repeat (first | refine blk_drewN ?_ _ | refine blk_drew ?_ | refine blk_alloc ?_ _)); refine blk_put (cs := #[.string ((rd_T41 l0 x7_1).f0), .int .u8 ((rd_T41 l0 x7_1).f1), .slice none 0 0]) ?_ 2 _ rfl; (with_reducible repeat (first | refine blk_drewN ?_ _ | refine blk_drew ?_ | refine blk_alloc ?_ _)); refine blk_put (cs := #[.string ((rd_T41 l0 x7_1).f0), .int .u8 0, .slice none 0 0]) ?_ 1 _ rfl; (with_reducible repeat (first | refine blk_drewN ?_ _ | refine blk_drew ?_ | refine blk_alloc ?_ _)); refine blk_put (cs := #[.string (⟨#[]⟩ : ByteArray), .int .u8 0, .slice none 0 0]) ?_ 0 _ rfl; (with_reducible repeat (first | refine blk_drewN ?_ _ | refine blk_drew ?_ | refine blk_alloc ?_ _)); exact BK273.out) hb); have n1_ := Aside0.mk (below_step (by repeat (first | (with_reducible first | exact HB.out | apply below_alloc | apply pw_below_drewN | apply below_drew1 | refine below_set ?_ GE273.out) | exact HB.out)) hb); clear BK273; clear HB; have BK273 := n0_; have HB := n1_; clear n0_ n1_; (try clear hb); (try clear hb2); (try clear hk); (try clear hi); have hcz20_0 : w19.cell? ⟨gb273, 0, none⟩ = some (.string ((rd_T41 l0 x7_1).f0)) := (blk_cell BK273.out 0).trans rfl; have hcz20_1 : w19.cell? ⟨gb273, 1, none⟩ = some (.int .u8 ((rd_T41 l0 x7_1).f1)) := (blk_cell BK273.out 1).trans rfl; have hcz20_2 : w19.cell? ⟨gb273, 2, none⟩ = some (.slice A272_2 ((rd_T41 l0 x7_1).f2).length c272_2) := (blk_cell BK273.out 2).trans rfl; have hfz20_0 := blk_frozen BK273.out 0; have hfz20_1 := blk_frozen BK273.out 1; have hfz20_2 := blk_frozen BK273.out 2; have p275 : 0 ≤ ((ji9) : Int) := of_decide_eq_true (by first | (with_reducible assumption) | assumption); have q275 : (ji9) < (l0.length : Int) := of_decide_eq_true (by first | (with_reducible assumption) | assumption); obtain ⟨ad275, A275_2, c275_2, e275, hx275_0, hx275_1, hx275_2, hl275_2, hi275_2⟩ := at_T41 HR0.out (ji9) p275 q275; obtain rfl : ad272 = ad275 := (by injection e275); replace hx275_0 := (HB.out.cell (World.block_lt_of_cell? w _ hx275_0)).trans hx275_0; replace hx275_1 := (HB.out.cell (World.block_lt_of_cell? w _ hx275_1)).trans hx275_1; replace hx275_2 := (HB.out.cell (World.block_lt_of_cell? w _ hx275_2)).trans hx275_2; have HR275_2 := Aside0.mk hi275_2; have HC275_2 := Aside0.mk hl275_2; clear hi275_2 hl275_2; replace p275 := eq_true p275; replace q275 := eq_true q275))
                     go_roundg k1
                     case measure => have := HK1.out; omega
                     case rel => exact ⟨(wrap64 (x7_1 + 1)), (by first | rfl | (simp; done) | (simp [*]; done)), H', ⟨by have := HK1.out; omega⟩, ⟨by repeat (first | (with_reducible first | exact HB.out | apply below_alloc | apply pw_below_drewN | apply below_drew1 | refine below_set ?_ GE273.out) | exact HB.out)⟩⟩
                 · rw [if_neg c11] at H
                   exact absurd H (by simp)
               · rw [if_neg c10] at H
                 exact absurd H (by simp)
             · rw [if_neg c8] at H
               have c8b0 : ((((rd_T41 l0 x7_1).f2).length : Int) == 0) = false := beq_eq_false_iff_ne.mpr c8
               have c8b1 : ((((rd_T41 l0 x7_1).f2).length : Int) != 0) = true := bne_iff_ne.mpr c8
               have c8b2 : ¬ (((rd_T41 l0 x7_1).f2) = []) := fun h_ => c8 (by rw [h_]; rfl)
               have H' := Aside0.mk H
               clear H
               have p272 : 0 ≤ (x7_1 : Int) := of_decide_eq_true (by first | (with_reducible assumption) | assumption)
               have q272 : x7_1 < (l0.length : Int) := of_decide_eq_true (by first | (with_reducible assumption) | assumption)
               obtain ⟨ad272, A272_2, c272_2, e272, hx272_0, hx272_1, hx272_2, hl272_2, hi272_2⟩ := at_T41 HR0.out x7_1 p272 q272
               cases e272
               replace hx272_0 := (HB.out.cell (World.block_lt_of_cell? w _ hx272_0)).trans hx272_0
               replace hx272_1 := (HB.out.cell (World.block_lt_of_cell? w _ hx272_1)).trans hx272_1
               replace hx272_2 := (HB.out.cell (World.block_lt_of_cell? w _ hx272_2)).trans hx272_2
               have HR272_2 := Aside0.mk hi272_2
               have HC272_2 := Aside0.mk hl272_2
               clear hi272_2 hl272_2
               replace p272 := eq_true p272
               replace q272 := eq_true q272
               go_wp2_with (first | ((with_reducible refine gate_dst (N := 4) rfl ?_); (try (refine gate_guard (by rfl) ?_; dsimp only)); refine box_event ?hg (N := 4) ?hd (cs := #[.string (⟨#[]⟩ : ByteArray), .int .u8 0, .slice none 0 0]) (t := 41) ?hr ?_; (case hd => rfl); (case hg => rfl); (case hr => first | (go_simp; done) | (go_simp; rfl)); intro gb273 hg w21 hbox hb; have n0_ := Aside0.mk (below_step (by repeat (first | (with_reducible first | exact HB.out | apply below_alloc | apply pw_below_drewN | apply below_drew1) | exact HB.out)) hb); have n1_ := Aside0.mk (hbox); have n2_ := Aside0.mk ((by rw [hg]; exact (below_size (by repeat (first | (with_reducible first | exact HB.out | apply below_alloc | apply pw_below_drewN | apply below_drew1) | exact HB.out))) : w.heap.size ≤ gb273)); have n3_ := Aside0.mk ((by rw [hg]; exact (below_size (by repeat (first | (with_reducible first | exact HB.out | apply below_alloc | apply pw_below_drewN | apply below_drew1) | exact HB.out))) : w.heap.size ≤ gb273)); clear HB; have HB := n0_; have BK273 := n1_; have GW273 := n2_; have GE273 := n3_; clear n0_ n1_ n2_ n3_; clear hb hbox hg; have hcz22_0 : w21.cell? ⟨gb273, 0, none⟩ = some (.string (⟨#[]⟩ : ByteArray)) := (blk_cell BK273.out 0).trans rfl; have hcz22_1 : w21.cell? ⟨gb273, 1, none⟩ = some (.int .u8 0) := (blk_cell BK273.out 1).trans rfl; have hcz22_2 : w21.cell? ⟨gb273, 2, none⟩ = some (.slice none 0 0) := (blk_cell BK273.out 2).trans rfl; have hfz22_0 := blk_frozen BK273.out 0; have hfz22_1 := blk_frozen BK273.out 1; have hfz22_2 := blk_frozen BK273.out 2) | ((with_reducible refine gate_callee (f := 27) rfl ?_); refine goesL_ (some 13) rfl rfl Tryz.func27 (by kernel_rfl) rfl #[.agg #[.string ((rd_T41 l0 x7_1).f0), .int .u8 ((rd_T41 l0 x7_1).f1), .slice A272_2 ((rd_T41 l0 x7_1).f2).length c272_2]] rfl (by (try simp only [List.map_toArray, List.map_cons, List.map_nil]); first | done | rfl | (simp only [List.length_drop, List.length_take]; rfl)) ?_; (with_reducible refine (tmpl_fine.calls ((rd_T41 l0 x7_1).f0) ((rd_T41 l0 x7_1).f1) _ _ ((rd_T41 l0 x7_1).f2) true _ ?side1 ?side2 A5.out).mono ?_); (case side1 => exact Kd.C_below HR272_2.out (by repeat (first | (with_reducible first | exact HB.out | apply below_alloc | apply pw_below_drewN | apply below_drew1 | refine below_set ?_ GE273.out) | exact HB.out))); (case side2 => exact HC272_2.out); rintro e w23 ⟨rfl, hb⟩; refine ⟨_, rfl, ?_⟩; have n0_ := Aside0.mk (blk_below (g := gb273) (o := .cells #[.string ((rd_T41 l0 x7_1).f0), .int .u8 ((rd_T41 l0 x7_1).f1), .slice A272_2 ((rd_T41 l0 x7_1).f2).length c272_2] 41 (0, 0)) (by (with_reducible repeat (first | refine blk_drewN ?_ _ | refine blk_drew ?_ | refine blk_alloc ?_ _)); refine blk_put (cs := #[.string ((rd_T41 l0 x7_1).f0), .int .u8 ((rd_T41 l0 x7_1).f1), .slice none 0 0]) ?_ 2 _ rfl; (with_reducible repeat (first | refine blk_drewN ?_ _ | refine blk_drew ?_ | refine blk_alloc ?_ _)); refine blk_put (cs := #[.string ((rd_T41 l0 x7_1).f0), .int .u8 0, .slice none 0 0]) ?_ 1 _ rfl; (with_reducible repeat (first | refine blk_drewN ?_ _ | refine blk_drew ?_ | refine blk_alloc ?_ _)); refine blk_put (cs := #[.string (⟨#[]⟩ : ByteArray), .int .u8 0, .slice none 0 0]) ?_ 0 _ rfl; (with_reducible repeat (first | refine blk_drewN ?_ _ | refine blk_drew ?_ | refine blk_alloc ?_ _)); exact BK273.out) hb); have n1_ := Aside0.mk (below_step (by repeat (first | (with_reducible first | exact HB.out | apply below_alloc | apply pw_below_drewN | apply below_drew1 | refine below_set ?_ GE273.out) | exact HB.out)) hb); clear BK273; clear HB; have BK273 := n0_; have HB := n1_; clear n0_ n1_; (try clear hb); (try clear hb2); (try clear hk); (try clear hi); have hcz24_0 : w23.cell? ⟨gb273, 0, none⟩ = some (.string ((rd_T41 l0 x7_1).f0)) := (blk_cell BK273.out 0).trans rfl; have hcz24_1 : w23.cell? ⟨gb273, 1, none⟩ = some (.int .u8 ((rd_T41 l0 x7_1).f1)) := (blk_cell BK273.out 1).trans rfl; have hcz24_2 : w23.cell? ⟨gb273, 2, none⟩ = some (.slice A272_2 ((rd_T41 l0 x7_1).f2).length c272_2) := (blk_cell BK273.out 2).trans rfl; have hfz24_0 := blk_frozen BK273.out 0; have hfz24_1 := blk_frozen BK273.out 1; have hfz24_2 := blk_frozen BK273.out 2))
               go_roundg k1
               case measure => have := HK1.out; omega
               case rel => exact ⟨(wrap64 (x7_1 + 1)), (by first | rfl | (simp; done) | (simp [*]; done)), H', ⟨by have := HK1.out; omega⟩, ⟨by repeat (first | (with_reducible first | exact HB.out | apply below_alloc | apply pw_below_drewN | apply below_drew1 | refine below_set ?_ GE273.out) | exact HB.out)⟩⟩
           · rw [if_neg c7] at H
             have c7b0 : decide (0 < x7_1) = false := decide_eq_false c7
             clear c7
             have H' := Aside0.mk H
             clear H
             have p272 : 0 ≤ (x7_1 : Int) := of_decide_eq_true (by first | (with_reducible assumption) | assumption)
             have q272 : x7_1 < (l0.length : Int) := of_decide_eq_true (by first | (with_reducible assumption) | assumption)
             obtain ⟨ad272, A272_2, c272_2, e272, hx272_0, hx272_1, hx272_2, hl272_2, hi272_2⟩ := at_T41 HR0.out x7_1 p272 q272
             cases e272
             replace hx272_0 := (HB.out.cell (World.block_lt_of_cell? w _ hx272_0)).trans hx272_0
             replace hx272_1 := (HB.out.cell (World.block_lt_of_cell? w _ hx272_1)).trans hx272_1
             replace hx272_2 := (HB.out.cell (World.block_lt_of_cell? w _ hx272_2)).trans hx272_2
             have HR272_2 := Aside0.mk hi272_2
             have HC272_2 := Aside0.mk hl272_2
             clear hi272_2 hl272_2
             replace p272 := eq_true p272
             replace q272 := eq_true q272
             go_wp2_with (first | ((with_reducible refine gate_dst (N := 4) rfl ?_); (try (refine gate_guard (by rfl) ?_; dsimp only)); refine box_event ?hg (N := 4) ?hd (cs := #[.string (⟨#[]⟩ : ByteArray), .int .u8 0, .slice none 0 0]) (t := 41) ?hr ?_; (case hd => rfl); (case hg => rfl); (case hr => first | (go_simp; done) | (go_simp; rfl)); intro gb273 hg w25 hbox hb; have n0_ := Aside0.mk (below_step (by repeat (first | (with_reducible first | exact HB.out | apply below_alloc | apply pw_below_drewN | apply below_drew1) | exact HB.out)) hb); have n1_ := Aside0.mk (hbox); have n2_ := Aside0.mk ((by rw [hg]; exact (below_size (by repeat (first | (with_reducible first | exact HB.out | apply below_alloc | apply pw_below_drewN | apply below_drew1) | exact HB.out))) : w.heap.size ≤ gb273)); have n3_ := Aside0.mk ((by rw [hg]; exact (below_size (by repeat (first | (with_reducible first | exact HB.out | apply below_alloc | apply pw_below_drewN | apply below_drew1) | exact HB.out))) : w.heap.size ≤ gb273)); clear HB; have HB := n0_; have BK273 := n1_; have GW273 := n2_; have GE273 := n3_; clear n0_ n1_ n2_ n3_; clear hb hbox hg; have hcz26_0 : w25.cell? ⟨gb273, 0, none⟩ = some (.string (⟨#[]⟩ : ByteArray)) := (blk_cell BK273.out 0).trans rfl; have hcz26_1 : w25.cell? ⟨gb273, 1, none⟩ = some (.int .u8 0) := (blk_cell BK273.out 1).trans rfl; have hcz26_2 : w25.cell? ⟨gb273, 2, none⟩ = some (.slice none 0 0) := (blk_cell BK273.out 2).trans rfl; have hfz26_0 := blk_frozen BK273.out 0; have hfz26_1 := blk_frozen BK273.out 1; have hfz26_2 := blk_frozen BK273.out 2) | ((with_reducible refine gate_callee (f := 27) rfl ?_); refine goesL_ (some 13) rfl rfl Tryz.func27 (by kernel_rfl) rfl #[.agg #[.string ((rd_T41 l0 x7_1).f0), .int .u8 ((rd_T41 l0 x7_1).f1), .slice A272_2 ((rd_T41 l0 x7_1).f2).length c272_2]] rfl (by (try simp only [List.map_toArray, List.map_cons, List.map_nil]); first | done | rfl | (simp only [List.length_drop, List.length_take]; rfl)) ?_; (with_reducible refine (tmpl_fine.calls ((rd_T41 l0 x7_1).f0) ((rd_T41 l0 x7_1).f1) _ _ ((rd_T41 l0 x7_1).f2) true _ ?side1 ?side2 A5.out).mono ?_); (case side1 => exact Kd.C_below HR272_2.out (by repeat (first | (with_reducible first | exact HB.out | apply below_alloc | apply pw_below_drewN | apply below_drew1 | refine below_set ?_ GE273.out) | exact HB.out))); (case side2 => exact HC272_2.out); rintro e w27 ⟨rfl, hb⟩; refine ⟨_, rfl, ?_⟩; have n0_ := Aside0.mk (blk_below (g := gb273) (o := .cells #[.string ((rd_T41 l0 x7_1).f0), .int .u8 ((rd_T41 l0 x7_1).f1), .slice A272_2 ((rd_T41 l0 x7_1).f2).length c272_2] 41 (0, 0)) (by (with_reducible repeat (first | refine blk_drewN ?_ _ | refine blk_drew ?_ | refine blk_alloc ?_ _)); refine blk_put (cs := #[.string ((rd_T41 l0 x7_1).f0), .int .u8 ((rd_T41 l0 x7_1).f1), .slice none 0 0]) ?_ 2 _ rfl; (with_reducible repeat (first | refine blk_drewN ?_ _ | refine blk_drew ?_ | refine blk_alloc ?_ _)); refine blk_put (cs := #[.string ((rd_T41 l0 x7_1).f0), .int .u8 0, .slice none 0 0]) ?_ 1 _ rfl; (with_reducible repeat (first | refine blk_drewN ?_ _ | refine blk_drew ?_ | refine blk_alloc ?_ _)); refine blk_put (cs := #[.string (⟨#[]⟩ : ByteArray), .int .u8 0, .slice none 0 0]) ?_ 0 _ rfl; (with_reducible repeat (first | refine blk_drewN ?_ _ | refine blk_drew ?_ | refine blk_alloc ?_ _)); exact BK273.out) hb); have n1_ := Aside0.mk (below_step (by repeat (first | (with_reducible first | exact HB.out | apply below_alloc | apply pw_below_drewN | apply below_drew1 | refine below_set ?_ GE273.out) | exact HB.out)) hb); clear BK273; clear HB; have BK273 := n0_; have HB := n1_; clear n0_ n1_; (try clear hb); (try clear hb2); (try clear hk); (try clear hi)))
             go_roundg k1
             case measure => have := HK1.out; omega
             case rel => exact ⟨(wrap64 (x7_1 + 1)), (by first | rfl | (simp; done) | (simp [*]; done)), H', ⟨by have := HK1.out; omega⟩, ⟨by repeat (first | (with_reducible first | exact HB.out | apply below_alloc | apply pw_below_drewN | apply below_drew1 | refine below_set ?_ GE273.out) | exact HB.out)⟩⟩
         · replace c6 := Bool.eq_false_iff.mpr c6
           subst c6
           have H1 : (some false) = some r := by rw [if_neg (show ¬ (false = true) by decide)] at H; exact H
           clear H
           have H := H1
           clear H1
           obtain rfl := Option.some.inj H
           have p272 : 0 ≤ (x7_1 : Int) := of_decide_eq_true (by first | (with_reducible assumption) | assumption)
           have q272 : x7_1 < (l0.length : Int) := of_decide_eq_true (by first | (with_reducible assumption) | assumption)
           obtain ⟨ad272, A272_2, c272_2, e272, hx272_0, hx272_1, hx272_2, hl272_2, hi272_2⟩ := at_T41 HR0.out x7_1 p272 q272
           cases e272
           replace hx272_0 := (HB.out.cell (World.block_lt_of_cell? w _ hx272_0)).trans hx272_0
           replace hx272_1 := (HB.out.cell (World.block_lt_of_cell? w _ hx272_1)).trans hx272_1
           replace hx272_2 := (HB.out.cell (World.block_lt_of_cell? w _ hx272_2)).trans hx272_2
           have HR272_2 := Aside0.mk hi272_2
           have HC272_2 := Aside0.mk hl272_2
           clear hi272_2 hl272_2
           replace p272 := eq_true p272
           replace q272 := eq_true q272
           go_wp2_with (first | ((with_reducible refine gate_dst (N := 4) rfl ?_); (try (refine gate_guard (by rfl) ?_; dsimp only)); refine box_event ?hg (N := 4) ?hd (cs := #[.string (⟨#[]⟩ : ByteArray), .int .u8 0, .slice none 0 0]) (t := 41) ?hr ?_; (case hd => rfl); (case hg => rfl); (case hr => first | (go_simp; done) | (go_simp; rfl)); intro gb273 hg w28 hbox hb; have n0_ := Aside0.mk (below_step (by repeat (first | (with_reducible first | exact HB.out | apply below_alloc | apply pw_below_drewN | apply below_drew1) | exact HB.out)) hb); have n1_ := Aside0.mk (hbox); have n2_ := Aside0.mk ((by rw [hg]; exact (below_size (by repeat (first | (with_reducible first | exact HB.out | apply below_alloc | apply pw_below_drewN | apply below_drew1) | exact HB.out))) : w.heap.size ≤ gb273)); have n3_ := Aside0.mk ((by rw [hg]; exact (below_size (by repeat (first | (with_reducible first | exact HB.out | apply below_alloc | apply pw_below_drewN | apply below_drew1) | exact HB.out))) : w.heap.size ≤ gb273)); clear HB; have HB := n0_; have BK273 := n1_; have GW273 := n2_; have GE273 := n3_; clear n0_ n1_ n2_ n3_; clear hb hbox hg; have hcz29_0 : w28.cell? ⟨gb273, 0, none⟩ = some (.string (⟨#[]⟩ : ByteArray)) := (blk_cell BK273.out 0).trans rfl; have hcz29_1 : w28.cell? ⟨gb273, 1, none⟩ = some (.int .u8 0) := (blk_cell BK273.out 1).trans rfl; have hcz29_2 : w28.cell? ⟨gb273, 2, none⟩ = some (.slice none 0 0) := (blk_cell BK273.out 2).trans rfl; have hfz29_0 := blk_frozen BK273.out 0; have hfz29_1 := blk_frozen BK273.out 1; have hfz29_2 := blk_frozen BK273.out 2) | ((with_reducible refine gate_callee (f := 27) rfl ?_); refine goesL_ (some 13) rfl rfl Tryz.func27 (by kernel_rfl) rfl #[.agg #[.string ((rd_T41 l0 x7_1).f0), .int .u8 ((rd_T41 l0 x7_1).f1), .slice A272_2 ((rd_T41 l0 x7_1).f2).length c272_2]] rfl (by (try simp only [List.map_toArray, List.map_cons, List.map_nil]); first | done | rfl | (simp only [List.length_drop, List.length_take]; rfl)) ?_; (with_reducible refine (tmpl_fine.calls ((rd_T41 l0 x7_1).f0) ((rd_T41 l0 x7_1).f1) _ _ ((rd_T41 l0 x7_1).f2) false _ ?side1 ?side2 A5.out).mono ?_); (case side1 => exact Kd.C_below HR272_2.out (by repeat (first | (with_reducible first | exact HB.out | apply below_alloc | apply pw_below_drewN | apply below_drew1 | refine below_set ?_ GE273.out) | exact HB.out))); (case side2 => exact HC272_2.out); rintro e w30 ⟨rfl, hb⟩; refine ⟨_, rfl, ?_⟩; have n0_ := Aside0.mk (blk_below (g := gb273) (o := .cells #[.string ((rd_T41 l0 x7_1).f0), .int .u8 ((rd_T41 l0 x7_1).f1), .slice A272_2 ((rd_T41 l0 x7_1).f2).length c272_2] 41 (0, 0)) (by (with_reducible repeat (first | refine blk_drewN ?_ _ | refine blk_drew ?_ | refine blk_alloc ?_ _)); refine blk_put (cs := #[.string ((rd_T41 l0 x7_1).f0), .int .u8 ((rd_T41 l0 x7_1).f1), .slice none 0 0]) ?_ 2 _ rfl; (with_reducible repeat (first | refine blk_drewN ?_ _ | refine blk_drew ?_ | refine blk_alloc ?_ _)); refine blk_put (cs := #[.string ((rd_T41 l0 x7_1).f0), .int .u8 0, .slice none 0 0]) ?_ 1 _ rfl; (with_reducible repeat (first | refine blk_drewN ?_ _ | refine blk_drew ?_ | refine blk_alloc ?_ _)); refine blk_put (cs := #[.string (⟨#[]⟩ : ByteArray), .int .u8 0, .slice none 0 0]) ?_ 0 _ rfl; (with_reducible repeat (first | refine blk_drewN ?_ _ | refine blk_drew ?_ | refine blk_alloc ?_ _)); exact BK273.out) hb); have n1_ := Aside0.mk (below_step (by repeat (first | (with_reducible first | exact HB.out | apply below_alloc | apply pw_below_drewN | apply below_drew1 | refine below_set ?_ GE273.out) | exact HB.out)) hb); clear BK273; clear HB; have BK273 := n0_; have HB := n1_; clear n0_ n1_; (try clear hb); (try clear hb2); (try clear hk); (try clear hi)))
           go_ret
           exact ⟨by first | rfl | (simp [errW_none, errW_some] <;> rfl) | (simp [*, errW_none, errW_some] <;> rfl), by repeat (first | (with_reducible first | exact HB.out | apply below_alloc | apply pw_below_drewN | apply below_drew1 | refine below_set ?_ GE273.out) | exact HB.out)⟩
       · rw [if_neg c4] at H
         exact absurd H (by simp)
     · rw [if_neg c3] at H
       exact absurd H (by simp)
   · rw [if_neg c2] at H
     have c2b0 : decide (x7_1 < (l0.length : Int)) = false := decide_eq_false c2
     clear c2
     obtain rfl := Option.some.inj H
     go_wp2
     go_ret
     exact ⟨by first | rfl | (simp [errW_none, errW_some] <;> rfl) | (simp [*, errW_none, errW_some] <;> rfl), by repeat (first | (with_reducible first | exact HB.out | apply below_alloc | apply pw_below_drewN | apply below_drew1) | exact HB.out)⟩
def spec_Put.f (a0_0 : ByteArray) (a0_1 : Int) (a0_2 : Bool) : Option (ByteArray) := (spec_May.f a0_0 a0_1 a0_2).bind fun t385 => (if t385 = true then (if a0_2 = true then (if a0_0.size + 1 ≤ 9223372036854775807 then (some (a0_0 ++ (⟨#[42]⟩ : ByteArray))) else (none)) else (if a0_1 > 0 then (if a0_0.size + 1 ≤ 9223372036854775807 then ((strconv_Itoa.f a0_1).bind fun t386 => (if (a0_0 ++ (⟨#[58]⟩ : ByteArray)).size + t386.size ≤ 9223372036854775807 then (some ((a0_0 ++ (⟨#[58]⟩ : ByteArray)) ++ t386)) else (none))) else (none)) else (some a0_0))) else (some (⟨#[]⟩ : ByteArray)))
def spec_Put.T6 : Bool × List (List Nat × List Nat) := (true, [([], []), ([0], [0]), ([1], [1]), ([], []), ([3], [3]), ([4], [4]), ([2, 5], [2, 5]), ([6, 5, 0, 1, 2, 3, 4, 5, 6], [6])])
def spec_Put.B6 : List Nat := [0, 1, 3, 0, 8, 24, 63, 127]
theorem spec_Put.tab6 : rtab .any (opsOf Tryz.f32 6) = spec_Put.T6 := by kernel_rfl
theorem spec_Put.bits6 : waitsOk spec_Put.T6.2 spec_Put.B6 = true := by kernel_rfl
set_option maxHeartbeats 8000000 in
set_option maxRecDepth 100000 in
theorem spec_Put.calls (a0_0 : ByteArray) (a0_1 : Int) (a0_2 : Bool) (r : ByteArray) (w : World) (hG : Gl w) (h : spec_Put.f a0_0 a0_1 a0_2 = some r) :
 Calls Tryz.prog 32 #[.agg #[.string a0_0, .int .i64 a0_1, .bool a0_2]] w fun e w' => e = .returned (.string r) ∧ Below w.heap.size w w' := by
 have hu43 := Tryz.underlying43
 have HB := Aside0.mk (Below.refl w.heap.size w)
 have H : ((spec_May.f a0_0 a0_1 a0_2).bind fun t385 => (if t385 = true then (if a0_2 = true then (if a0_0.size + 1 ≤ 9223372036854775807 then (some (a0_0 ++ (⟨#[42]⟩ : ByteArray))) else (none)) else (if a0_1 > 0 then (if a0_0.size + 1 ≤ 9223372036854775807 then ((strconv_Itoa.f a0_1).bind fun t386 => (if (a0_0 ++ (⟨#[58]⟩ : ByteArray)).size + t386.size ≤ 9223372036854775807 then (some ((a0_0 ++ (⟨#[58]⟩ : ByteArray)) ++ t386)) else (none))) else (none)) else (some a0_0))) else (some (⟨#[]⟩ : ByteArray)))) = some r := h
 clear h
 replace H := Option.bind_eq_some_iff.mp H
 obtain ⟨t385, A20, H⟩ := H
 replace H : (if t385 = true then (if a0_2 = true then (if a0_0.size + 1 ≤ 9223372036854775807 then (some (a0_0 ++ (⟨#[42]⟩ : ByteArray))) else (none)) else (if a0_1 > 0 then (if a0_0.size + 1 ≤ 9223372036854775807 then ((strconv_Itoa.f a0_1).bind fun t386 => (if (a0_0 ++ (⟨#[58]⟩ : ByteArray)).size + t386.size ≤ 9223372036854775807 then (some ((a0_0 ++ (⟨#[58]⟩ : ByteArray)) ++ t386)) else (none))) else (none)) else (some a0_0))) else (some (⟨#[]⟩ : ByteArray))) = some r := H
 have A2 := Aside0.mk A20
 clear A20
 by_cases c3 : t385 = true
 · subst c3
   have H1 : (if a0_2 = true then (if a0_0.size + 1 ≤ 9223372036854775807 then (some (a0_0 ++ (⟨#[42]⟩ : ByteArray))) else (none)) else (if a0_1 > 0 then (if a0_0.size + 1 ≤ 9223372036854775807 then ((strconv_Itoa.f a0_1).bind fun t386 => (if (a0_0 ++ (⟨#[58]⟩ : ByteArray)).size + t386.size ≤ 9223372036854775807 then (some ((a0_0 ++ (⟨#[58]⟩ : ByteArray)) ++ t386)) else (none))) else (none)) else (some a0_0))) = some r := by rw [if_pos rfl] at H; exact H
   clear H
   have H := H1
   clear H1
   by_cases c4 : a0_2 = true
   · subst c4
     have H1 : (if a0_0.size + 1 ≤ 9223372036854775807 then (some (a0_0 ++ (⟨#[42]⟩ : ByteArray))) else (none)) = some r := by rw [if_pos rfl] at H; exact H
     clear H
     have H := H1
     clear H1
     by_cases c5 : a0_0.size + 1 ≤ 9223372036854775807
     · rw [if_pos c5] at H
       have c5b0 := eq_true c5
       have c5b1 : decide (a0_0.size + 1 ≤ 9223372036854775807) = true := decide_eq_true c5
       try have c5b2 : (9223372036854775807 < a0_0.size + 1) = False := eq_false (Nat.not_lt.2 c5)
       obtain rfl := Option.some.inj H
       go_enter Tryz.func32, Tryz.ntmps32
       go_wp2_with (first | ((with_reducible refine gate_dst (N := 1) rfl ?_); refine box_event ?hg (N := 1) ?hd (cs := #[.string a0_0, .int .i64 a0_1, .bool true]) (t := 43) ?hr ?_; (case hd => rfl); (case hg => rfl); (case hr => first | (go_simp; done) | (go_simp; rfl)); intro gb384 hg w6 hbox hb; have n0_ := Aside0.mk (below_step (by repeat (first | (with_reducible first | exact HB.out | apply below_alloc | apply pw_below_drewN | apply below_drew1) | exact HB.out)) hb); have n1_ := Aside0.mk (hbox); have n2_ := Aside0.mk ((by rw [hg]; exact (below_size (by repeat (first | (with_reducible first | exact HB.out | apply below_alloc | apply pw_below_drewN | apply below_drew1) | exact HB.out))) : w.heap.size ≤ gb384)); have n3_ := Aside0.mk ((by rw [hg]; exact (below_size (by repeat (first | (with_reducible first | exact HB.out | apply below_alloc | apply pw_below_drewN | apply below_drew1) | exact HB.out))) : w.heap.size ≤ gb384)); clear HB; have HB := n0_; have BK384 := n1_; have GW384 := n2_; have GE384 := n3_; clear n0_ n1_ n2_ n3_; clear hb hbox hg; have hcz7_0 : w6.cell? ⟨gb384, 0, none⟩ = some (.string a0_0) := (blk_cell BK384.out 0).trans rfl; have hcz7_1 : w6.cell? ⟨gb384, 1, none⟩ = some (.int .i64 a0_1) := (blk_cell BK384.out 1).trans rfl; have hcz7_2 : w6.cell? ⟨gb384, 2, none⟩ = some (.bool true) := (blk_cell BK384.out 2).trans rfl; have hfz7_0 := blk_frozen BK384.out 0; have hfz7_1 := blk_frozen BK384.out 1; have hfz7_2 := blk_frozen BK384.out 2) | ((with_reducible refine gate_callee (f := 46) rfl ?_); refine goesL_ (some 5) rfl rfl Tryz.func46 (by kernel_rfl) rfl #[.agg #[.string a0_0, .int .i64 a0_1, .bool true]] rfl (by (try simp only [List.map_toArray, List.map_cons, List.map_nil]); first | done | rfl | (simp only [List.length_drop, List.length_take]; rfl)) ?_; (with_reducible refine (spec_May.calls a0_0 a0_1 true true _ A2.out).mono ?_); rintro e w8 ⟨rfl, hb⟩; refine ⟨_, rfl, ?_⟩; have n0_ := Aside0.mk (blk_below (g := gb384) (o := .cells #[.string a0_0, .int .i64 a0_1, .bool true] 43 (0, 0)) (by (with_reducible repeat (first | refine blk_drewN ?_ _ | refine blk_drew ?_ | refine blk_alloc ?_ _)); exact BK384.out) hb); have n1_ := Aside0.mk (below_step (by repeat (first | (with_reducible first | exact HB.out | apply below_alloc | apply pw_below_drewN | apply below_drew1 | refine below_set ?_ GE384.out) | exact HB.out)) hb); clear BK384; clear HB; have BK384 := n0_; have HB := n1_; clear n0_ n1_; (try clear hb); (try clear hb2); (try clear hk); (try clear hi); have hcz9_0 : w8.cell? ⟨gb384, 0, none⟩ = some (.string a0_0) := (blk_cell BK384.out 0).trans rfl; have hcz9_1 : w8.cell? ⟨gb384, 1, none⟩ = some (.int .i64 a0_1) := (blk_cell BK384.out 1).trans rfl; have hcz9_2 : w8.cell? ⟨gb384, 2, none⟩ = some (.bool true) := (blk_cell BK384.out 2).trans rfl; have hfz9_0 := blk_frozen BK384.out 0; have hfz9_1 := blk_frozen BK384.out 1; have hfz9_2 := blk_frozen BK384.out 2))
       go_ret
       exact ⟨by first | rfl | (simp [errW_none, errW_some] <;> rfl) | (simp [*, errW_none, errW_some] <;> rfl), by repeat (first | (with_reducible first | exact HB.out | apply below_alloc | apply pw_below_drewN | apply below_drew1 | refine below_set ?_ GE384.out) | exact HB.out)⟩
     · rw [if_neg c5] at H
       exact absurd H (by simp)
   · replace c4 := Bool.eq_false_iff.mpr c4
     subst c4
     have H1 : (if a0_1 > 0 then (if a0_0.size + 1 ≤ 9223372036854775807 then ((strconv_Itoa.f a0_1).bind fun t386 => (if (a0_0 ++ (⟨#[58]⟩ : ByteArray)).size + t386.size ≤ 9223372036854775807 then (some ((a0_0 ++ (⟨#[58]⟩ : ByteArray)) ++ t386)) else (none))) else (none)) else (some a0_0)) = some r := by rw [if_neg (show ¬ (false = true) by decide)] at H; exact H
     clear H
     have H := H1
     clear H1
     by_cases c10 : a0_1 > 0
     · rw [if_pos c10] at H
       have c10b0 : decide (0 < a0_1) = true := decide_eq_true c10
       clear c10
       by_cases c11 : a0_0.size + 1 ≤ 9223372036854775807
       · rw [if_pos c11] at H
         have c11b0 := eq_true c11
         have c11b1 : decide (a0_0.size + 1 ≤ 9223372036854775807) = true := decide_eq_true c11
         try have c11b2 : (9223372036854775807 < a0_0.size + 1) = False := eq_false (Nat.not_lt.2 c11)
         replace H := Option.bind_eq_some_iff.mp H
         obtain ⟨t386, A120, H⟩ := H
         replace H : (if (a0_0 ++ (⟨#[58]⟩ : ByteArray)).size + t386.size ≤ 9223372036854775807 then (some ((a0_0 ++ (⟨#[58]⟩ : ByteArray)) ++ t386)) else (none)) = some r := H
         have A12 := Aside0.mk A120
         clear A120
         by_cases c13 : (a0_0 ++ (⟨#[58]⟩ : ByteArray)).size + t386.size ≤ 9223372036854775807
         · rw [if_pos c13] at H
           have c13b0 := eq_true c13
           have c13b1 : decide ((a0_0 ++ (⟨#[58]⟩ : ByteArray)).size + t386.size ≤ 9223372036854775807) = true := decide_eq_true c13
           try have c13b2 : (9223372036854775807 < (a0_0 ++ (⟨#[58]⟩ : ByteArray)).size + t386.size) = False := eq_false (Nat.not_lt.2 c13)
           try have c13b4 : (9223372036854775807 < a0_0.size + 1 + t386.size) = False := eq_false (Nat.not_lt.2 (by have h_ := c13; simp only [ByteArray.size_append] at h_; exact h_))
           obtain rfl := Option.some.inj H
           go_enter Tryz.func32, Tryz.ntmps32
           try go_wp2_with (first | ((with_reducible refine gate_dst (N := 1) rfl ?_); refine box_event ?hg (N := 1) ?hd (cs := #[.string a0_0, .int .i64 a0_1, .bool false]) (t := 43) ?hr ?_; (case hd => rfl); (case hg => rfl); (case hr => first | (go_simp; done) | (go_simp; rfl)); intro gb384 hg w14 hbox hb; have n0_ := Aside0.mk (below_step (by repeat (first | (with_reducible first | exact HB.out | apply below_alloc | apply pw_below_drewN | apply below_drew1) | exact HB.out)) hb); have n1_ := Aside0.mk (hbox); have n2_ := Aside0.mk ((by rw [hg]; exact (below_size (by repeat (first | (with_reducible first | exact HB.out | apply below_alloc | apply pw_below_drewN | apply below_drew1) | exact HB.out))) : w.heap.size ≤ gb384)); have n3_ := Aside0.mk ((by rw [hg]; exact (below_size (by repeat (first | (with_reducible first | exact HB.out | apply below_alloc | apply pw_below_drewN | apply below_drew1) | exact HB.out))) : w.heap.size ≤ gb384)); clear HB; have HB := n0_; have BK384 := n1_; have GW384 := n2_; have GE384 := n3_; clear n0_ n1_ n2_ n3_; clear hb hbox hg; have hcz15_0 : w14.cell? ⟨gb384, 0, none⟩ = some (.string a0_0) := (blk_cell BK384.out 0).trans rfl; have hcz15_1 : w14.cell? ⟨gb384, 1, none⟩ = some (.int .i64 a0_1) := (blk_cell BK384.out 1).trans rfl; have hcz15_2 : w14.cell? ⟨gb384, 2, none⟩ = some (.bool false) := (blk_cell BK384.out 2).trans rfl; have hfz15_0 := blk_frozen BK384.out 0; have hfz15_1 := blk_frozen BK384.out 1; have hfz15_2 := blk_frozen BK384.out 2) | ((with_reducible refine gate_callee (f := 46) rfl ?_); refine goesL_ (some 5) rfl rfl Tryz.func46 (by kernel_rfl) rfl #[.agg #[.string a0_0, .int .i64 a0_1, .bool false]] rfl (by (try simp only [List.map_toArray, List.map_cons, List.map_nil]); first | done | rfl | (simp only [List.length_drop, List.length_take]; rfl)) ?_; (with_reducible refine (spec_May.calls a0_0 a0_1 false true _ A2.out).mono ?_); rintro e w16 ⟨rfl, hb⟩; refine ⟨_, rfl, ?_⟩; have n0_ := Aside0.mk (blk_below (g := gb384) (o := .cells #[.string a0_0, .int .i64 a0_1, .bool false] 43 (0, 0)) (by (with_reducible repeat (first | refine blk_drewN ?_ _ | refine blk_drew ?_ | refine blk_alloc ?_ _)); exact BK384.out) hb); have n1_ := Aside0.mk (below_step (by repeat (first | (with_reducible first | exact HB.out | apply below_alloc | apply pw_below_drewN | apply below_drew1 | refine below_set ?_ GE384.out) | exact HB.out)) hb); clear BK384; clear HB; have BK384 := n0_; have HB := n1_; clear n0_ n1_; (try clear hb); (try clear hb2); (try clear hk); (try clear hi); have hcz17_0 : w16.cell? ⟨gb384, 0, none⟩ = some (.string a0_0) := (blk_cell BK384.out 0).trans rfl; have hcz17_1 : w16.cell? ⟨gb384, 1, none⟩ = some (.int .i64 a0_1) := (blk_cell BK384.out 1).trans rfl; have hcz17_2 : w16.cell? ⟨gb384, 2, none⟩ = some (.bool false) := (blk_cell BK384.out 2).trans rfl; have hfz17_0 := blk_frozen BK384.out 0; have hfz17_1 := blk_frozen BK384.out 1; have hfz17_2 := blk_frozen BK384.out 2))
           have n0_ := Aside0.mk (blk_drew BK384.out)
           have n1_ := Aside0.mk (below_drew1 HB.out)
           clear BK384
           clear HB
           have BK384 := n0_
           have HB := n1_
           clear n0_ n1_
           refine start_ (n := 8) (S := fun w' => w'.cell? ⟨gb384, 0, none⟩ = some (.string a0_0) ∧ w'.cell? ⟨gb384, 1, none⟩ = some (.int .i64 a0_1) ∧ w'.cell? ⟨gb384, 2, none⟩ = some (.bool false)) (ds := []) #[false, false, false, false, false, false, false, false] (by kernel_rfl) rfl rfl ⟨(blk_cell BK384.out 0).trans rfl, (blk_cell BK384.out 1).trans rfl, (blk_cell BK384.out 2).trans rfl⟩ (fun hHeld => ?_); refine with_tabW spec_Put.tab6 spec_Put.bits6 (fun HT_ HW_ => ?_)
           generalize w16.drew = w18 at BK384 HB hHeld ⊢
           refine pure_ (i := 0) (N := some 17) (v := ?_) (a' := ?_) #[true, false, false, false, false, false, false, false] rfl rfl (any_of HT_.out (by kernel_rfl)) (fun _ _ _ h => h) (Or.inl ⟨by rfl, ?_⟩) ?_ ?_
           rotate_left
           · intro w'
             go_simp
             with_reducible rfl
           rotate_left
           · simp only [Act.put, List.setIfInBounds_toArray, List.set_cons_zero, List.set_cons_succ, i64_w, i32_w]
             rfl
           refine pure_ (i := 3) (N := some 20) (v := ?_) (a' := ?_) #[true, false, false, true, false, false, false, false] rfl rfl (any_of HT_.out (by kernel_rfl)) (fun _ _ _ h => h) (Or.inl ⟨by rfl, ?_⟩) ?_ ?_
           rotate_left
           · intro w'
             go_simp
             with_reducible rfl
           rotate_left
           · simp only [Act.put, List.setIfInBounds_toArray, List.set_cons_zero, List.set_cons_succ, i64_w, i32_w]
             rfl
           refine take_ (i := 1) (N := some 18) (v := ?_) (a' := ?_) #[true, true, false, true, false, false, false, false] rfl rfl (take_ofW HT_.out HW_.out (by kernel_rfl)) (fun _ _ _ h => h) (Or.inl ⟨by rfl, ?_⟩) hHeld ?_ ?_
           rotate_left
           · rintro w' ⟨s0, s1, s2⟩
             go_simp
             with_reducible rfl
           rotate_left
           · simp only [Act.put, List.setIfInBounds_toArray, List.set_cons_zero, List.set_cons_succ, i64_w, i32_w]
             rfl
           refine pure_ (i := 2) (N := some 19) (v := ?_) (a' := ?_) #[true, true, true, true, false, false, false, false] rfl rfl (any_of HT_.out (by kernel_rfl)) (fun _ _ _ h => h) (Or.inl ⟨by rfl, ?_⟩) ?_ ?_
           rotate_left
           · intro w'
             go_simp
             with_reducible rfl
           rotate_left
           · simp only [Act.put, List.setIfInBounds_toArray, List.set_cons_zero, List.set_cons_succ, i64_w, i32_w]
             rfl
           refine take_ (i := 4) (N := some 21) (v := ?_) (a' := ?_) #[true, true, true, true, true, false, false, false] rfl rfl (take_ofW HT_.out HW_.out (by kernel_rfl)) (fun _ _ _ h => h) (Or.inl ⟨by rfl, ?_⟩) hHeld ?_ ?_
           rotate_left
           · rintro w' ⟨s0, s1, s2⟩
             go_simp
             with_reducible rfl
           rotate_left
           · simp only [Act.put, List.setIfInBounds_toArray, List.set_cons_zero, List.set_cons_succ, i64_w, i32_w]
             rfl
           refine one_ (i := 5) (N := some 22) #[true, true, true, true, true, true, false, false] rfl rfl (one_of HT_.out (by kernel_rfl)) (by decide) (fun K hK => ?_)
           refine goes_ Tryz.func49 (by kernel_rfl) rfl #[.int .i64 a0_1] (by rfl) rfl rfl (by (try simp only [List.map_toArray, List.map_cons, List.map_nil]); first | done | rfl | (simp only [List.length_drop, List.length_take]; rfl)) ?_
           with_reducible refine (strconv_Itoa.calls a0_1 t386 _ (hG.keepAt (Nat.le_refl _) (by repeat (first | (with_reducible first | exact HB.out | apply below_alloc | apply pw_below_drewN | apply below_drew1 | refine below_set ?_ GE384.out) | exact HB.out))) A12.out).mono ?_
           rintro e w19 ⟨rfl, hb⟩
           refine ⟨_, rfl, ?_⟩
           have n0_ := Aside0.mk (blk_below (g := gb384) (o := .cells #[.string a0_0, .int .i64 a0_1, .bool false] 43 (0, 0)) (by (with_reducible repeat (first | refine blk_drewN ?_ _ | refine blk_drew ?_ | refine blk_alloc ?_ _)); exact BK384.out) hb)
           have n1_ := Aside0.mk (below_step (by repeat (first | (with_reducible first | exact HB.out | apply below_alloc | apply pw_below_drewN | apply below_drew1 | refine below_set ?_ GE384.out) | exact HB.out)) hb)
           clear BK384
           clear HB
           have BK384 := n0_
           have HB := n1_
           clear n0_ n1_
           (try clear hb)
           (try clear hb2)
           (try clear hk)
           (try clear hi)
           refine hK.out _ _ ⟨(blk_cell BK384.out 0).trans rfl, (blk_cell BK384.out 1).trans rfl, (blk_cell BK384.out 2).trans rfl⟩ (fun hHeld => ?_)
           clear hK K
           refine norm_ (a' := ?_) ?_ ?_
           rotate_left
           · show Act.put _ (some 22) _ = _
             simp only [Act.put, List.setIfInBounds_toArray, List.set_cons_zero, List.set_cons_succ, i64_w, i32_w]
             rfl
           refine pure_ (i := 6) (N := some 23) (v := ?_) (a' := ?_) #[true, true, true, true, true, true, true, false] rfl rfl (any_of HT_.out (by kernel_rfl)) (fun _ _ _ h => h) (Or.inl ⟨by rfl, ?_⟩) ?_ ?_
           rotate_left
           · intro w'
             go_simp
             with_reducible rfl
           rotate_left
           · simp only [Act.put, List.setIfInBounds_toArray, List.set_cons_zero, List.set_cons_succ, i64_w, i32_w]
             rfl
           refine pure_ (i := 7) (N := some 2) (v := ?_) (a' := ?_) #[true, true, true, true, true, true, true, true] rfl rfl (any_of HT_.out (by kernel_rfl)) (fun _ _ _ h => h) (Or.inl ⟨by rfl, ?_⟩) ?_ ?_
           rotate_left
           · intro w'
             go_simp
             with_reducible rfl
           rotate_left
           · simp only [Act.put, List.setIfInBounds_toArray, List.set_cons_zero, List.set_cons_succ, i64_w, i32_w]
             rfl
           refine done_ (done_of HT_.out (by kernel_rfl)) ?_
           try go_wp2
           go_ret
           exact ⟨by first | rfl | (simp [errW_none, errW_some] <;> rfl) | (simp [*, errW_none, errW_some] <;> rfl), by repeat (first | (with_reducible first | exact HB.out | apply below_alloc | apply pw_below_drewN | apply below_drew1 | refine below_set ?_ GE384.out) | exact HB.out)⟩
         · rw [if_neg c13] at H
           exact absurd H (by simp)
       · rw [if_neg c11] at H
         exact absurd H (by simp)
     · rw [if_neg c10] at H
       have c10b0 : decide (0 < a0_1) = false := decide_eq_false c10
       clear c10
       obtain rfl := Option.some.inj H
       go_enter Tryz.func32, Tryz.ntmps32
       go_wp2_with (first | ((with_reducible refine gate_dst (N := 1) rfl ?_); refine box_event ?hg (N := 1) ?hd (cs := #[.string a0_0, .int .i64 a0_1, .bool false]) (t := 43) ?hr ?_; (case hd => rfl); (case hg => rfl); (case hr => first | (go_simp; done) | (go_simp; rfl)); intro gb384 hg w20 hbox hb; have n0_ := Aside0.mk (below_step (by repeat (first | (with_reducible first | exact HB.out | apply below_alloc | apply pw_below_drewN | apply below_drew1) | exact HB.out)) hb); have n1_ := Aside0.mk (hbox); have n2_ := Aside0.mk ((by rw [hg]; exact (below_size (by repeat (first | (with_reducible first | exact HB.out | apply below_alloc | apply pw_below_drewN | apply below_drew1) | exact HB.out))) : w.heap.size ≤ gb384)); have n3_ := Aside0.mk ((by rw [hg]; exact (below_size (by repeat (first | (with_reducible first | exact HB.out | apply below_alloc | apply pw_below_drewN | apply below_drew1) | exact HB.out))) : w.heap.size ≤ gb384)); clear HB; have HB := n0_; have BK384 := n1_; have GW384 := n2_; have GE384 := n3_; clear n0_ n1_ n2_ n3_; clear hb hbox hg; have hcz21_0 : w20.cell? ⟨gb384, 0, none⟩ = some (.string a0_0) := (blk_cell BK384.out 0).trans rfl; have hcz21_1 : w20.cell? ⟨gb384, 1, none⟩ = some (.int .i64 a0_1) := (blk_cell BK384.out 1).trans rfl; have hcz21_2 : w20.cell? ⟨gb384, 2, none⟩ = some (.bool false) := (blk_cell BK384.out 2).trans rfl; have hfz21_0 := blk_frozen BK384.out 0; have hfz21_1 := blk_frozen BK384.out 1; have hfz21_2 := blk_frozen BK384.out 2) | ((with_reducible refine gate_callee (f := 46) rfl ?_); refine goesL_ (some 5) rfl rfl Tryz.func46 (by kernel_rfl) rfl #[.agg #[.string a0_0, .int .i64 a0_1, .bool false]] rfl (by (try simp only [List.map_toArray, List.map_cons, List.map_nil]); first | done | rfl | (simp only [List.length_drop, List.length_take]; rfl)) ?_; (with_reducible refine (spec_May.calls a0_0 a0_1 false true _ A2.out).mono ?_); rintro e w22 ⟨rfl, hb⟩; refine ⟨_, rfl, ?_⟩; have n0_ := Aside0.mk (blk_below (g := gb384) (o := .cells #[.string a0_0, .int .i64 a0_1, .bool false] 43 (0, 0)) (by (with_reducible repeat (first | refine blk_drewN ?_ _ | refine blk_drew ?_ | refine blk_alloc ?_ _)); exact BK384.out) hb); have n1_ := Aside0.mk (below_step (by repeat (first | (with_reducible first | exact HB.out | apply below_alloc | apply pw_below_drewN | apply below_drew1 | refine below_set ?_ GE384.out) | exact HB.out)) hb); clear BK384; clear HB; have BK384 := n0_; have HB := n1_; clear n0_ n1_; (try clear hb); (try clear hb2); (try clear hk); (try clear hi); have hcz23_0 : w22.cell? ⟨gb384, 0, none⟩ = some (.string a0_0) := (blk_cell BK384.out 0).trans rfl; have hcz23_1 : w22.cell? ⟨gb384, 1, none⟩ = some (.int .i64 a0_1) := (blk_cell BK384.out 1).trans rfl; have hcz23_2 : w22.cell? ⟨gb384, 2, none⟩ = some (.bool false) := (blk_cell BK384.out 2).trans rfl; have hfz23_0 := blk_frozen BK384.out 0; have hfz23_1 := blk_frozen BK384.out 1; have hfz23_2 := blk_frozen BK384.out 2))
       go_ret
       exact ⟨by first | rfl | (simp [errW_none, errW_some] <;> rfl) | (simp [*, errW_none, errW_some] <;> rfl), by repeat (first | (with_reducible first | exact HB.out | apply below_alloc | apply pw_below_drewN | apply below_drew1 | refine below_set ?_ GE384.out) | exact HB.out)⟩
 · replace c3 := Bool.eq_false_iff.mpr c3
   subst c3
   have H1 : (some (⟨#[]⟩ : ByteArray)) = some r := by rw [if_neg (show ¬ (false = true) by decide)] at H; exact H
   clear H
   have H := H1
   clear H1
   obtain rfl := Option.some.inj H
   go_enter Tryz.func32, Tryz.ntmps32
   go_wp2_with (first | ((with_reducible refine gate_dst (N := 1) rfl ?_); refine box_event ?hg (N := 1) ?hd (cs := #[.string a0_0, .int .i64 a0_1, .bool a0_2]) (t := 43) ?hr ?_; (case hd => rfl); (case hg => rfl); (case hr => first | (go_simp; done) | (go_simp; rfl)); intro gb384 hg w24 hbox hb; have n0_ := Aside0.mk (below_step (by repeat (first | (with_reducible first | exact HB.out | apply below_alloc | apply pw_below_drewN | apply below_drew1) | exact HB.out)) hb); have n1_ := Aside0.mk (hbox); have n2_ := Aside0.mk ((by rw [hg]; exact (below_size (by repeat (first | (with_reducible first | exact HB.out | apply below_alloc | apply pw_below_drewN | apply below_drew1) | exact HB.out))) : w.heap.size ≤ gb384)); have n3_ := Aside0.mk ((by rw [hg]; exact (below_size (by repeat (first | (with_reducible first | exact HB.out | apply below_alloc | apply pw_below_drewN | apply below_drew1) | exact HB.out))) : w.heap.size ≤ gb384)); clear HB; have HB := n0_; have BK384 := n1_; have GW384 := n2_; have GE384 := n3_; clear n0_ n1_ n2_ n3_; clear hb hbox hg; have hcz25_0 : w24.cell? ⟨gb384, 0, none⟩ = some (.string a0_0) := (blk_cell BK384.out 0).trans rfl; have hcz25_1 : w24.cell? ⟨gb384, 1, none⟩ = some (.int .i64 a0_1) := (blk_cell BK384.out 1).trans rfl; have hcz25_2 : w24.cell? ⟨gb384, 2, none⟩ = some (.bool a0_2) := (blk_cell BK384.out 2).trans rfl; have hfz25_0 := blk_frozen BK384.out 0; have hfz25_1 := blk_frozen BK384.out 1; have hfz25_2 := blk_frozen BK384.out 2) | ((with_reducible refine gate_callee (f := 46) rfl ?_); refine goesL_ (some 5) rfl rfl Tryz.func46 (by kernel_rfl) rfl #[.agg #[.string a0_0, .int .i64 a0_1, .bool a0_2]] rfl (by (try simp only [List.map_toArray, List.map_cons, List.map_nil]); first | done | rfl | (simp only [List.length_drop, List.length_take]; rfl)) ?_; (with_reducible refine (spec_May.calls a0_0 a0_1 a0_2 false _ A2.out).mono ?_); rintro e w26 ⟨rfl, hb⟩; refine ⟨_, rfl, ?_⟩; have n0_ := Aside0.mk (blk_below (g := gb384) (o := .cells #[.string a0_0, .int .i64 a0_1, .bool a0_2] 43 (0, 0)) (by (with_reducible repeat (first | refine blk_drewN ?_ _ | refine blk_drew ?_ | refine blk_alloc ?_ _)); exact BK384.out) hb); have n1_ := Aside0.mk (below_step (by repeat (first | (with_reducible first | exact HB.out | apply below_alloc | apply pw_below_drewN | apply below_drew1 | refine below_set ?_ GE384.out) | exact HB.out)) hb); clear BK384; clear HB; have BK384 := n0_; have HB := n1_; clear n0_ n1_; (try clear hb); (try clear hb2); (try clear hk); (try clear hi)))
   go_ret
   exact ⟨by first | rfl | (simp [errW_none, errW_some] <;> rfl) | (simp [*, errW_none, errW_some] <;> rfl), by repeat (first | (with_reducible first | exact HB.out | apply below_alloc | apply pw_below_drewN | apply below_drew1 | refine below_set ?_ GE384.out) | exact HB.out)⟩
end Go.Proofs.YtkipkbggnfllkaaGreatDoor.P
end
section
namespace Go.Proofs.YtkipkbggnfllkaaGreatDoor.P
open Go.RowKit Go.Proofs.YtkipkbggnfllkaaGreatDoorW.PrintWords Go.Proofs.YtkipkbggnfllkaaGreatDoorW.PrintLast Go.Proofs.YtkipkbggnfllkaaGreatDoorW.PrintMore
set_option linter.unusedVariables false
set_option linter.unusedSimpArgs false
abbrev IsB (b : Nat) (l : List UInt8) (w : World) : Prop := Lib.IsBuilder 60 5 b b (Lib.byteCells l) w
theorem IsB.kept {b : Nat} {l : List UInt8} {w w' : World} (h : IsB b l w) (hb : Below w.heap.size w w') : IsB b l w' := by
 have key : ∀ p, Lib.BuilderAt 60 5 b b p (Lib.byteCells l) w → Lib.BuilderAt 60 5 b b p (Lib.byteCells l) w' := by
  rintro p ⟨h1, v, h2, ⟨h3, h4⟩, h5⟩
  have hlt : ∀ {k : Nat} {o : Obj}, w.heap[k]? = some o → k < w.heap.size := fun hk => (Array.getElem?_eq_some_iff.1 hk).1
  refine ⟨h1, v, (hb.block b (hlt h2)).trans h2, ⟨h3, ?_⟩, h5⟩
  rcases h4 with h4 | ⟨g, cap, cur, g1, g2, g3, g4⟩
  · exact .inl h4
  · exact .inr ⟨g, cap, cur, g1, g2, (hb.block g (hlt g3)).trans g3, g4⟩
 rcases h with h | h
 · exact .inl (key _ h)
 · exact .inr (key _ h)
theorem IsB.lt {b : Nat} {l : List UInt8} {w : World} (h : IsB b l w) : b < w.heap.size := by
 rcases h with h | h
 · exact h.lt
 · exact h.lt
theorem builder_extra : Builder.Extra Tryz.prog Tryz.laysString_ren := ⟨⟨by kernel_rfl, by kernel_rfl⟩, Tryz.underlying5, Tryz.isAgg5, Tryz.sizeOf5, Tryz.zeroValue5, by kernel_rfl, by kernel_rfl, by kernel_rfl, by decide⟩
theorem B_String (b : Nat) (l : List UInt8) (w : World) (h : IsB b l w) : Calls Tryz.prog 33 #[.pointer (some ⟨b, 0, none⟩)] w fun e w' => e = .returned (.string ⟨l.toArray⟩) ∧ Below b w w' :=
 Any.Builder_String_any Tryz.laysString builder_extra b b l w h (Nat.le_of_lt h.lt)
theorem B_WriteString (b : Nat) (l : List UInt8) (s : ByteArray) (w : World) (h : IsB b l w) (hlen : l.length + s.size ≤ 140737488355328) :
 Calls Tryz.prog 30 #[.pointer (some ⟨b, 0, none⟩), .string s] w fun e w' => e = .returned (.tuple #[.int .i64 s.size, .nilIface]) ∧ IsB b (l ++ s.data.toList) w' ∧ Below b w w' ∧ Lib.OthersKept 5 (some b) w w' := by
 refine (builder_WriteString b b (Lib.byteCells l) s w h (by rw [Lib.byteCells_length]; exact hlen) (Nat.le_of_lt h.lt)).mono ?_
 rintro e w' ⟨rfl, h1, h2, h3⟩
 refine ⟨rfl, .inr ?_, h2, h3⟩
 have : Lib.byteCells (l ++ s.data.toList) = Lib.byteCells l ++ Lib.strCells s := by
  rw [Lib.byteCells_append]
  rfl
 rw [this]
 exact h1
theorem B_WriteByte (b : Nat) (l : List UInt8) (c : UInt8) (w : World) (h : IsB b l w) (hlen : l.length + 1 ≤ 140737488355328) :
 Calls Tryz.prog 31 #[.pointer (some ⟨b, 0, none⟩), .int .u8 (c.toNat : Int)] w fun e w' => e = .returned .nilIface ∧ IsB b (l ++ [c]) w' ∧ Below b w w' ∧ Lib.OthersKept 5 (some b) w w' := by
 refine (builder_WriteByte b b (Lib.byteCells l) (c.toNat : Int) w h (by rw [Lib.byteCells_length]; exact hlen) (Nat.le_of_lt h.lt)).mono ?_
 rintro e w' ⟨rfl, h1, h2, h3⟩
 refine ⟨rfl, .inr ?_, h2, h3⟩
 have : Lib.byteCells (l ++ [c]) = Lib.byteCells l ++ [.int .u8 (c.toNat : Int)] := by
  rw [Lib.byteCells_append]
  rfl
 rw [this]
 exact h1
theorem box_after {b g : Nat} {cs : Array Value} {T : TypeId} (hT : T ≠ 5) {w w' : World} (ho : Lib.OthersKept 5 (some b) w w') (h : w.heap[g]? = some (.cells cs T (0, 0))) (hne : g ≠ b) : w'.heap[g]? = some (.cells cs T (0, 0)) :=
 ho g _ h (fun e => hne (Option.some.inj e)) (fun c fz e => hT (by injection e))
theorem box_below {g : Nat} {cs : Array Value} {T : TypeId} {w w' : World} (hb : Below w.heap.size w w') (h : w.heap[g]? = some (.cells cs T (0, 0))) : w'.heap[g]? = some (.cells cs T (0, 0)) :=
 (hb.block g (Array.getElem?_eq_some_iff.1 h).1).trans h
theorem box_new (w : World) (cs : Array Value) (T : TypeId) : (w.alloc (.cells cs T)).heap[w.heap.size]? = some (.cells cs T (0, 0)) := heap_alloc_new w (.cells cs T)
def aheadOf (op : Int) (i : Nat) : List UInt8 := if i > 0 then [44] else if op ≠ 0 then [123, op.toNat.toUInt8] else [123]
def specsText (op : Int) : Nat → List S43 → Option (List UInt8)
 | _, [] => some []
 | i, v :: r => (spec_Put.f v.f0 v.f1 v.f2).bind fun t => (specsText op (i + 1) r).map fun u => aheadOf op i ++ (t.data.toList ++ u)
def partText (x : S41) : Option (List UInt8) := (specsText x.f1 0 x.f2).map fun u => x.f0.data.toList ++ (u ++ if x.f2.length > 0 then [125] else [])
def partsText : List S41 → Option (List UInt8)
 | [] => some []
 | x :: r => (partText x).bind fun a => (partsText r).map fun u => a ++ u
def mayB (l : List S41) : Option Bool := tmpl_May.f (l.length + 2) l
def tmpl_Put.f (l : List S41) : Option ByteArray :=
 (mayB l).bind fun m => if m = true then (partsText l).bind fun u => if u.length ≤ 1099511627776 ∧ l.length ≤ 1099511627776 ∧ (l.all fun x => decide (0 ≤ x.f1 ∧ x.f1 ≤ 255 ∧ x.f2.length ≤ 1099511627776)) = true then some ⟨u.toArray⟩ else none
  else some ⟨#[]⟩
theorem reads_open2 (w : World) (a : Int) (N : Nat) (hN : w.heap.size = N) : ReadsInt (w.alloc (.cells #[.int .u8 123, .int .u8 a] 5)) .u8 (some ⟨N, 0, none⟩) 2 [123, a] := by
 subst hN
 refine ⟨rfl, by omega, fun _ => ⟨_, rfl, fun j hj => ?_⟩⟩
 have hadd : (⟨w.heap.size, 0, none⟩ : Addr).add j = ⟨w.heap.size, j, none⟩ := by unfold Addr.add; split <;> simp_all
 rw [hadd]
 show (w.alloc _).cell? _ = _
 have : j = 0 ∨ j = 1 := by omega
 rcases this with rfl | rfl <;> simp
set_option maxHeartbeats 4000000 in
set_option maxRecDepth 4000 in
theorem tmpl_Put.calls (A : Option Addr) (c : Nat) (l : List S41) (r : ByteArray) (w : World) (hG : Gl w) (hC : Kd.C k41 w A l.length l) (hc : l.length ≤ c) (h : tmpl_Put.f l = some r) :
 Calls Tryz.prog 13 #[.slice A l.length c] w fun e w' => e = .returned (.string r) ∧ Below w.heap.size w w' := by
 unfold tmpl_Put.f at h
 obtain ⟨m, hm, h⟩ := Option.bind_eq_some_iff.1 h
 have HM := Lib.hid hm
 have HC := Lib.hid hC
 have HCc := Lib.hid hc
 have HG := Lib.hid hG
 clear hm hC hc hG
 cases m with
 | false =>
  rw [if_neg (by simp)] at h
  have HR := Lib.hid (Option.some.inj h)
  clear h
  go_enter Tryz.func13, Tryz.ntmps13
  go_wp2_with (refine (tmpl_May.calls _ A c l false _ HC.out HCc.out HM.out).mono ?_; rintro e w1 ⟨rfl, hb⟩)
  go_ret
  exact ⟨by rw [← HR.out]; rfl, hb⟩
 | true =>
  rw [if_pos rfl] at h
  obtain ⟨u, hu, h⟩ := Option.bind_eq_some_iff.1 h
  split at h
  case isFalse => cases h
  rename_i hsz
  have HR := Lib.hid (Option.some.inj h)
  obtain ⟨hu0, hl0, hall⟩ := hsz
  have HU := Lib.hid hu
  have HAll := Lib.hid (List.all_eq_true.1 hall)
  clear h hu hall
  go_enter Tryz.func13, Tryz.ntmps13
  go_wp2_with (refine (tmpl_May.calls _ A c l true _ HC.out HCc.out HM.out).mono ?_; rintro e w1 ⟨rfl, hb⟩)
  have HB1 := Lib.hid (below_alloc hb (.cells #[.pointer none, .slice none 0 0] 60))
  have HI1 : Hid (IsB w1.heap.size [] (w1.alloc (.cells #[.pointer none, .slice none 0 0] 60))) := Lib.hid (Lib.fresh_isBuilder _ _ w1)
  have hbs : w.heap.size ≤ w1.heap.size := below_size hb
  clear hb
  obtain ⟨b, hbb⟩ : ∃ b, b = w1.heap.size := ⟨_, rfl⟩
  rw [← hbb] at HI1 hbs ⊢
  clear hbb
  go_loopw [5, 6, 7, 13] (fun _ _ _ i wr => ∃ (k : Nat) (acc v : List UInt8), k ≤ l.length ∧ i = .int .i64 k ∧ acc ++ v = u ∧ Hid (partsText (l.drop k) = some v) ∧ Hid (IsB b acc wr) ∧ Hid (Below w.heap.size w wr)) (fun _ _ _ i _ => l.length - (intOf i).toNat)
  case atStart => exact ⟨0, [], u, Nat.zero_le _, rfl, rfl, HU, HI1, HB1⟩
  case round =>
   obtain ⟨k, acc, v, hk, rfl, hacc, HV, HI, HB⟩ := hrel
   by_cases hlt : k < l.length
   · have hltz : (k : Int) < (l.length : Int) := by omega
     obtain ⟨ad, A2, c2, hA, x0, x1, x2, hl2, hC2⟩ := at_T41 HC.out (k : Int) (by omega) hltz
     subst hA
     replace x0 := (HB.out.cell (World.block_lt_of_cell? w _ x0)).trans x0
     replace x1 := (HB.out.cell (World.block_lt_of_cell? w _ x1)).trans x1
     replace x2 := (HB.out.cell (World.block_lt_of_cell? w _ x2)).trans x2
     have hd : ∃ y, rd_T41 l (k : Int) = y ∧ l.drop k = y :: l.drop (k + 1) ∧ y ∈ l := by
      refine ⟨l[k], ?_, List.drop_eq_getElem_cons hlt, List.getElem_mem hlt⟩
      unfold rd_T41
      rw [Int.toNat_natCast, List.getD_eq_getElem?_getD, List.getElem?_eq_getElem hlt]
      rfl
     obtain ⟨⟨lit, op, sp⟩, hy, hdr, hmem⟩ := hd
     rw [hy] at x0 x1 x2 hl2 hC2
     simp only [Int.toNat_natCast] at x0 x1 x2 hl2 hC2
     have hv := HV.out
     rw [hdr] at hv
     simp only [partsText, partText] at hv
     obtain ⟨pt, hpt, hv⟩ := Option.bind_eq_some_iff.1 hv
     obtain ⟨st, hst, hpt⟩ := Option.map_eq_some_iff.1 hpt
     obtain ⟨rest, hrest, hv⟩ := Option.map_eq_some_iff.1 hv
     have hx := of_decide_eq_true (HAll.out _ hmem)
     obtain ⟨ho0, ho1, hsl⟩ := hx
     have HS := Lib.hid hst
     have HRest := Lib.hid hrest
     have HC2 := Lib.hid hC2
     have HL2 := Lib.hid hl2
     subst hpt
     subst hv
     clear hy hdr hmem hst hrest HV hC2 hl2
     have hul : acc.length + (lit.size + (st.length + ((if sp.length > 0 then ([125] : List UInt8) else []).length + rest.length))) = u.length := by
      rw [← hacc]
      simp only [List.length_append]
      have : lit.data.toList.length = lit.size := rfl
      omega
     have hbl := HI.out.lt
     have HA := Lib.hid hacc
     clear hacc
     have hne5 : wr.heap.size ≠ b := by omega
     obtain ⟨g5, hg5⟩ : ∃ g5, g5 = wr.heap.size := ⟨_, rfl⟩
     go_wp2_with (refine (B_WriteString b acc lit _ (HI.out.kept (below_alloc (Below.refl _ _) _)) (by omega)).mono ?_; rintro e w3 ⟨rfl, hi3, hb3, ho3⟩; have hX3 := box_after (by decide) ho3 (box_new _ _ _) hne5; have e0 := Lib.cell_of_heap hX3 0; have e1 := Lib.cell_of_heap hX3 1; have e2 := Lib.cell_of_heap hX3 2; simp only [List.getElem?_toArray, List.getElem?_cons_zero, List.getElem?_cons_succ] at e0 e1 e2; have HI3 := Lib.hid hi3; have HX3 := Lib.hid hX3; have HB3 := Lib.hid (below_weaken (below_alloc HB.out _) hbs hb3); clear hi3 hb3 ho3 hX3 HI HB)
     go_loopw [6, 7, 23] (fun _ _ i W => ∃ (j : Nat) (acc2 v2 : List UInt8), j ≤ sp.length ∧ i = .int .i64 j ∧ acc2 ++ v2 = acc ++ (lit.data.toList ++ st) ∧ Hid (specsText op j (sp.drop j) = some v2) ∧ Hid (IsB b acc2 W) ∧ Hid (W.heap[wr.heap.size]? = some (.cells #[.string lit, .int .u8 op, .slice A2 sp.length c2] 41 (0, 0))) ∧ Hid (Below w.heap.size w W)) (fun _ _ i _ => sp.length - (intOf i).toNat)
     case atStart => exact ⟨0, acc ++ lit.data.toList, st, Nat.zero_le _, rfl, List.append_assoc _ _ _, HS, HI3, HX3, HB3⟩
     case round =>
      obtain ⟨j, acc2, v2, hj, rfl, hacc2, HV2, HI2, HX2, HB2⟩ := hrel
      by_cases hjlt : j < sp.length
      · have hjz : (j : Int) < (sp.length : Int) := by omega
        obtain ⟨ad2, rfl, y0, y1, y2⟩ := at_T43 (Kd.C_below HC2.out HB2.out) (j : Int) (by omega) hjz
        have hd : ∃ y, rd_T43 sp (j : Int) = y ∧ sp.drop j = y :: sp.drop (j + 1) := by
         refine ⟨sp[j], ?_, List.drop_eq_getElem_cons hjlt⟩
         unfold rd_T43
         rw [Int.toNat_natCast, List.getD_eq_getElem?_getD, List.getElem?_eq_getElem hjlt]
         rfl
        obtain ⟨⟨nm, mx, stp⟩, hy, hdr⟩ := hd
        rw [hy] at y0 y1 y2
        simp only [Int.toNat_natCast] at y0 y1 y2
        have hv2 := HV2.out
        rw [hdr] at hv2
        simp only [specsText] at hv2
        obtain ⟨ps, hps, hv2⟩ := Option.bind_eq_some_iff.1 hv2
        obtain ⟨v3, hv3, hv2⟩ := Option.map_eq_some_iff.1 hv2
        subst hv2
        have hl2 : acc2.length + ((aheadOf op j).length + (ps.size + v3.length)) = acc.length + (lit.size + st.length) := by
         have := congrArg List.length hacc2
         simp only [List.length_append] at this
         exact this
        have hG2 : Gl wr := HG.out.keepAt (Nat.le_refl _) HB2.out
        have e1 := Lib.cell_of_heap HX2.out 1
        simp only [List.getElem?_toArray, List.getElem?_cons_zero, List.getElem?_cons_succ] at e1
        have HA2 := Lib.hid hacc2
        have HPS := Lib.hid hps
        have HV3 := Lib.hid hv3
        clear hacc2 hps hv3 HV2 hy hdr
        have hbw := HI2.out.lt
        have hne7 : wr.heap.size ≠ b := by omega
        by_cases hj0 : 0 < j
        · have hj0z : (0 : Int) < (j : Int) := by omega
          have hah : aheadOf op j = [44] := by rw [aheadOf, if_pos hj0]
          rw [hah] at hl2 HA2
          simp only [List.length_singleton] at hl2
          go_wp2_with (refine (B_WriteByte b acc2 44 _ (HI2.out.kept (below_alloc (Below.refl _ _) _)) (by omega)).mono ?_; rintro e w4 ⟨rfl, hi4, hb4, ho4⟩; have HI4 := Lib.hid hi4; have HX7 := Lib.hid (box_after (by decide) ho4 (box_new _ _ _) hne7); have HX4 := Lib.hid (box_after (by decide) ho4 (box_below (below_alloc (Below.refl _ _) _) HX2.out) hne5); have HB4 := Lib.hid (below_weaken (below_alloc HB2.out _) hbs hb4); clear hi4 hb4 ho4; have e3 := Lib.cell_of_heap HX7.out 0; have e4 := Lib.cell_of_heap HX7.out 1; have e5 := Lib.cell_of_heap HX7.out 2; simp only [List.getElem?_toArray, List.getElem?_cons_zero, List.getElem?_cons_succ] at e3 e4 e5)
          go_wp2_with (refine (spec_Put.calls nm mx stp ps _ (HG.out.keepAt (Nat.le_refl _) HB4.out) HPS.out).mono ?_; rintro e w5 ⟨rfl, hb5⟩; have HI5 := Lib.hid (HI4.out.kept hb5); have HX5 := Lib.hid (box_below hb5 HX4.out); have HB5 := Lib.hid (below_step HB4.out hb5); clear hb5)
          go_wp2_with (refine (B_WriteString b _ ps _ HI5.out (by simp only [List.length_append, List.length_cons, List.length_nil]; omega)).mono ?_; rintro e w6 ⟨rfl, hi6, hb6, ho6⟩; have HI6 := Lib.hid hi6; have HX6 := Lib.hid (box_after (by decide) ho6 HX5.out hne5); have HB6 := Lib.hid (below_weaken HB5.out hbs hb6); clear hi6 hb6 ho6)
          go_roundw
          case rel => exact ⟨j + 1, _, v3, hjlt, by go_num, by rw [List.append_assoc, List.append_assoc]; exact HA2.out, HV3, HI6, HX6, HB6⟩
          case measure => simp [intOf]; omega
        · have hj0z : ¬ (0 : Int) < (j : Int) := by omega
          have e1b := Lib.cell_of_heap (box_below (below_alloc (Below.refl _ wr) (.cells #[.string nm, .int .i64 mx, .bool stp] 43)) HX2.out) 1
          simp only [List.getElem?_toArray, List.getElem?_cons_zero, List.getElem?_cons_succ] at e1b
          by_cases hop : op = 0
          · subst hop
            have hah : aheadOf 0 j = [123] := by rw [aheadOf, if_neg hj0, if_neg (by decide)]
            rw [hah] at hl2 HA2
            simp only [List.length_singleton] at hl2
            go_wp2_with (refine (B_WriteByte b acc2 123 _ (HI2.out.kept (below_alloc (Below.refl _ _) _)) (by omega)).mono ?_; rintro e w4 ⟨rfl, hi4, hb4, ho4⟩; have HI4 := Lib.hid hi4; have HX7 := Lib.hid (box_after (by decide) ho4 (box_new _ _ _) hne7); have HX4 := Lib.hid (box_after (by decide) ho4 (box_below (below_alloc (Below.refl _ _) _) HX2.out) hne5); have HB4 := Lib.hid (below_weaken (below_alloc HB2.out _) hbs hb4); clear hi4 hb4 ho4; have e3 := Lib.cell_of_heap HX7.out 0; have e4 := Lib.cell_of_heap HX7.out 1; have e5 := Lib.cell_of_heap HX7.out 2; simp only [List.getElem?_toArray, List.getElem?_cons_zero, List.getElem?_cons_succ] at e3 e4 e5)
            go_wp2_with (refine (spec_Put.calls nm mx stp ps _ (HG.out.keepAt (Nat.le_refl _) HB4.out) HPS.out).mono ?_; rintro e w5 ⟨rfl, hb5⟩; have HI5 := Lib.hid (HI4.out.kept hb5); have HX5 := Lib.hid (box_below hb5 HX4.out); have HB5 := Lib.hid (below_step HB4.out hb5); clear hb5)
            go_wp2_with (refine (B_WriteString b _ ps _ HI5.out (by simp only [List.length_append, List.length_cons, List.length_nil]; omega)).mono ?_; rintro e w6 ⟨rfl, hi6, hb6, ho6⟩; have HI6 := Lib.hid hi6; have HX6 := Lib.hid (box_after (by decide) ho6 HX5.out hne5); have HB6 := Lib.hid (below_weaken HB5.out hbs hb6); clear hi6 hb6 ho6)
            go_roundw
            case rel => exact ⟨j + 1, _, v3, hjlt, by go_num, by rw [List.append_assoc, List.append_assoc]; exact HA2.out, HV3, HI6, HX6, HB6⟩
            case measure => simp [intOf]; omega
          · have hah : aheadOf op j = [123, op.toNat.toUInt8] := by rw [aheadOf, if_neg hj0, if_pos hop]
            rw [hah] at hl2 HA2
            simp only [List.length_cons, List.length_nil] at hl2
            have hcv := string_of_reads (P := Tryz.prog) (src := 58) (dst := 9) (c := 2) Tryz.underlying58 Tryz.underlying5 Tryz.underlying9 (reads_open2 (wr.alloc (.cells #[.string nm, .int .i64 mx, .bool stp] 43)) op (wr.heap.size + 1) (by simp))
            have hsz2 : (strOfNums [123, op]).size = 2 := rfl
            have hda2 : (strOfNums [123, op]).data.toList = [123, op.toNat.toUInt8] := rfl
            go_wp2_with (refine (B_WriteString b acc2 (strOfNums [123, op]) _ (HI2.out.kept (below_alloc (below_alloc (Below.refl _ _) _) _)) (by rw [hsz2]; omega)).mono ?_; rintro e w4 ⟨rfl, hi4, hb4, ho4⟩; rw [hda2] at hi4; have HI4 := Lib.hid hi4; have HX7 := Lib.hid (box_after (by decide) ho4 (box_below (below_alloc (Below.refl _ _) _) (box_new _ _ _)) hne7); have HX4 := Lib.hid (box_after (by decide) ho4 (box_below (below_alloc (below_alloc (Below.refl _ _) _) _) HX2.out) hne5); have HB4 := Lib.hid (below_weaken (below_alloc (below_alloc HB2.out _) _) hbs hb4); clear hi4 hb4 ho4; have e3 := Lib.cell_of_heap HX7.out 0; have e4 := Lib.cell_of_heap HX7.out 1; have e5 := Lib.cell_of_heap HX7.out 2; simp only [List.getElem?_toArray, List.getElem?_cons_zero, List.getElem?_cons_succ] at e3 e4 e5)
            go_wp2_with (refine (spec_Put.calls nm mx stp ps _ (HG.out.keepAt (Nat.le_refl _) HB4.out) HPS.out).mono ?_; rintro e w5 ⟨rfl, hb5⟩; have HI5 := Lib.hid (HI4.out.kept hb5); have HX5 := Lib.hid (box_below hb5 HX4.out); have HB5 := Lib.hid (below_step HB4.out hb5); clear hb5)
            go_wp2_with (refine (B_WriteString b _ ps _ HI5.out (by simp only [List.length_append, List.length_cons, List.length_nil]; omega)).mono ?_; rintro e w6 ⟨rfl, hi6, hb6, ho6⟩; have HI6 := Lib.hid hi6; have HX6 := Lib.hid (box_after (by decide) ho6 HX5.out hne5); have HB6 := Lib.hid (below_weaken HB5.out hbs hb6); clear hi6 hb6 ho6)
            go_roundw
            case rel => exact ⟨j + 1, _, v3, hjlt, by go_num, by rw [List.append_assoc, List.append_assoc]; exact HA2.out, HV3, HI6, HX6, HB6⟩
            case measure => simp [intOf]; omega
      · have hj2 : j = sp.length := by omega
        subst hj2
        have hv2 : v2 = [] := by
         have := HV2.out
         rw [List.drop_eq_nil_of_le (Nat.le_refl _)] at this
         exact (Option.some.inj this).symm
        have e2 := Lib.cell_of_heap HX2.out 2
        simp only [List.getElem?_toArray, List.getElem?_cons_zero, List.getElem?_cons_succ] at e2
        rw [hv2, List.append_nil] at hacc2
        have hl2 : acc2.length = acc.length + (lit.size + st.length) := by
         rw [hacc2]
         simp only [List.length_append]
         rfl
        by_cases hsp : 0 < sp.length
        · have hA := HA.out
          rw [if_pos hsp] at hA hul
          have HA2 := Lib.hid hacc2
          have HA3 := Lib.hid hA
          clear hacc2 hA
          go_wp2_with (refine (B_WriteByte b acc2 125 _ HI2.out (by omega)).mono ?_; rintro e w4 ⟨rfl, hi4, hb4, ho4⟩; have HI4 := Lib.hid hi4; have HB4 := Lib.hid (below_weaken HB2.out hbs hb4); clear hi4 hb4 ho4)
          go_roundw
          case rel => exact ⟨k + 1, acc2 ++ [125], rest, hlt, by go_num, by rw [HA2.out, ← HA3.out]; simp only [List.append_assoc], HRest, HI4, HB4⟩
          case measure => simp [intOf]; omega
        · have hA := HA.out
          rw [if_neg hsp] at hA hul
          have HA2 := Lib.hid hacc2
          have HA3 := Lib.hid hA
          clear hacc2 hA
          go_wp2
          go_roundw
          case rel => exact ⟨k + 1, acc2, rest, hlt, by go_num, by rw [HA2.out, ← HA3.out]; simp only [List.append_assoc, List.append_nil], HRest, HI2, HB2⟩
          case measure => simp [intOf]; omega
   · have hk2 : k = l.length := by omega
     subst hk2
     go_wp2_with (refine (B_String b acc _ HI.out).mono ?_; rintro e w2 ⟨rfl, hb2⟩)
     go_ret
     have hv : v = [] := by
      have := HV.out
      rw [List.drop_eq_nil_of_le (Nat.le_refl _)] at this
      exact (Option.some.inj this).symm
     refine ⟨?_, below_weaken HB.out hbs hb2⟩
     rw [← HR.out, ← hacc, hv, List.append_nil]
     rfl
def C3 (w : World) (g : Nat) (T : TypeId) (x y z : Value) : Prop := w.heap[g]? = some (.cells #[x, y, z] T (0, 0))
section
variable {w : World} {g : Nat} {T : TypeId} {x y z : Value}
theorem C3.cell0 (h : C3 w g T x y z) : w.cell? ⟨g, 0, none⟩ = some x := by unfold C3 at h; rw [Lib.cell_of_heap h]; rfl
theorem C3.cell1 (h : C3 w g T x y z) : w.cell? ⟨g, 1, none⟩ = some y := by unfold C3 at h; rw [Lib.cell_of_heap h]; rfl
theorem C3.cell2 (h : C3 w g T x y z) : w.cell? ⟨g, 2, none⟩ = some z := by unfold C3 at h; rw [Lib.cell_of_heap h]; rfl
theorem C3.free (h : C3 w g T x y z) (j : Nat) : w.frozen? ⟨g, j, none⟩ = false := Lib.frozen_of_heap h j
theorem C3.lt (h : C3 w g T x y z) : g < w.heap.size := (Array.getElem?_eq_some_iff.1 h).1
theorem C3.but {w' : World} {b : Nat} (h : C3 w g T x y z) (hb : But b w w') (hn : g ≠ b) : C3 w' g T x y z := (hb.block g h.lt hn).trans h
theorem C3.grown {w' : World} {row : Option Nat} (h : C3 w g T x y z) (hg : w.grownBy w' row) (hn : some g ≠ row) : C3 w' g T x y z := (hg.block g h.lt hn).trans h
theorem C3.far (h : C3 w g T x y z) {p : Addr} (hp : g ≠ p.block) (u : Value) : C3 (w.setCell p u) g T x y z := (Below.heap_setCell w p u g hp).trans h
theorem C3.set0 (h : C3 w g T x y z) (u : Value) : C3 (w.setCell ⟨g, 0, none⟩ u) g T u y z := heap_setCell_same _ _ 0 _ _ _ h
theorem C3.set1 (h : C3 w g T x y z) (u : Value) : C3 (w.setCell ⟨g, 1, none⟩ u) g T x u z := heap_setCell_same _ _ 1 _ _ _ h
theorem C3.set2 (h : C3 w g T x y z) (u : Value) : C3 (w.setCell ⟨g, 2, none⟩ u) g T x y u := heap_setCell_same _ _ 2 _ _ _ h
end
theorem Rd.grown {w w' : World} {g : Nat} {s : ByteArray} {a : Int} {v : Value} {row : Option Nat} (h : Rd w g s a v) (hg : w.grownBy w' row) (hn : some g ≠ row) : Rd w' g s a v := (hg.block g h.lt hn).trans h
theorem But.grown {g : Nat} {w w1 w2 : World} {row : Option Nat} (h : But g w w1) (hg : w1.grownBy w2 row) (hr : ∀ k, row = some k → w.heap.size ≤ k) : But g w w2 :=
 ⟨hg.os.trans h.os, hg.tape.trans h.tape, hg.output.trans h.output, Nat.le_trans h.size hg.size, fun i hi hn => (hg.block i (Nat.lt_of_lt_of_le hi h.size) (fun e => by have := hr i e.symm; omega)).trans (h.block i hi hn)⟩
def exprFrom (s : ByteArray) : Nat → Int → List S43 → Option (Bool × List S43 × Int)
 | 0, _, _ => none
 | d + 1, a, l => (reader_spec.f s a).bind fun t =>
  if t.1 = true then (if t.2.2.1 = 125 then some (true, l ++ [⟨t.2.1.1, t.2.1.2.1, t.2.1.2.2⟩], t.2.2.2) else exprFrom s d t.2.2.2 (l ++ [⟨t.2.1.1, t.2.1.2.1, t.2.1.2.2⟩]))
  else some (false, [], t.2.2.2)
def opOf (r : ByteArray) : Option Int :=
 if r.toList = [] then some 0 else if bt r 0 = 0 then some 0 else (tmpl_Operator.f (bt r 0)).map fun b => if b = true then bt r 0 else 0
def reader_expression.f (s : ByteArray) (a : Int) : Option (Int × Bool × List S43 × Int) :=
 (opOf (s.extract a.toNat s.size)).bind fun op => (exprFrom s (s.size + 2) (if op = 0 then a else a + 1) []).map fun t => (op, t)
theorem reader_spec_bounds {s : ByteArray} {a : Int} {ok : Bool} {x : ByteArray × Int × Bool} {c a' : Int} (h0 : 0 ≤ a) (h1 : a ≤ s.size) (h : reader_spec.f s a = some (ok, x, c, a')) : a ≤ a' ∧ a' ≤ s.size ∧ (ok = true → a + 1 ≤ a' ∧ (c = 44 ∨ c = 125)) := by
 unfold reader_spec.f at h
 obtain ⟨⟨nm1, m1, st1, n, bad⟩, hta, h⟩ := Option.bind_eq_some_iff.1 h
 have htb := take_bounds hta
 have hsp := anyFrom_spec (s.extract a.toNat s.size) (s.extract a.toNat s.size).size 0
 have hsz : (s.extract a.toNat s.size).size = s.size - a.toNat := by rw [ByteArray.size_extract]; omega
 obtain ⟨i, hi⟩ : ∃ i, i = anyFrom (s.extract a.toNat s.size) (s.extract a.toNat s.size).size 0 := ⟨_, rfl⟩
 simp only [← hi] at h htb hsp
 split at h
 · rename_i hc
   simp only [Option.some.injEq, Prod.mk.injEq] at h
   obtain ⟨_, _, hc1, ha1⟩ := h
   rcases hsp with hsp | ⟨h2, h3, h4⟩
   · omega
   · rw [if_pos hc.2, ByteArray.size_extract] at htb
     refine ⟨by omega, by omega, fun _ => ⟨by omega, ?_⟩⟩
     rw [← hc1]
     exact h4
 · simp only [Option.some.injEq, Prod.mk.injEq] at h
   obtain ⟨hok, _, _, ha1⟩ := h
   have h5 : n ≤ (s.extract a.toNat s.size).size := by
    split at htb
    · rw [ByteArray.size_extract] at htb
      omega
    · exact htb.2.1
   exact ⟨by omega, by omega, fun h => by rw [← hok] at h; cases h⟩
def atOf (w : World) (g : Nat) : Nat := match w.cell? ⟨g, 1, none⟩ with | some (.int _ a) => a.toNat | _ => 0
theorem Rd.atOf_eq {w : World} {g : Nat} {s : ByteArray} {a : Int} {v : Value} (h : Rd w g s a v) : atOf w g = a.toNat := by unfold atOf; rw [h.cell1]
structure ExprAt (w W : World) (g : Nat) (s : ByteArray) (a : Int) (pv : Value) (op : Int) (v : Value) (l : List S43) : Prop where
 rd : Rd W g s a pv
 out : C3 W w.heap.size 41 (.string ⟨#[]⟩) (.int .u8 0) (.slice none 0 0)
 p : C3 W (w.heap.size + 1) 41 (.string ⟨#[]⟩) (.int .u8 op) v
 row : Kd.R k43 43 W (w.heap.size + 2) (fun _ => True) v l
 but : But g w W
 sz : w.heap.size + 2 ≤ W.heap.size
theorem ExprAt.row_step {w W W' : World} {g : Nat} {v : Value} {l : List S43} (hrow : Kd.R k43 43 W (w.heap.size + 2) (fun _ => True) v l) (hm : ∀ k, w.heap.size + 2 ≤ k → k < W.heap.size → W'.heap[k]? = W.heap[k]?) : Kd.R k43 43 W' (w.heap.size + 2) (fun _ => True) v l :=
 Kd.R_mono (Kd.R_move (Kd.R_bound hrow) (fun k hk => hm k hk.2.1 hk.2.2.1)) (fun _ _ => trivial)
theorem ExprAt.start {w : World} {g : Nat} {s : ByteArray} {a : Int} {pv : Value} (hr : Rd w g s a pv) :
 ExprAt w ((w.alloc (.cells #[.string ⟨#[]⟩, .int .u8 0, .slice none 0 0] 41)).alloc (.cells #[.string ⟨#[]⟩, .int .u8 0, .slice none 0 0] 41)) g s a pv 0 (.slice none 0 0) [] :=
 ⟨hr.keep (((Below.refl _ _).alloc (Nat.le_refl _) _).alloc (by simp) _), heap_alloc2_old w _ _, heap_alloc2_new w _ _, Kd.R_nil _ _ _ _ _, ((But.refl g w).alloc _).alloc _, by simp⟩
theorem ExprAt.step {w W W' : World} {g : Nat} {s : ByteArray} {a a' : Int} {pv : Value} {op : Int} {v : Value} {l : List S43} (h : ExprAt w W g s a pv op v l) (hg : g < w.heap.size) (hr : Rd W' g s a' pv) (hb : But g W W') : ExprAt w W' g s a' pv op v l :=
 ⟨hr, h.out.but hb (by omega), h.p.but hb (by omega), ExprAt.row_step (g := g) h.row (fun k hk hl => hb.block k hl (by omega)), h.but.trans hb, Nat.le_trans h.sz hb.size⟩
theorem ExprAt.below {w W W' : World} {g : Nat} {s : ByteArray} {a : Int} {pv : Value} {op : Int} {v : Value} {l : List S43} (h : ExprAt w W g s a pv op v l) (hg : g < w.heap.size) (hb : Below W.heap.size W W') : ExprAt w W' g s a pv op v l := h.step hg (h.rd.keep hb) (But.of hb)
theorem ExprAt.opened {w W : World} {g : Nat} {s : ByteArray} {a : Int} {pv : Value} {op : Int} {v : Value} {l : List S43} (h : ExprAt w W g s a pv op v l) (hg : g < w.heap.size) (c : Int) :
 ExprAt w ((W.setCell ⟨w.heap.size + 1, 1, none⟩ (.int .u8 c)).setCell ⟨g, 1, none⟩ (.int .i64 (a + 1))) g s (a + 1) pv c v l :=
 ⟨(h.rd.far (by show g ≠ w.heap.size + 1; omega) _).setAt _,
  (h.out.far (by show w.heap.size ≠ w.heap.size + 1; omega) _).far (by show w.heap.size ≠ g; omega) _,
  (h.p.set1 _).far (by show w.heap.size + 1 ≠ g; omega) _,
  ExprAt.row_step (g := g) h.row (fun k hk _ => by rw [Below.heap_setCell _ _ _ k (by show k ≠ g; omega), Below.heap_setCell _ _ _ k (by show k ≠ w.heap.size + 1; omega)]),
  (h.but.far (p := ⟨w.heap.size + 1, 1, none⟩) (by show w.heap.size ≤ w.heap.size + 1; omega) _).set 1 _,
  by simpa [World.setCell] using h.sz⟩
theorem ExprAt.own {w W : World} {g : Nat} {s : ByteArray} {a : Int} {pv : Value} {op : Int} {v : Value} {l : List S43} (h : ExprAt w W g s a pv op v l) : ∀ k, v.ownBlock = some k → w.heap.size + 2 ≤ k := fun k hk => Kd.R_base h.row k hk
theorem ExprAt.appended {w W W' : World} {g : Nat} {s : ByteArray} {a : Int} {pv : Value} {op : Int} {v v1 : Value} {l l1 : List S43} (h : ExprAt w W g s a pv op v l) (hgl : g < w.heap.size) (hr : Kd.R k43 43 W' (w.heap.size + 2) (fun _ => True) v1 l1) (hg : W.grownBy W' v.ownBlock) :
 ExprAt w (W'.setCell ⟨w.heap.size + 1, 2, none⟩ v1) g s a pv op v1 l1 :=
 ⟨(h.rd.grown hg (fun e => by have := h.own g e.symm; omega)).far (by show g ≠ w.heap.size + 1; omega) _,
  (h.out.grown hg (fun e => by have := h.own _ e.symm; omega)).far (by show w.heap.size ≠ w.heap.size + 1; omega) _,
  (h.p.grown hg (fun e => by have := h.own _ e.symm; omega)).set2 _,
  ExprAt.row_step (g := g) hr (fun k hk _ => Below.heap_setCell W' ⟨w.heap.size + 1, 2, none⟩ v1 k (by show k ≠ w.heap.size + 1; omega)),
  (h.but.grown hg (fun k hk => by have := h.own k hk; omega)).far (p := ⟨w.heap.size + 1, 2, none⟩) (by show w.heap.size ≤ w.heap.size + 1; omega) _,
  by simpa [World.setCell] using Nat.le_trans h.sz hg.size⟩
theorem ExprAt.done {w W : World} {g : Nat} {s : ByteArray} {a : Int} {pv : Value} {op : Int} {v : Value} {l : List S43} (h : ExprAt w W g s a pv op v l) (hg : g < w.heap.size) :
 C3 (((W.setCell ⟨w.heap.size, 0, none⟩ (.string ⟨#[]⟩)).setCell ⟨w.heap.size, 1, none⟩ (.int .u8 op)).setCell ⟨w.heap.size, 2, none⟩ v) w.heap.size 41 (.string ⟨#[]⟩) (.int .u8 op) v ∧ Rd (((W.setCell ⟨w.heap.size, 0, none⟩ (.string ⟨#[]⟩)).setCell ⟨w.heap.size, 1, none⟩ (.int .u8 op)).setCell ⟨w.heap.size, 2, none⟩ v) g s a pv ∧ But g w (((W.setCell ⟨w.heap.size, 0, none⟩ (.string ⟨#[]⟩)).setCell ⟨w.heap.size, 1, none⟩ (.int .u8 op)).setCell ⟨w.heap.size, 2, none⟩ v) ∧ Kd.R k43 43 (((W.setCell ⟨w.heap.size, 0, none⟩ (.string ⟨#[]⟩)).setCell ⟨w.heap.size, 1, none⟩ (.int .u8 op)).setCell ⟨w.heap.size, 2, none⟩ v) w.heap.size (fun _ => True) v l :=
 ⟨((h.out.set0 _).set1 _).set2 _,
  ((h.rd.far (by show g ≠ w.heap.size; omega) _).far (by show g ≠ w.heap.size; omega) _).far (by show g ≠ w.heap.size; omega) _,
  ((h.but.far (p := ⟨w.heap.size, 0, none⟩) (Nat.le_refl _) _).far (p := ⟨w.heap.size, 1, none⟩) (Nat.le_refl _) _).far (p := ⟨w.heap.size, 2, none⟩) (Nat.le_refl _) _,
  Kd.R_lower (ExprAt.row_step (g := g) h.row (fun k hk _ => by
   rw [Below.heap_setCell _ _ _ k (by show k ≠ w.heap.size; omega), Below.heap_setCell _ _ _ k (by show k ≠ w.heap.size; omega), Below.heap_setCell _ _ _ k (by show k ≠ w.heap.size; omega)])) (by omega)⟩
def exprEnd (w : World) (op : Int) (ok : Bool) (l : List S43) (a' : Int) (e : Ending) (w' : World) : Prop :=
 if ok = true then ∃ v, e = .returned (.agg #[.string ⟨#[]⟩, .int .u8 op, v]) ∧ Kd.R k43 43 w' w.heap.size (fun _ => True) v l else e = wrongAt a'
theorem info_spec : (Tryz.prog.info? 43).map (fun i => (i.zero, i.size, i.bytes)) = some (some (.agg #[.string ⟨#[]⟩, .int .i64 0, .bool false]), 3, 32) := by kernel_rfl
set_option maxRecDepth 100000 in
set_option maxHeartbeats 4000000 in
theorem reader_expression.calls (w : World) (g : Nat) (s : ByteArray) (a : Int) (pv : Value) (op : Int) (ok : Bool) (l : List S43) (a' : Int) (hr : Rd w g s a pv) (h0 : 0 ≤ a) (h1 : a ≤ s.size) (hs : s.size ≤ 1099511627776) (hG : Gl w)
 (hg1 : g ≠ 1) (hg2 : g ≠ 4) (h : reader_expression.f s a = some (op, ok, l, a')) :
 Calls Tryz.prog 38 #[.pointer (some ⟨g, 0, none⟩)] w fun e w' =>
  exprEnd w op ok l a' e w' ∧ Rd w' g s a' pv ∧ But g w w' := by
 unfold reader_expression.f at h
 obtain ⟨r, hr'⟩ : ∃ r, r = s.extract a.toNat s.size := ⟨_, rfl⟩
 have hrsz : r.size = s.size - a.toNat := by rw [hr', ByteArray.size_extract]; omega
 rw [← hr'] at h
 obtain ⟨op1, hop, h⟩ := Option.bind_eq_some_iff.1 h
 obtain ⟨⟨ok1, l1, a1⟩, hex, h⟩ := Option.map_eq_some_iff.1 h
 simp only [Prod.mk.injEq] at h
 obtain ⟨rfl, rfl, rfl, rfl⟩ := h
 have HR := Lib.hid hr'
 have HS := Lib.hid hrsz
 have HRd := Lib.hid hr
 have HG := Lib.hid hG
 have hglt := hr.lt
 have HEx := Lib.hid hex
 clear hr' hr hG hex hrsz
 unfold opOf at hop
 by_cases hr0 : r.toList = []
 case' pos =>
  rw [if_pos hr0] at hop
  have q1 : (r.toList == ([] : List UInt8)) = true := beq_iff_eq.2 hr0
  have ho := Option.some.inj hop
  have HO := Lib.hid ho
  have hex := HEx.out
  rw [if_pos ho.symm] at hex
  have ha0 := h0
  have ha1 := h1
  have HEx := Lib.hid hex
  clear hop hr0 hex ho
  go_enter Tryz.func38, Tryz.ntmps38
  go_wp2_with fail
  refine (text_rest.calls _ g s a pv (HRd.out.keep (((Below.refl _ _).alloc (Nat.le_refl _) _).alloc (by simp) _)) h0 h1 hs).mono ?_
  rintro e w1 ⟨rfl, hb1⟩
  rw [← HR.out]
  have hx1 : ExprAt w w1 g s a pv 0 (.slice none 0 0) [] := (ExprAt.start HRd.out).below hglt hb1.below
  rw [HO.out] at hx1
  have HX1 := Lib.hid hx1
  clear hb1 hx1
  go_wp2
 case' neg =>
  rw [if_neg hr0] at hop
  have q1 : (r.toList == ([] : List UInt8)) = false := beq_eq_false_iff_ne.2 hr0
  have hpos : 0 < r.size := Nat.pos_of_ne_zero (fun e => hr0 ((toList_nil_iff r).2 e))
  have hix : ∀ h : 0 < r.size, ((r[0]'h).toNat : Int) = bt r 0 := fun h => bt_at r 0 h
  obtain ⟨c, hc⟩ : ∃ c, c = bt r 0 := ⟨_, rfl⟩
  rw [← hc] at hop hix
  clear hc hr0
  by_cases hc0 : c = 0
  case' pos =>
   rw [if_pos hc0] at hop
   have q2 : (c == 0) = true := beq_iff_eq.2 hc0
   have ho := Option.some.inj hop
   have HO := Lib.hid ho
   have hex := HEx.out
   rw [if_pos ho.symm] at hex
   have ha0 := h0
   have ha1 := h1
   have HEx := Lib.hid hex
   have q3 : (c != 0) = false := by simp [hc0]
   clear hop hex ho hc0
   go_enter Tryz.func38, Tryz.ntmps38
   go_wp2_with fail
   refine (text_rest.calls _ g s a pv (HRd.out.keep (((Below.refl _ _).alloc (Nat.le_refl _) _).alloc (by simp) _)) h0 h1 hs).mono ?_
   rintro e w1 ⟨rfl, hb1⟩
   rw [← HR.out]
   have hx1 : ExprAt w w1 g s a pv 0 (.slice none 0 0) [] := (ExprAt.start HRd.out).below hglt hb1.below
   rw [HO.out] at hx1
   have HX1 := Lib.hid hx1
   clear hb1 hx1
   go_wp2
  case' neg =>
   rw [if_neg hc0] at hop
   have q2 : (c == 0) = false := beq_eq_false_iff_ne.2 hc0
   obtain ⟨b, hb, ho1⟩ := Option.map_eq_some_iff.1 hop
   have HOp := Lib.hid hb
   cases b
   case' false =>
    have hop : some (0 : Int) = some op1 := by rw [← ho1]; rfl
    have ho := Option.some.inj hop
    have HO := Lib.hid ho
    have hex := HEx.out
    rw [if_pos ho.symm] at hex
    have ha0 := h0
    have ha1 := h1
    have HEx := Lib.hid hex
    have q3 : (c != 0) = true := bne_iff_ne.2 hc0
    clear hop hex ho hb ho1
    go_enter Tryz.func38, Tryz.ntmps38
    go_wp2_with fail
    refine (text_rest.calls _ g s a pv (HRd.out.keep (((Below.refl _ _).alloc (Nat.le_refl _) _).alloc (by simp) _)) h0 h1 hs).mono ?_
    rintro e w1 ⟨rfl, hb1⟩
    rw [← HR.out]
    have hx1 : ExprAt w w1 g s a pv 0 (.slice none 0 0) [] := (ExprAt.start HRd.out).below hglt hb1.below
    rw [HO.out] at hx1
    go_wp2_with (go_at_call 19; refine (tmpl_Operator.calls c _ _ HOp.out).mono ?_; rintro e w2 ⟨rfl, hb2⟩; have HX1 := Lib.hid (hx1.below hglt hb2.below); clear hb1 hx1 hb2)
   case' true =>
    have ho : c = op1 := by rw [← ho1]; rfl
    have HO := Lib.hid ho
    have hex := HEx.out
    rw [if_neg (by rw [← ho]; exact hc0)] at hex
    have ha1 : a + 1 ≤ s.size := by have := HS.out; omega
    have ha0 : 0 ≤ a + 1 := by omega
    have HEx := Lib.hid hex
    have q3 : (c != 0) = true := bne_iff_ne.2 hc0
    clear hop hex ho hb ho1
    go_enter Tryz.func38, Tryz.ntmps38
    go_wp2_with fail
    refine (text_rest.calls _ g s a pv (HRd.out.keep (((Below.refl _ _).alloc (Nat.le_refl _) _).alloc (by simp) _)) h0 h1 hs).mono ?_
    rintro e w1 ⟨rfl, hb1⟩
    rw [← HR.out]
    have hx1 : ExprAt w w1 g s a pv 0 (.slice none 0 0) [] := (ExprAt.start HRd.out).below hglt hb1.below
    have hn1 : ¬ g = w.heap.size + 1 := by omega
    go_wp2_with (go_at_call 19; refine (tmpl_Operator.calls c _ _ HOp.out).mono ?_; rintro e w2 ⟨rfl, hb2⟩; have hx2 := hx1.below hglt hb2.below; have p1 := hx2.p.cell1; have p2 := hx2.p.free 1; have g1 := hx2.rd.cell1; have g2 := hx2.rd.free 1; have HX1 := Lib.hid (show ExprAt w ((w2.setCell ⟨w.heap.size + 1, 1, none⟩ (.int .u8 c)).setCell ⟨g, 1, none⟩ (.int .i64 (a + 1))) g s (a + 1) pv op1 (.slice none 0 0) [] from (congrArg (fun q => ExprAt w ((w2.setCell ⟨w.heap.size + 1, 1, none⟩ (.int .u8 c)).setCell ⟨g, 1, none⟩ (.int .i64 (a + 1))) g s (a + 1) pv q (.slice none 0 0) []) HO.out).mp (hx2.opened hglt c)); clear hb1 hx1 hb2 hx2)
 all_goals
  go_loopw [5, 6] (fun _ _ wr => ∃ (d : Nat) (x : Int) (v : Value) (l : List S43), 0 ≤ x ∧ x ≤ s.size ∧ (s.size : Int) < x + d ∧ (l.length : Int) ≤ x ∧ Hid (ExprAt w wr g s x pv op1 v l) ∧ Hid (exprFrom s d x l = some (ok1, l1, a1))) (fun _ _ wr => s.size + 1 - atOf wr g)
  case atStart => exact ⟨s.size + 2, _, .slice none 0 0, [], ha0, ha1, by omega, by simp; omega, HX1, HEx⟩
  case round =>
   obtain ⟨d, x, v, l, hx0, hx1, hd, hl, HXr, HE⟩ := hrel
   cases d with
   | zero => omega
   | succ d =>
    have hE := HE.out
    rw [exprFrom] at hE
    obtain ⟨⟨ok2, ⟨nm, m, st⟩, c2, a2⟩, hsp, hE⟩ := Option.bind_eq_some_iff.1 hE
    have hbd := reader_spec_bounds hx0 hx1 hsp
    have HSP := Lib.hid hsp
    simp only at hE
    have HMS := Lib.hid HXr.out.rd.atOf_eq
    clear hsp HE
    cases ok2 with
    | false =>
     rw [if_neg (by simp)] at hE
     have HE1 := Lib.hid (Option.some.inj hE)
     clear hE
     go_wp2_with fail
     refine (reader_spec.calls _ g s x pv false nm m st c2 a2 HXr.out.rd hx0 hx1 hs (HXr.out.but.gl HG.out hg1 hg2) HSP.out).mono ?_
     rintro e w2 ⟨he, hrd, hbt⟩
     rw [if_neg (by simp)] at he
     subst he
     unfold wrongAt
     go_wp2
     refine ⟨rfl, ?_⟩
     have := HE1.out
     simp only [Prod.mk.injEq] at this
     obtain ⟨rfl, rfl, rfl⟩ := this
     exact ⟨rfl, hrd, HXr.out.but.trans hbt⟩
    | true =>
     rw [if_pos rfl] at hE
     obtain ⟨hb1, hb2, hb3⟩ := hbd
     obtain ⟨hb3, hb4⟩ := hb3 rfl
     by_cases hc : c2 = 125
     · have q9 : (c2 == 125) = true := beq_iff_eq.2 hc
       rw [if_pos hc] at hE
       have HE1 := Lib.hid (Option.some.inj hE)
       clear hE hb4 hc
       go_wp2_with fail
       refine (reader_spec.calls _ g s x pv true nm m st c2 a2 HXr.out.rd hx0 hx1 hs (HXr.out.but.gl HG.out hg1 hg2) HSP.out).mono ?_
       rintro e w2 ⟨he, hrd, hbt⟩
       rw [if_pos rfl] at he
       subst he
       have hx2 := HXr.out.step hglt hrd hbt
       have hp2 := hx2.p.cell2
       have hlt2 := hx2.p.lt
       have hxa := hx2.below hglt ((Below.refl _ _).alloc (Nat.le_refl _) (.cells #[.string nm, .int .i64 m, .bool st] 43))
       have HXa := Lib.hid hxa
       have HL := Lib.hid (show (l.length : Int) + 1 ≤ a2 by omega)
       clear hrd hbt hx2 hxa
       go_wp2_with (at_builtin; go_must (refine Kd.R_append k43 (w0 := w2.alloc (.cells #[.string nm, .int .i64 m, .bool st] 43)) (w.heap.size + 2) rfl (.tmp 41) (.tmp 43) 39 43 (.agg #[.string ⟨#[]⟩, .int .i64 0, .bool false]) 32 rfl Tryz.underlying39 info_spec rfl (by decide) (by decide) v l (⟨nm, m, st⟩ : S43) [.string nm, .int .i64 m, .bool st] (fun _ => True) (fun _ => False) rfl (show Value.slice (some ⟨w2.heap.size + 1, 0, none⟩) 1 1 = Value.slice (some ⟨(w2.alloc (.cells #[.string nm, .int .i64 m, .bool st] 43)).heap.size, 0, none⟩) 1 1 by simp) (k43_mkM _ _ _ (⟨nm, m, st⟩ : S43)) (fun _ h => h.elim) (fun _ _ => trivial) HXa.out.row (Below.refl _ _) HXa.out.sz (by omega) ?_))
       intro v1 w3 HR1 _ hgr _
       obtain ⟨A1, cc1, rfl⟩ := Kd.R_slice HR1
       rw [List.length_append, List.length_singleton] at HR1
       have hx4 := HXa.out.appended hglt HR1 hgr
       have hpg := HXa.out.p.grown hgr (fun e => by have := HXa.out.own _ e.symm; omega)
       have e0 := hpg.cell0
       have e1 := hpg.cell1
       have e2 := hpg.cell2
       have f2 := hpg.free 2
       have hog := HXa.out.out.grown hgr (fun e => by have := HXa.out.own _ e.symm; omega)
       have x0 := hog.cell0
       have x1 := hog.cell1
       have x2 := hog.cell2
       have y0 := hog.free 0
       have y1 := hog.free 1
       have y2 := hog.free 2
       have HX4 := Lib.hid hx4
       have hm4 := hx4.rd.atOf_eq
       have HM4 := Lib.hid hm4
       have HRow := Lib.hid HR1
       clear hx4 hpg hog hgr HR1 hm4 hp2
       go_wp2
       obtain ⟨hd1, hd2, hd3, hd4⟩ := HX4.out.done hglt
       obtain ⟨W, hW⟩ : ∃ W, W = ((((w3.setCell ⟨w.heap.size + 1, 2, none⟩ (.slice A1 (l.length + 1) cc1)).setCell ⟨w.heap.size, 0, none⟩ (.string ⟨#[]⟩)).setCell ⟨w.heap.size, 1, none⟩ (.int .u8 op1)).setCell ⟨w.heap.size, 2, none⟩ (.slice A1 (l.length + 1) cc1)) := ⟨_, rfl⟩
       rw [← hW] at hd1 hd2 hd3 hd4 ⊢
       have z0 := hd1.cell0
       have z1 := hd1.cell1
       have z2 := hd1.cell2
       have := HE1.out
       simp only [Prod.mk.injEq] at this
       obtain ⟨rfl, rfl, rfl⟩ := this
       refine bodyPost_ret (v := .agg #[.string ⟨#[]⟩, .int .u8 op1, .slice A1 (l.length + 1) cc1]) (by simp [results, Tryz.results38, go_sem, z0, z1, z2]) rfl ⟨⟨_, rfl, hd4⟩, hd2, hd3⟩
     · have q9 : (c2 == 125) = false := beq_eq_false_iff_ne.2 hc
       rw [if_neg hc] at hE
       have HE1 := Lib.hid hE
       clear hE hb4 hc
       go_wp2_with fail
       refine (reader_spec.calls _ g s x pv true nm m st c2 a2 HXr.out.rd hx0 hx1 hs (HXr.out.but.gl HG.out hg1 hg2) HSP.out).mono ?_
       rintro e w2 ⟨he, hrd, hbt⟩
       rw [if_pos rfl] at he
       subst he
       have hx2 := HXr.out.step hglt hrd hbt
       have hp2 := hx2.p.cell2
       have hlt2 := hx2.p.lt
       have hxa := hx2.below hglt ((Below.refl _ _).alloc (Nat.le_refl _) (.cells #[.string nm, .int .i64 m, .bool st] 43))
       have HXa := Lib.hid hxa
       have HL := Lib.hid (show (l.length : Int) + 1 ≤ a2 by omega)
       clear hrd hbt hx2 hxa
       go_wp2_with (at_builtin; go_must (refine Kd.R_append k43 (w0 := w2.alloc (.cells #[.string nm, .int .i64 m, .bool st] 43)) (w.heap.size + 2) rfl (.tmp 41) (.tmp 43) 39 43 (.agg #[.string ⟨#[]⟩, .int .i64 0, .bool false]) 32 rfl Tryz.underlying39 info_spec rfl (by decide) (by decide) v l (⟨nm, m, st⟩ : S43) [.string nm, .int .i64 m, .bool st] (fun _ => True) (fun _ => False) rfl (show Value.slice (some ⟨w2.heap.size + 1, 0, none⟩) 1 1 = Value.slice (some ⟨(w2.alloc (.cells #[.string nm, .int .i64 m, .bool st] 43)).heap.size, 0, none⟩) 1 1 by simp) (k43_mkM _ _ _ (⟨nm, m, st⟩ : S43)) (fun _ h => h.elim) (fun _ _ => trivial) HXa.out.row (Below.refl _ _) HXa.out.sz (by omega) ?_))
       intro v1 w3 HR1 _ hgr _
       obtain ⟨A1, cc1, rfl⟩ := Kd.R_slice HR1
       rw [List.length_append, List.length_singleton] at HR1
       have hx4 := HXa.out.appended hglt HR1 hgr
       have hpg := HXa.out.p.grown hgr (fun e => by have := HXa.out.own _ e.symm; omega)
       have e0 := hpg.cell0
       have e1 := hpg.cell1
       have e2 := hpg.cell2
       have f2 := hpg.free 2
       have hog := HXa.out.out.grown hgr (fun e => by have := HXa.out.own _ e.symm; omega)
       have x0 := hog.cell0
       have x1 := hog.cell1
       have x2 := hog.cell2
       have y0 := hog.free 0
       have y1 := hog.free 1
       have y2 := hog.free 2
       have HX4 := Lib.hid hx4
       have hm4 := hx4.rd.atOf_eq
       have HM4 := Lib.hid hm4
       have HRow := Lib.hid HR1
       clear hx4 hpg hog hgr HR1 hm4 hp2
       go_wp2
       go_roundw
       case rel => exact ⟨d, a2, _, l ++ [⟨nm, m, st⟩], by omega, hb2, by omega, by rw [List.length_append]; simpa using HL.out, HX4, HE1⟩
       case measure =>
        rw [HMS.out, HM4.out]
        omega
def reader_part.f (k : Nat) (s : ByteArray) (a : Int) : Option (Bool × S41 × Int) :=
  if bt (s.extract a.toNat s.size) 0 = 123 then
    (reader_expression.f s (a + 1)).map fun t => (t.2.1, ⟨⟨#[]⟩, t.1, t.2.2.1⟩, t.2.2.2)
  else (tmpl_pieces.f k (s.extract a.toNat s.size)).bind fun n =>
    if n = 0 then (reader_stop.f k s a).map fun q => (false, z41, q)
    else if 0 ≤ n ∧ n ≤ (s.extract a.toNat s.size).size then some (true, ⟨(s.extract a.toNat s.size).extract 0 n.toNat, 0, []⟩, a + n) else none
structure PartsAt (W : World) (g : Nat) (s : ByteArray) (a : Int) (v : Value) (L : List S41) : Prop where
  rd : Rd W g s a v
  row : Kd.S k41 41 W (g + 1) (fun _ => True) v L
theorem PartsAt.own {W : World} {g : Nat} {s : ByteArray} {a : Int} {v : Value} {L : List S41} (h : PartsAt W g s a v L) : ∀ k, v.ownBlock = some k → g + 1 ≤ k ∧ k < W.heap.size := fun k hk => ⟨Kd.S_base h.row k hk, Kd.S_lt h.row k hk⟩
theorem PartsAt.row_step {W W' : World} {g : Nat} {v : Value} {L : List S41} (h : Kd.S k41 41 W (g + 1) (fun _ => True) v L) (hm : ∀ k, g + 1 ≤ k → k < W.heap.size → W'.heap[k]? = W.heap[k]?) : Kd.S k41 41 W' (g + 1) (fun k => k < W.heap.size) v L :=
  Kd.S_mono (Kd.S_move (Kd.S_bound h) (fun k hk => hm k hk.2.1 hk.2.2.1)) (fun k hk => hk.2.2.1)
def partEnd (g : Nat) (s : ByteArray) (L : List S41) (ok : Bool) (x : S41) (a' : Int) (e : Ending) (w' : World) : Prop :=
  if ok = true then e = .returned (.tuple #[]) ∧ ∃ v, PartsAt w' g s a' v (L ++ [x]) else e = wrongAt a'
theorem partDone {w0 W W2 W3 : World} {g : Nat} {s : ByteArray} {a a' : Int} {v v1 : Value} {L L1 : List S41} (hp : PartsAt W g s a v L) (hb : Below g w0 W) (hr : Rd W2 g s a' v) (h2 : But g W W2) (hg : W2.grownBy W3 v.ownBlock) (hs : Kd.S k41 41 W3 (g + 1) (fun _ => True) v1 L1) :
    PartsAt (W3.setCell ⟨g, 2, none⟩ v1) g s a' v1 L1 ∧ Below g w0 (W3.setCell ⟨g, 2, none⟩ v1) :=
  ⟨⟨(hr.grown hg (fun e => by have := (hp.own g e.symm).1; omega)).setParts _, Kd.S_mono (PartsAt.row_step (g := g) hs (fun k hk _ => Below.heap_setCell _ _ _ k (by show k ≠ g; omega))) (fun _ _ => trivial)⟩,
   ((((h2.below hb (Nat.le_refl _) (Nat.le_of_lt hp.rd.lt)).trans ⟨hg.os, hg.tape, hg.output, hg.size, fun k hk => hg.block k (by have := hp.rd.lt; have := h2.size; omega) (fun e => by have := (hp.own k e.symm).1; omega)⟩))).setCell (p := ⟨g, 2, none⟩) (Nat.le_refl _) _⟩
theorem PartsAt.setAt {W : World} {g : Nat} {s : ByteArray} {a : Int} {v : Value} {L : List S41} (h : PartsAt W g s a v L) (b : Int) : PartsAt (W.setCell ⟨g, 1, none⟩ (.int .i64 b)) g s b v L :=
  ⟨h.rd.setAt b, Kd.S_mono (PartsAt.row_step (g := g) h.row (fun k hk _ => Below.heap_setCell _ _ _ k (by show k ≠ g; omega))) (fun _ _ => trivial)⟩
theorem info_part : (Tryz.prog.info? 41).map (fun i => (i.zero, i.size, i.bytes)) = some (some (.agg #[.string ⟨#[]⟩, .int .u8 0, .slice none 0 0]), 3, 48) := by kernel_rfl
set_option maxRecDepth 100000 in
set_option maxHeartbeats 1000000 in
theorem reader_part.calls (k : Nat) (w : World) (g : Nat) (s : ByteArray) (a : Int) (v : Value) (L : List S41) (ok : Bool) (x : S41) (a' : Int) (hr : PartsAt w g s a v L) (h0 : 0 ≤ a) (h1 : a < s.size) (hs : s.size ≤ 1099511627776) (hL : L.length ≤ 1099511627776) (hG : Gl w)
    (hg1 : g ≠ 1) (hg2 : g ≠ 4) (h : reader_part.f k s a = some (ok, x, a')) :
    Calls Tryz.prog 23 #[.pointer (some ⟨g, 0, none⟩)] w fun e w' => partEnd g s L ok x a' e w' ∧ Below g w w' := by
  unfold reader_part.f at h
  obtain ⟨r, hr'⟩ : ∃ r, r = s.extract a.toNat s.size := ⟨_, rfl⟩
  have hrsz : r.size = s.size - a.toNat := by rw [hr', ByteArray.size_extract]; omega
  rw [← hr'] at h
  have HR := Lib.hid hr'
  have HS := Lib.hid hrsz
  have hrp : 0 < r.size := by omega
  have HP := Lib.hid hr
  have HG := Lib.hid hG
  have hglt := hr.rd.lt
  have hix : ∀ h : 0 < r.size, ((r[0]'h).toNat : Int) = bt r 0 := fun h => bt_at r 0 h
  obtain ⟨c, hc⟩ : ∃ c, c = bt r 0 := ⟨_, rfl⟩
  rw [← hc] at h hix
  clear hr' hrsz hr hG hc
  by_cases hc : c = 123
  · have q1 : (c == 123) = true := beq_iff_eq.2 hc
    rw [if_pos hc] at h
    obtain ⟨⟨op, ok2, l, a2⟩, hex, h⟩ := Option.map_eq_some_iff.1 h
    simp only [Prod.mk.injEq] at h
    obtain ⟨rfl, rfl, rfl⟩ := h
    have HE := Lib.hid hex
    clear hc hex
    cases ok2 with
    | true =>
      go_enter Tryz.func23, Tryz.ntmps23
      go_wp2_with fail
      refine (text_rest.calls _ g s a v HP.out.rd h0 (by omega) hs).mono ?_
      rintro e w1 ⟨rfl, hb1⟩
      rw [← HR.out]
      have hrd1 := HP.out.rd.keep hb1.below
      have r1 := hrd1.cell1
      have r2 := hrd1.cell2
      have z1 := hrd1.free 1
      have HRd1 := Lib.hid hrd1
      have HB1 := Lib.hid hb1.below
      clear hb1 hrd1
      go_wp2_with fail
      obtain ⟨Wb, hWb⟩ : ∃ W, W = w1.setCell ⟨g, 1, none⟩ (.int .i64 (a + 1)) := ⟨_, rfl⟩
      have hpb : PartsAt Wb g s (a + 1) v L := by
        rw [hWb]
        exact ⟨HRd1.out.setAt _, Kd.S_mono (PartsAt.row_step (g := g) HP.out.row (fun k hk hl => by rw [Below.heap_setCell _ _ _ k (by show k ≠ g; omega)]; exact HB1.out.block k hl)) (fun _ _ => trivial)⟩
      have hbb : Below g w Wb := by
        rw [hWb]
        exact (HB1.out.mono (Nat.le_of_lt hglt)).setCell (p := ⟨g, 1, none⟩) (Nat.le_refl _) _
      have hgb : Gl Wb := by
        rw [hWb]
        exact ((But.of HB1.out).set 1 _ : But g w _).gl HG.out hg1 hg2
      rw [← hWb]
      have b2 := hpb.rd.cell2
      have HPb := Lib.hid hpb
      have HBb := Lib.hid hbb
      have HGb := Lib.hid hgb
      have hgltb := hpb.rd.lt
      clear hWb hpb hbb hgb r1 r2 z1
      go_region_law (first
        | (refine goes_ Tryz.func38 (by kernel_rfl) rfl #[.pointer (some ⟨g, 0, none⟩)] (by rfl) rfl rfl (by (try simp only [List.map_toArray, List.map_cons, List.map_nil]); first | done | rfl) ?_; refine (reader_expression.calls _ g s (a + 1) v op true l a2 HPb.out.rd.drew (by omega) (by omega) hs (HGb.out.keep (below_drew (Below.refl _ _))) hg1 hg2 HE.out).mono ?_; rintro e w2 ⟨⟨v2, rfl, hrow2⟩, hrd2, hbt2⟩; obtain ⟨A2, cc2, rfl⟩ := Kd.R_slice hrow2; refine ⟨_, rfl, ?_⟩; have hlt2 := hrd2.lt; have d2 := hrd2.cell2; have e2 := hrd2.free 2; have HRow2 := Lib.hid hrow2; have HRd2 := Lib.hid hrd2; have HBt2 := Lib.hid hbt2; clear hrow2 hrd2 hbt2)
        | (refine Kd.S_append_step k41 (w0 := w2) (g + 1) (by rfl) (.tmp 22) (.tmp 25) 23 41 (.agg #[.string ⟨#[]⟩, .int .u8 0, .slice none 0 0]) 48 rfl Tryz.underlying23 info_part rfl (by decide) (by omega) v L (⟨⟨#[]⟩, op, l⟩ : S41) [.string ⟨#[]⟩, .int .u8 op, .slice A2 l.length cc2] (fun _ => True) (fun k => some k = (Value.slice A2 l.length cc2).ownBlock) rfl rfl ?aP ?aK (fun _ _ => trivial) ?aO (Below.refl _ _) ?aB (by omega) ?_
           case aP => exact k41_mkM _ _ _ (⟨⟨#[]⟩, op, l⟩ : S41) (Kd.R_lower (Kd.R_tight rfl HRow2.out) (by show g + 1 ≤ Wb.heap.size; omega))
           case aK => exact fun k hk => ⟨trivial, fun e => by have h1 := Kd.R_base HRow2.out k hk.symm; have h2 := (HPb.out.own k e.symm).2; exact absurd h2 (Nat.not_lt.2 h1)⟩
           case aO => exact Kd.S_mono (PartsAt.row_step (g := g) HPb.out.row (fun k hk hl => HBt2.out.block k hl (by omega))) (fun k hk => ⟨trivial, fun e => absurd hk (Nat.not_lt.2 (Kd.R_base HRow2.out k e.symm))⟩)
           case aB => exact Nat.le_trans (by show g + 1 ≤ Wb.heap.size; omega) HBt2.out.size
           intro v1 w3 hS3 _ hgr3 _
           have d3 := (HRd2.out.grown hgr3 (fun e => by have := (HPb.out.own g e.symm).1; omega)).cell2
           have e3 := (HRd2.out.grown hgr3 (fun e => by have := (HPb.out.own g e.symm).1; omega)).free 2
           obtain ⟨A3, cc3, rfl⟩ := Kd.S_slice hS3
           have hdn := partDone HPb.out HBb.out HRd2.out ⟨HBt2.out.os, HBt2.out.tape, HBt2.out.output, HBt2.out.size, HBt2.out.block⟩ hgr3 hS3
           rw [List.length_append, List.length_singleton] at hdn
           have HDn := Lib.hid hdn
           clear hS3 hgr3 hdn))
      all_goals
        go_wp2
        refine bodyPost_ret (results_none rfl _ _ _) rfl ?_
        exact ⟨⟨rfl, _, HDn.out.1⟩, HDn.out.2⟩
    | false =>
      go_enter Tryz.func23, Tryz.ntmps23
      go_wp2_with fail
      refine (text_rest.calls _ g s a v HP.out.rd h0 (by omega) hs).mono ?_
      rintro e w1 ⟨rfl, hb1⟩
      rw [← HR.out]
      have hrd1 := HP.out.rd.keep hb1.below
      have r1 := hrd1.cell1
      have r2 := hrd1.cell2
      have z1 := hrd1.free 1
      have HRd1 := Lib.hid hrd1
      have HB1 := Lib.hid hb1.below
      clear hb1 hrd1
      go_wp2_with fail
      obtain ⟨Wb, hWb⟩ : ∃ W, W = w1.setCell ⟨g, 1, none⟩ (.int .i64 (a + 1)) := ⟨_, rfl⟩
      have hpb : PartsAt Wb g s (a + 1) v L := by
        rw [hWb]
        exact ⟨HRd1.out.setAt _, Kd.S_mono (PartsAt.row_step (g := g) HP.out.row (fun k hk hl => by rw [Below.heap_setCell _ _ _ k (by show k ≠ g; omega)]; exact HB1.out.block k hl)) (fun _ _ => trivial)⟩
      have hbb : Below g w Wb := by
        rw [hWb]
        exact (HB1.out.mono (Nat.le_of_lt hglt)).setCell (p := ⟨g, 1, none⟩) (Nat.le_refl _) _
      have hgb : Gl Wb := by
        rw [hWb]
        exact ((But.of HB1.out).set 1 _ : But g w _).gl HG.out hg1 hg2
      rw [← hWb]
      have b2 := hpb.rd.cell2
      have HPb := Lib.hid hpb
      have HBb := Lib.hid hbb
      have HGb := Lib.hid hgb
      have hgltb := hpb.rd.lt
      clear hWb hpb hbb hgb r1 r2 z1
      go_region_dies
      all_goals
        refine (reader_expression.calls _ g s (a + 1) v op false l a2 HPb.out.rd.drew (by omega) (by omega) hs (HGb.out.keep (below_drew (Below.refl _ _))) hg1 hg2 HE.out).mono ?_
        rintro e w2 ⟨he, hrd2, hbt2⟩
        have he1 : e = wrongAt a2 := he
        subst he1
        exact ⟨rfl, rfl, (⟨hbt2.os, hbt2.tape, hbt2.output, hbt2.size, hbt2.block⟩ : But g Wb w2).below HBb.out (Nat.le_refl _) (Nat.le_of_lt hgltb)⟩
  · have q1 : (c == 123) = false := beq_eq_false_iff_ne.2 hc
    rw [if_neg hc] at h
    obtain ⟨n, hn, h⟩ := Option.bind_eq_some_iff.1 h
    have HN := Lib.hid hn
    by_cases hn0 : n = 0
    · have q2 : (n == 0) = true := beq_iff_eq.2 hn0
      rw [if_pos hn0] at h
      obtain ⟨q, hq, h⟩ := Option.map_eq_some_iff.1 h
      simp only [Prod.mk.injEq] at h
      obtain ⟨rfl, rfl, rfl⟩ := h
      have HQ := Lib.hid hq
      clear hc hn hn0 hq
      go_enter Tryz.func23, Tryz.ntmps23
      go_wp2_with fail
      refine (text_rest.calls _ g s a v HP.out.rd h0 (by omega) hs).mono ?_
      rintro e w1 ⟨rfl, hb1⟩
      rw [← HR.out]
      have hrd1 := HP.out.rd.keep hb1.below
      have HRd1 := Lib.hid hrd1
      have HB1 := Lib.hid hb1.below
      clear hb1 hrd1
      go_wp2_with fail
      refine (text_rest.calls _ g s a v HRd1.out h0 (by omega) hs).mono ?_
      rintro e w2 ⟨rfl, hb2⟩
      rw [← HR.out]
      have hrd2 := HRd1.out.keep hb2.below
      have HRd2 := Lib.hid hrd2
      have HB2 := Lib.hid (below_then HB1.out HB1.out.size hb2.below)
      clear hb2 hrd2
      go_wp2_with fail
      refine (tmpl_pieces.calls k r n _ HN.out).mono ?_
      rintro e w3 ⟨rfl, hb3⟩
      have hp3 : PartsAt w3 g s a v L := ⟨HRd2.out.keep hb3, Kd.S_below HP.out.row (below_then HB2.out HB2.out.size hb3)⟩
      have HP3 := Lib.hid hp3
      have HB3 := Lib.hid (below_then HB2.out HB2.out.size hb3)
      clear hb3 hp3
      go_wp2_with fail
      refine (reader_stop.calls k _ g s a v q HP3.out.rd h0 h1 hs HQ.out).mono ?_
      rintro e w4 ⟨rfl, hb4⟩
      have HB4 := Lib.hid (below_then HB3.out HB3.out.size hb4)
      clear hb4
      go_wp2
      exact ⟨rfl, rfl, HB4.out.mono (Nat.le_of_lt hglt)⟩
    · have q2 : (n == 0) = false := beq_eq_false_iff_ne.2 hn0
      rw [if_neg hn0] at h
      by_cases hn1 : 0 ≤ n ∧ n ≤ r.size
      · rw [if_pos hn1] at h
        simp only [Option.some.injEq, Prod.mk.injEq] at h
        obtain ⟨rfl, rfl, rfl⟩ := h
        obtain ⟨hn1, hn2⟩ := hn1
        have hsl : ∀ W : World, (Instr.slice 9 (.string r) none (some (.int .i64 n)) none).run Tryz.prog W = .ok (.string (r.extract 0 n.toNat)) W := fun W => run_slice_string_h W 9 r Tryz.underlying9 .i64 n (by omega) (by omega)
        have hsum : a + n ≤ s.size := by have := HS.out; omega
        clear hc hn hn0
        obtain ⟨lit, hlit⟩ : ∃ x, x = r.extract 0 n.toNat := ⟨_, rfl⟩
        rw [← hlit] at hsl ⊢
        clear hlit
        go_enter Tryz.func23, Tryz.ntmps23
        go_wp2_with fail
        refine (text_rest.calls _ g s a v HP.out.rd h0 (by omega) hs).mono ?_
        rintro e w1 ⟨rfl, hb1⟩
        rw [← HR.out]
        have hrd1 := HP.out.rd.keep hb1.below
        have HRd1 := Lib.hid hrd1
        have HB1 := Lib.hid hb1.below
        clear hb1 hrd1
        go_wp2_with fail
        refine (text_rest.calls _ g s a v HRd1.out h0 (by omega) hs).mono ?_
        rintro e w2 ⟨rfl, hb2⟩
        rw [← HR.out]
        have hrd2 := HRd1.out.keep hb2.below
        have HRd2 := Lib.hid hrd2
        have HB2 := Lib.hid (below_then HB1.out HB1.out.size hb2.below)
        clear hb2 hrd2
        go_wp2_with fail
        refine (tmpl_pieces.calls k r n _ HN.out).mono ?_
        rintro e w3 ⟨rfl, hb3⟩
        have hp3 : PartsAt w3 g s a v L := ⟨HRd2.out.keep hb3, Kd.S_below HP.out.row (below_then HB2.out HB2.out.size hb3)⟩
        have HP3 := Lib.hid hp3
        have HB3 := Lib.hid (below_then HB2.out HB2.out.size hb3)
        clear hb3 hp3
        have b2 := HP3.out.rd.cell2
        have hglt3 := HP3.out.rd.lt
        have hsz3 := HB3.out.size
        go_wp2_with fail
        go_region_law (first
          | (refine goes_ Tryz.func22 (by kernel_rfl) rfl #[.pointer (some ⟨g, 0, none⟩)] (by rfl) rfl rfl (by simp [Act.eval, Act.put]) ?_; refine (text_rest.calls _ g s a v HP3.out.rd.drew h0 (by omega) hs).mono ?_; rintro e w4 ⟨rfl, hb4⟩; rw [← HR.out]; refine ⟨_, rfl, ?_⟩; have hb4 := hb4.below; have hrd4 := HP3.out.rd.drew.keep hb4; have hlt4 := hrd4.lt; have d2 := hrd4.cell2; have HRd4 := Lib.hid hrd4; have HB4 := Lib.hid hb4; clear hrd4 hb4)
          | (refine Kd.S_append_step k41 (w0 := w4) (g + 1) (by rfl) (.tmp 43) (.tmp 51) 23 41 (.agg #[.string ⟨#[]⟩, .int .u8 0, .slice none 0 0]) 48 rfl Tryz.underlying23 info_part rfl (by decide) (by omega) v L (⟨lit, 0, []⟩ : S41) [.string lit, .int .u8 0, .slice none 0 0] (fun _ => True) (fun _ => False) (by simp [Act.eval, Act.put]) (by simp [Act.eval, Act.put]) ?aP ?aK (fun _ _ => trivial) ?aO (Below.refl _ _) ?aB (by omega) ?_
             case aP => exact k41_mkM _ _ _ (⟨lit, 0, []⟩ : S41) (Kd.R_nil _ _ _ _ _)
             case aK => exact fun k hk => hk.elim
             case aO => exact Kd.S_mono (PartsAt.row_step (g := g) HP3.out.row (fun k hk hl => HB4.out.block k hl)) (fun k hk => ⟨trivial, fun e => e.elim⟩)
             case aB => exact Nat.le_trans (by show g + 1 ≤ w3.heap.size; omega) HB4.out.size
             intro v1 w5 hS5 _ hgr5 _
             have hrd5 := HRd4.out.grown hgr5 (fun e => by have := (HP3.out.own g e.symm).1; omega)
             have d3 := hrd5.cell2
             have e3 := hrd5.free 2
             have e4 := hrd5.cell1
             have e5 := hrd5.free 1
             obtain ⟨A3, cc3, rfl⟩ := Kd.S_slice hS5
             have hdn := partDone HP3.out (HB3.out.mono (Nat.le_of_lt hglt)) HRd4.out (⟨HB4.out.os, HB4.out.tape, HB4.out.output, HB4.out.size, fun k hk _ => HB4.out.block k hk⟩ : But g w3 w4) hgr5 hS5
             rw [List.length_append, List.length_singleton] at hdn
             have HDn := Lib.hid hdn
             clear hS5 hgr5 hdn hrd5))
        all_goals
          go_wp2
          go_end0
          exact ⟨⟨rfl, _, HDn.out.1.setAt _⟩, HDn.out.2.setCell (p := ⟨g, 1, none⟩) (Nat.le_refl _) _⟩
      · rw [if_neg hn1] at h
        cases h
def parseFrom (k : Nat) (s : ByteArray) : Nat → Int → List S41 → Option (List S41 × Int × Int)
 | 0, _, _ => none
 | d + 1, a, L => if a < s.size then (reader_part.f k s a).bind fun t => if t.1 = true then (if a < t.2.2 ∧ t.2.2 ≤ s.size then parseFrom k s d t.2.2 (L ++ [t.2.1]) else none) else some ([], t.2.2, 2)
  else some (L, s.size, 0)
def tmpl_Parse.f (k : Nat) (s : ByteArray) : Option (List S41 × Int × Int) := if s.size ≤ 1099511627776 then parseFrom k s (s.size + 1) 0 [] else none
theorem assert_wrong (n : Int) (w : World) : (Instr.typeAssert (.iface 49 (.int .i64 n)) 20 49 true).run Tryz.prog w = .ok (.tuple #[.int .i64 n, .bool true]) w := by kernel_rfl
theorem assert_nil (w : World) : (Instr.typeAssert .nilIface 20 49 true).run Tryz.prog w = .ok (.tuple #[.int .i64 0, .bool false]) w := by kernel_rfl
set_option maxRecDepth 100000 in
theorem parse_catch (p2 p3 p4 : Addr) (x2 x3 x4 : Value) (n : Int) (w : World) (h2 : w.cell? p2 = some x2) (h3 : w.cell? p3 = some x3) (h4 : w.cell? p4 = some x4) (f2 : w.frozen? p2 = false) (f3 : w.frozen? p3 = false) (f4 : w.frozen? p4 = false)
 (n23 : p2 ≠ p3) (n24 : p2 ≠ p4) (n34 : p3 ≠ p4) :
 CallsD Tryz.prog 21 #[.pointer (some p2), .pointer (some p3), .pointer (some p4)] (.panicking ({ v := .iface 49 (.int .i64 n), recovered := false } :: [])) w fun e u' w' =>
  e = .returned (.tuple #[]) ∧ u' = .panicking ({ v := .iface 49 (.int .i64 n), recovered := true } :: []) ∧ w' = ((w.setCell p2 (.slice none 0 0)).setCell p3 (.int .i64 n)).setCell p4 (.int .i64 2) := by
 have hta := assert_wrong n
 refine callsD_of_wpS Tryz.func21 rfl fun c₀ cs hu => ?_
 rw [Tryz.ntmps21, show (#[.pointer (some p2), .pointer (some p3), .pointer (some p4)] : Array Value) ++ Array.replicate (12 - #[Value.pointer (some p2), Value.pointer (some p3), Value.pointer (some p4)].size) undef = #[.pointer (some p2), .pointer (some p3), .pointer (some p4), undef, undef, undef, undef, undef, undef, undef, undef, undef] from rfl]
 apply wpS_seq
 apply wpS_region
 simp [wpOpsS, go_sem, recoverD, hu, hta, Exit.thenS]
 apply wpS_seq
 apply wpS_region
 simp [wpOpsS, go_sem, Exit.thenS]
 refine wpS_cond (t := true) (by simp [Act.eval]) ?_
 simp only [if_true]
 apply wpS_region
 have g3 : (w.setCell p2 (.slice none 0 0)).cell? p3 = some x3 := (World.cell?_setCell_other _ _ _ _ n23).trans h3
 have g4 : ((w.setCell p2 (.slice none 0 0)).setCell p3 (.int .i64 n)).cell? p4 = some x4 := (World.cell?_setCell_other _ _ _ _ n34).trans ((World.cell?_setCell_other _ _ _ _ n24).trans h4)
 simp [wpOpsS, go_sem, h2, g3, g4, f2, f3, f4, bodyPostS, results, Tryz.results21]
set_option maxRecDepth 100000 in
theorem parse_idle (p2 p3 p4 : Addr) (w : World) :
 CallsD Tryz.prog 21 #[.pointer (some p2), .pointer (some p3), .pointer (some p4)] .returning w fun e u' w' => e = .returned (.tuple #[]) ∧ u' = .returning ∧ w' = w := by
 have hta := assert_nil
 refine callsD_of_wpS Tryz.func21 rfl fun c₀ cs hu => ?_
 rw [Tryz.ntmps21, show (#[.pointer (some p2), .pointer (some p3), .pointer (some p4)] : Array Value) ++ Array.replicate (12 - #[Value.pointer (some p2), Value.pointer (some p3), Value.pointer (some p4)].size) undef = #[.pointer (some p2), .pointer (some p3), .pointer (some p4), undef, undef, undef, undef, undef, undef, undef, undef, undef] from rfl]
 apply wpS_seq
 apply wpS_region
 simp [wpOpsS, go_sem, recoverD, hu, hta, Exit.thenS]
 apply wpS_seq
 apply wpS_region
 simp [wpOpsS, go_sem, Exit.thenS]
 refine wpS_cond (t := false) (by simp [Act.eval]) ?_
 simp only [Bool.false_eq_true, if_false]
 refine wpS_of_wp (wp_skip ?_)
 cases c₀
 simp_all [bodyPostS, results, Tryz.results21]
def parseW (w : World) (s : ByteArray) : World :=
 (((w.alloc (.cells #[.slice none 0 0] 23)).alloc (.cells #[.int .i64 0] 3)).alloc (.cells #[.int .i64 0] 24)).alloc (.cells #[.string s, .int .i64 0, .slice none 0 0] 48)
theorem parse_start (w : World) (s : ByteArray) : PartsAt (parseW w s) (w.heap.size + 3) s 0 (.slice none 0 0) [] :=
 ⟨by unfold Rd parseW; rw [show w.heap.size + 3 = (((w.alloc (.cells #[.slice none 0 0] 23)).alloc (.cells #[.int .i64 0] 3)).alloc (.cells #[.int .i64 0] 24)).heap.size by simp]; exact heap_alloc_new _ _, Kd.S_nil _ _ _ _ _⟩
theorem parse_below {w W : World} {s : ByteArray} (h : Below (w.heap.size + 3) (parseW w s) W) : Below w.heap.size w W :=
 (((((Below.refl _ _).alloc (Nat.le_refl _) _).alloc (by simp) _).alloc (by simp; omega) _).alloc (by simp; omega) _).trans (h.mono (by omega))
theorem parse_cells {w W : World} {s : ByteArray} (h : Below (w.heap.size + 3) (parseW w s) W) :
 W.heap[w.heap.size]? = some (.cells #[.slice none 0 0] 23 (0, 0)) ∧ W.heap[w.heap.size + 1]? = some (.cells #[.int .i64 0] 3 (0, 0)) ∧ W.heap[w.heap.size + 1 + 1]? = some (.cells #[.int .i64 0] 24 (0, 0)) := by
 refine ⟨(h.block _ (by omega)).trans ?_, (h.block _ (by omega)).trans ?_, (h.block _ (by omega)).trans ?_⟩
 · unfold parseW
   rw [heap_alloc_old _ _ (by simp <;> omega), heap_alloc_old _ _ (by simp <;> omega), heap_alloc_old _ _ (by simp)]
   exact heap_alloc_new _ _
 · unfold parseW
   rw [heap_alloc_old _ _ (by simp <;> omega), heap_alloc_old _ _ (by simp)]
   have := heap_alloc_new (w.alloc (.cells #[.slice none 0 0] 23)) (.cells #[.int .i64 0] 3)
   simpa using this
 · unfold parseW
   rw [heap_alloc_old _ _ (by simp)]
   have := heap_alloc_new ((w.alloc (.cells #[.slice none 0 0] 23)).alloc (.cells #[.int .i64 0] 3)) (.cells #[.int .i64 0] 24)
   simpa using this
theorem parse_stored {w W : World} {s : ByteArray} (h : Below (w.heap.size + 3) (parseW w s) W) (x : Value) (n e : Int) :
 (((W.setCell ⟨w.heap.size, 0, none⟩ x).setCell ⟨w.heap.size + 1, 0, none⟩ (.int .i64 n)).setCell ⟨w.heap.size + 1 + 1, 0, none⟩ (.int .i64 e)).cell? ⟨w.heap.size, 0, none⟩ = some x ∧
 (((W.setCell ⟨w.heap.size, 0, none⟩ x).setCell ⟨w.heap.size + 1, 0, none⟩ (.int .i64 n)).setCell ⟨w.heap.size + 1 + 1, 0, none⟩ (.int .i64 e)).cell? ⟨w.heap.size + 1, 0, none⟩ = some (.int .i64 n) ∧
 (((W.setCell ⟨w.heap.size, 0, none⟩ x).setCell ⟨w.heap.size + 1, 0, none⟩ (.int .i64 n)).setCell ⟨w.heap.size + 1 + 1, 0, none⟩ (.int .i64 e)).cell? ⟨w.heap.size + 1 + 1, 0, none⟩ = some (.int .i64 e) ∧
 Below w.heap.size w (((W.setCell ⟨w.heap.size, 0, none⟩ x).setCell ⟨w.heap.size + 1, 0, none⟩ (.int .i64 n)).setCell ⟨w.heap.size + 1 + 1, 0, none⟩ (.int .i64 e)) := by
 obtain ⟨h0, h1, h2⟩ := parse_cells h
 have e0 := one_setCell h0 (u := x)
 have e1 := one_setCell (w := W.setCell ⟨w.heap.size, 0, none⟩ x) ((Below.heap_setCell W ⟨w.heap.size, 0, none⟩ x (w.heap.size + 1) (by show w.heap.size + 1 ≠ w.heap.size; omega)).trans h1) (u := .int .i64 n)
 have e2 := one_setCell (w := (W.setCell ⟨w.heap.size, 0, none⟩ x).setCell ⟨w.heap.size + 1, 0, none⟩ (.int .i64 n)) ((Below.heap_setCell _ ⟨w.heap.size + 1, 0, none⟩ (.int .i64 n) (w.heap.size + 1 + 1) (by show w.heap.size + 1 + 1 ≠ w.heap.size + 1; omega)).trans ((Below.heap_setCell W ⟨w.heap.size, 0, none⟩ x (w.heap.size + 1 + 1) (by show w.heap.size + 1 + 1 ≠ w.heap.size; omega)).trans h2)) (u := .int .i64 e)
 refine ⟨cell_of_one ((Below.heap_setCell _ _ _ w.heap.size (by show w.heap.size ≠ w.heap.size + 1 + 1; omega)).trans ((Below.heap_setCell _ _ _ w.heap.size (by show w.heap.size ≠ w.heap.size + 1; omega)).trans e0)), cell_of_one ((Below.heap_setCell _ _ _ (w.heap.size + 1) (by show w.heap.size + 1 ≠ w.heap.size + 1 + 1; omega)).trans e1), cell_of_one e2, ?_⟩
 exact (((parse_below h).setCell (p := ⟨w.heap.size, 0, none⟩) (Nat.le_refl _) _).setCell (p := ⟨w.heap.size + 1, 0, none⟩) (by show w.heap.size ≤ w.heap.size + 1; omega) _).setCell (p := ⟨w.heap.size + 1 + 1, 0, none⟩) (by show w.heap.size ≤ w.heap.size + 1 + 1; omega) _
theorem Gl.apart {w : World} (h : Gl w) : 1 < w.heap.size ∧ 4 < w.heap.size := by
 have hh : ∀ k cs, heldAt w k = some cs → k < w.heap.size := fun k cs hc => by
  rcases Nat.lt_or_ge k w.heap.size with h' | h'
  · exact h'
  · simp [heldAt, Array.getElem?_eq_none h'] at hc
 obtain ⟨te, pe, he⟩ := h.err
 exact ⟨hh _ _ h.tab, hh _ _ he⟩
set_option maxRecDepth 100000 in
set_option maxHeartbeats 1000000 in
theorem tmpl_Parse.calls (k : Nat) (s : ByteArray) (r1 : List S41) (r2 r3 : Int) (w : World) (hG : Gl w) (h : tmpl_Parse.f k s = some (r1, r2, r3)) :
 Calls Tryz.prog 6 #[.string s] w fun e w' => ∃ v0_ : Value, e = .returned (.tuple #[v0_, .int .i64 r2, .int .i64 r3]) ∧ Kd.S k41 41 w' w.heap.size (fun _ => True) v0_ r1 ∧ Below w.heap.size w w' := by
 unfold tmpl_Parse.f at h
 split at h
 · rename_i hs
   have HF := Lib.hid h
   have HG := Lib.hid hG
   clear h hG
   have hmf : ∀ (fn : Fn) (first cap : Array Value) (w : World), (Instr.makeFunc fn first cap).run Tryz.prog w = .ok (.func fn first cap) w := fun _ _ _ _ => rfl
   go_enter_defers Tryz.func6, Tryz.ntmps6
   go_wp2
   go_loopw [] (fun wr => ∃ (d : Nat) (a : Int) (L : List S41) (v : Value), 0 ≤ a ∧ a ≤ s.size ∧ (L.length : Int) ≤ a ∧ (s.size : Int) < a + d ∧ Hid (PartsAt wr (w.heap.size + 3) s a v L) ∧ Hid (Below (w.heap.size + 3) (parseW w s) wr) ∧ Hid (parseFrom k s d a L = some (r1, r2, r3))) (fun wr => s.size + 1 - atOf wr (w.heap.size + 3))
   case atStart =>
    exact ⟨s.size + 1, 0, [], .slice none 0 0, by omega, by omega, by simp, by omega, Lib.hid (parse_start w s), Lib.hid (by simpa [parseW] using Below.refl (w.heap.size + 3) (parseW w s)), HF⟩
   case round =>
    obtain ⟨d, a, L, v, h0, h1, hl, hd, HP, HBr, HF1⟩ := hrel
    cases d with
    | zero => omega
    | succ d =>
    have hF := HF1.out
    rw [parseFrom] at hF
    have HBw := Lib.hid (parse_below HBr.out)
    have HGr := Lib.hid (HG.out.keep HBw.out)
    have HM := Lib.hid HP.out.rd.atOf_eq
    obtain ⟨hn1, hn2⟩ := HG.out.apart
    have hg1 : w.heap.size + 3 ≠ 1 := by omega
    have hg2 : w.heap.size + 3 ≠ 4 := by omega
    clear HF1
    by_cases hlt : a < s.size
    · rw [if_pos hlt] at hF
      obtain ⟨⟨ok, x, a'⟩, hpt, hF⟩ := Option.bind_eq_some_iff.1 hF
      have HPt := Lib.hid hpt
      have q1 : ((s.extract a.toNat s.size).toList == ([] : List UInt8)) = false := beq_eq_false_iff_ne.2 (fun e => by
       have := (toList_nil_iff _).1 e
       rw [ByteArray.size_extract] at this
       omega)
      simp only at hF
      clear hpt
      cases ok with
      | true =>
       rw [if_pos rfl] at hF
       by_cases hb : a < a' ∧ a' ≤ s.size
       · rw [if_pos hb] at hF
         obtain ⟨hb1, hb2⟩ := hb
         have HF2 := Lib.hid hF
         clear hF
         go_wp2_with fail
         refine (text_rest.calls _ (w.heap.size + 3) s a v HP.out.rd h0 h1 hs).mono ?_
         rintro e w2 ⟨rfl, hb2'⟩
         have HP2 := Lib.hid (show PartsAt w2 (w.heap.size + 3) s a v L from ⟨HP.out.rd.keep hb2'.below, Kd.S_below HP.out.row hb2'.below⟩)
         have HB2 := Lib.hid (below_then HBr.out (by have := HP.out.rd.lt; omega) hb2'.below)
         have HG2 := Lib.hid (HGr.out.keep hb2'.below)
         clear hb2'
         go_wp2_with fail
         refine (reader_part.calls k _ (w.heap.size + 3) s a v L true x a' HP2.out h0 hlt hs (by omega) HG2.out hg1 hg2 HPt.out).mono ?_
         rintro e w3 ⟨⟨rfl, v', hp3⟩, hb3⟩
         have HP3 := Lib.hid hp3
         have hm3 := hp3.rd.atOf_eq
         have HM3 := Lib.hid hm3
         have HB3 := Lib.hid (HB2.out.trans hb3)
         clear hp3 hb3 hm3
         go_wp2
         go_roundw
         case rel => exact ⟨d, a', L ++ [x], v', by omega, hb2, by rw [List.length_append, List.length_singleton]; omega, by omega, HP3, HB3, HF2⟩
         case measure =>
          rw [HM.out, HM3.out]
          omega
       · rw [if_neg hb] at hF
         cases hF
      | false =>
       rw [if_neg (by simp)] at hF
       have HF2 := Lib.hid (Option.some.inj hF)
       clear hF
       go_wp2_with fail
       refine (text_rest.calls _ (w.heap.size + 3) s a v HP.out.rd h0 h1 hs).mono ?_
       rintro e w2 ⟨rfl, hb2'⟩
       have HP2 := Lib.hid (show PartsAt w2 (w.heap.size + 3) s a v L from ⟨HP.out.rd.keep hb2'.below, Kd.S_below HP.out.row hb2'.below⟩)
       have HB2 := Lib.hid (below_then HBr.out (by have := HP.out.rd.lt; omega) hb2'.below)
       have HG2 := Lib.hid (HGr.out.keep hb2'.below)
       clear hb2'
       go_wp2_with fail
       refine (reader_part.calls k _ (w.heap.size + 3) s a v L false x a' HP2.out h0 hlt hs (by omega) HG2.out hg1 hg2 HPt.out).mono ?_
       rintro e w3 ⟨he, hb3⟩
       have he1 : e = wrongAt a' := he
       subst he1
       have HB3 := Lib.hid (HB2.out.trans hb3)
       clear hb3
       unfold wrongAt
       go_wp2
       refine leaves_cons (f := 21) (args := #[.pointer (some ⟨w.heap.size, 0, none⟩), .pointer (some ⟨w.heap.size + 1, 0, none⟩), .pointer (some ⟨w.heap.size + 1 + 1, 0, none⟩)]) (by simp) (by simp [go_sem]) ?_
       obtain ⟨b0, b1, b2⟩ := parse_cells HB3.out
       refine (parse_catch ⟨w.heap.size, 0, none⟩ ⟨w.heap.size + 1, 0, none⟩ ⟨w.heap.size + 1 + 1, 0, none⟩ _ _ _ a' _ (cell_of_one b0) (cell_of_one b1) (cell_of_one b2) (free_of_one b0) (free_of_one b1) (free_of_one b2) (by simp) (by simp <;> omega) (by simp)).mono ?_
       rintro e u' w4 ⟨rfl, rfl, rfl⟩
       obtain ⟨f0, f1, f2, hbl⟩ := parse_stored HB3.out (.slice none 0 0) a' 2
       have hR := HF2.out
       simp only [Prod.mk.injEq] at hR
       obtain ⟨rfl, rfl, rfl⟩ := hR
       exact ⟨_, by simp [results, Tryz.results6, go_sem, f0, f1, f2], .slice none 0 0, rfl, Kd.S_nil _ _ _ _ _, hbl⟩
    · rw [if_neg hlt] at hF
      have HF2 := Lib.hid (Option.some.inj hF)
      have q1 : ((s.extract a.toNat s.size).toList == ([] : List UInt8)) = true := beq_iff_eq.2 ((toList_nil_iff _).2 (by rw [ByteArray.size_extract]; omega))
      clear hF
      go_wp2_with fail
      refine (text_rest.calls _ (w.heap.size + 3) s a v HP.out.rd h0 h1 hs).mono ?_
      rintro e w2 ⟨rfl, hb2'⟩
      have hb2 := hb2'.below
      have hrd2 := HP.out.rd.keep hb2
      have HS2 := Lib.hid (Kd.S_below HP.out.row hb2)
      have HB2 := Lib.hid (below_then HBr.out (by have := HP.out.rd.lt; omega) hb2)
      obtain ⟨b0, b1, b2⟩ := parse_cells HB2.out
      have r2 := hrd2.cell2
      have d0 := cell_of_one b0
      have d1 := cell_of_one b1
      have d2 := cell_of_one b2
      have e0 := free_of_one b0
      have e1 := free_of_one b1
      have e2 := free_of_one b2
      obtain ⟨A3, cc3, rfl⟩ := Kd.S_slice HS2.out
      have hL := HF2.out
      clear hb2' hb2 hrd2 b0 b1 b2 hL
      go_wp2
      refine leaves_cons (f := 21) (args := #[.pointer (some ⟨w.heap.size, 0, none⟩), .pointer (some ⟨w.heap.size + 1, 0, none⟩), .pointer (some ⟨w.heap.size + 1 + 1, 0, none⟩)]) (by simp) (by simp [go_sem]) ?_
      refine (parse_idle ⟨w.heap.size, 0, none⟩ ⟨w.heap.size + 1, 0, none⟩ ⟨w.heap.size + 1 + 1, 0, none⟩ _).mono ?_
      rintro e u' w4 ⟨rfl, rfl, rfl⟩
      obtain ⟨f0, f1, f2, hbl⟩ := parse_stored HB2.out (.slice A3 L.length cc3) s.size 0
      have hSf := Kd.S_lower (Kd.S_mono (ok' := fun _ => True) (PartsAt.row_step (g := w.heap.size + 3) (W' := (((w2.setCell ⟨w.heap.size, 0, none⟩ (.slice A3 L.length cc3)).setCell ⟨w.heap.size + 1, 0, none⟩ (.int .i64 s.size)).setCell ⟨w.heap.size + 1 + 1, 0, none⟩ (.int .i64 0))) HS2.out (fun k hk _ => by
       rw [Below.heap_setCell _ _ _ k (by show k ≠ w.heap.size + 1 + 1; omega), Below.heap_setCell _ _ _ k (by show k ≠ w.heap.size + 1; omega), Below.heap_setCell _ _ _ k (by show k ≠ w.heap.size; omega)])) (fun _ _ => trivial)) (show w.heap.size ≤ w.heap.size + 3 + 1 by omega)
      have hR := HF2.out
      simp only [Prod.mk.injEq] at hR
      obtain ⟨rfl, rfl, rfl⟩ := hR
      exact ⟨_, by simp [results, Tryz.results6, go_sem, f0, f1, f2], .slice A3 L.length cc3, rfl, hSf, hbl⟩
 · cases h
theorem isTriplet_bs (s : ByteArray) : isTriplet s = trip (bs s) := by
 unfold isTriplet
 by_cases h : 3 ≤ s.size
 · obtain ⟨a, a1, a2, a3⟩ := bs_get s 0 (by omega)
   obtain ⟨b, b1, b2, b3⟩ := bs_get s 1 (by omega)
   obtain ⟨c, c1, c2, c3⟩ := bs_get s 2 (by omega)
   have e : bs s = a :: b :: c :: (bs s).drop 3 := by
    rw [← c3, ← b3, ← a3]
    rfl
   have a2' : bt s 0 = (a : Int) := a2
   have b2' : bt s 1 = (b : Int) := b2
   have c2' : bt s 2 = (c : Int) := c2
   rw [e, a2', b2', c2', decide_eq_true h, Bool.true_and]
   simp only [trip, Int.toNat_natCast]
   congr 1
   rw [Bool.eq_iff_iff, beq_iff_eq, beq_iff_eq]
   omega
 · rw [decide_eq_false h, Bool.false_and, trip_short (by rw [bs_length]; omega)]
theorem scan_n {q : Q} {b : Nat} (h : nstep q b = some .n) (a e : Nat) (r : List Nat) : scan q a e (b :: r) = scan .n (a + 1) (a + 1) r := scan_some h a e r
theorem scan_np1 {q : Q} {b : Nat} (h : nstep q b = some .np1) (a e : Nat) (r : List Nat) : scan q a e (b :: r) = scan .np1 (a + 1) e r := scan_some h a e r
theorem scan_np2 {q : Q} {b : Nat} (h : nstep q b = some .np2) (a e : Nat) (r : List Nat) : scan q a e (b :: r) = scan .np2 (a + 1) e r := scan_some h a e r
theorem scan_point {q : Q} {b : Nat} (h : nstep q b = some .nd) (a e : Nat) (r : List Nat) : scan q a e (b :: r) = scan .nd (a + 1) e r := scan_some h a e r
theorem scan_nd (a e : Nat) (l : List Nat) : scan .nd a e l = scan .ns a e l := by
 cases l with
 | nil => rfl
 | cons b r => rfl
theorem prog_ends_from (s : ByteArray) : ∀ (k a e : Nat), a ≤ s.size → s.size - a < k → e ≤ a → endsFrom s k (a : Int) (e : Int) = (((scan (if 0 < a ∧ a = e then .n else .ns) a e ((bs s).drop a)).1 : Int), ((scan (if 0 < a ∧ a = e then .n else .ns) a e ((bs s).drop a)).2 : Int))
 | 0, a, e, _, h, _ => by omega
 | k + 1, a, e, ha, h, he => by
  rw [endsFrom]
  by_cases hlt : a < s.size
  · obtain ⟨b, hb, hbt, hd⟩ := bs_get s a hlt
    rw [if_pos (by omega), hbt, hd, Int.toNat_natCast, Int.toNat_natCast]
    have hq : (if 0 < a ∧ a = e then Q.n else Q.ns) = .n ∨ (if 0 < a ∧ a = e then Q.n else Q.ns) = .ns := by split <;> simp
    by_cases hw : isWord b = true
    · rw [if_pos hw]
      have hn : nstep (if 0 < a ∧ a = e then Q.n else Q.ns) b = some .n := by split <;> simp [nstep, nsStep, hw]
      have ih := prog_ends_from s k (a + 1) (a + 1) (by omega) (by omega) (Nat.le_refl _)
      rw [scan_n hn]
      rw [if_pos ⟨by omega, rfl⟩] at ih
      exact ih
    rw [if_neg hw]
    by_cases h46 : b = 46 ∧ 0 < a ∧ a = e
    · rw [if_pos ⟨by omega, by omega, by omega⟩, if_pos h46.2]
      have hn : nstep .n b = some .nd := by
       rw [h46.1] at hw ⊢
       simp [nstep, hw]
      have ih := prog_ends_from s k (a + 1) e (by omega) (by omega) (by omega)
      rw [if_neg (by omega)] at ih
      rw [scan_point hn, scan_nd]
      exact ih
    rw [if_neg (by omega)]
    have htr : isTriplet (s.extract a s.size) = trip (b :: (bs s).drop (a + 1)) := by rw [isTriplet_bs, bs_from, hd]
    rw [htr]
    by_cases ht : trip (b :: (bs s).drop (a + 1)) = true
    · rw [if_pos ht]
      have hsz : a + 3 ≤ s.size := by
       refine Classical.byContradiction fun g => ?_
       rw [trip_short (by rw [List.length_cons, List.length_drop, bs_length]; omega)] at ht
       cases ht
      obtain ⟨c, hc, -, hdc⟩ := bs_get s (a + 1) (by omega)
      obtain ⟨d, hdd, -, hdd2⟩ := bs_get s (a + 1 + 1) (by omega)
      rw [hdc, hdd2] at ht ⊢
      simp only [trip, Bool.and_eq_true, beq_iff_eq] at ht
      obtain ⟨rfl, hc2, hd2⟩ := ht
      have s1 : nstep (if 0 < a ∧ a = e then Q.n else Q.ns) 37 = some .np1 := by split <;> simp [nstep, nsStep, hw]
      have s2 : nstep .np1 c = some .np2 := by simp only [nstep]; rw [if_pos hc2]
      have s3 : nstep .np2 d = some .n := by simp only [nstep]; rw [if_pos hd2]
      have ih := prog_ends_from s k (a + 3) (a + 3) (by omega) (by omega) (Nat.le_refl _)
      rw [if_pos ⟨by omega, rfl⟩] at ih
      rw [scan_np1 s1, scan_np2 s2, scan_n s3]
      exact ih
    rw [if_neg ht]
    by_cases h37 : b = 37
    · rw [if_pos (by omega)]
      subst h37
      have s1 : nstep (if 0 < a ∧ a = e then Q.n else Q.ns) 37 = some .np1 := by split <;> simp [nstep, nsStep, hw]
      rw [scan_np1 s1]
      by_cases h1 : a + 1 < s.size
      · obtain ⟨c, hc, hcbt, hdc⟩ := bs_get s (a + 1) h1
        have hcbt' : bt s ((a : Int) + 1) = (c : Int) := hcbt
        rw [hdc, hcbt', Int.toNat_natCast]
        by_cases hx : isHex c = true
        · have s2 : nstep .np1 c = some .np2 := by simp only [nstep]; rw [if_pos hx]
          rw [if_pos ⟨by omega, hx⟩, scan_np2 s2]
          have e2 : scan .np2 (a + 1 + 1) e ((bs s).drop (a + 1 + 1)) = (a + 2, e) := by
           by_cases h2 : a + 1 + 1 < s.size
           · obtain ⟨d, hd1, -, hdd⟩ := bs_get s (a + 1 + 1) h2
             rw [hdd, scan_none]
             simp only [nstep]
             rw [if_neg]
             intro g
             rw [hdc, hdd] at ht
             exact ht (by simp [trip, hx, g])
           · rw [List.drop_eq_nil_of_le (by rw [bs_length]; omega)]
             rfl
          rw [e2]
          rfl
        · rw [if_neg fun g => hx g.2, scan_none (by simp only [nstep]; rw [if_neg hx])]
          rfl
      · rw [if_neg fun g => h1 (by omega), List.drop_eq_nil_of_le (by rw [bs_length]; omega)]
        rfl
    · rw [if_neg (by omega), scan_none]
      by_cases g : 0 < a ∧ a = e
      · rw [if_pos g]
        have : b ≠ 46 := fun k => h46 ⟨k, g⟩
        simp [nstep, hw, h37, this]
      · rw [if_neg g]
        simp [nstep, nsStep, hw, h37]
  · rw [if_neg (by omega), List.drop_eq_nil_of_le (by rw [bs_length]; omega)]
    rfl
theorem prog_ends_f (s : ByteArray) (hs : s.size ≤ 1099511627776) : vname_ends.f s = some (((scan .ns 0 0 (bs s)).1 : Int), ((scan .ns 0 0 (bs s)).2 : Int)) := by
 unfold vname_ends.f
 have := prog_ends_from s (s.size + 1) 0 0 (by omega) (by omega) (by omega)
 rw [if_neg (by omega), List.drop_zero] at this
 rw [if_pos hs]
 exact congrArg some this
theorem bs_void : bs ⟨#[]⟩ = [] := rfl
theorem prog_oper {b : Nat} (h : b < 256) : tmpl_Operator.f (b : Int) = some (b == 0 || isOp b) := by
  have : ∀ b : Fin 256, tmpl_Operator.f ((b.1 : Nat) : Int) = some (b.1 == 0 || isOp b.1) := by decide +kernel
  exact this ⟨b, h⟩
theorem dec_figs : ∀ (d n : Nat), 0 < d → n < 10 ^ d → (Lib.decDigits n).map (·.toNat) = figsN d n
 | 0, _, h, _ => by omega
 | d + 1, n, _, h => by
  rw [Lib.decDigits]
  simp only [figsN]
  split
  · simp only [List.map_cons, List.map_nil, UInt8.toNat_ofNat']
    rw [Nat.mod_eq_of_lt (by omega)]
  · rename_i hn
    have hd : 0 < d := by
     refine Nat.pos_of_ne_zero fun e => ?_
     subst e
     simp at h
     omega
    rw [List.map_append, dec_figs d (n / 10) hd (by rw [Nat.pow_succ] at h; omega)]
    simp only [List.map_cons, List.map_nil, UInt8.toNat_ofNat']
    rw [Nat.mod_eq_of_lt (by omega)]
theorem prog_name (s : ByteArray) (hs : s.size ≤ 1099511627776) : ∃ b, vname_May.f s = some b ∧ (b = true ↔ run nstep .ns (bs s) = some .n) := by
 unfold vname_May.f
 by_cases h0 : s.toList = []
 · rw [if_pos h0]
   refine ⟨false, rfl, ?_⟩
   rw [toList_nil.1 h0]
   simp [run]
 · rw [if_neg h0]
   unfold vname_End.f
   rw [prog_ends_f s hs]
   refine ⟨_, rfl, ?_⟩
   have hn : (bs s).length ≠ 0 := fun e => h0 (toList_nil.2 (List.eq_nil_of_length_eq_zero e))
   have hsz := bs_length s
   show (((nameEnd (bs s) : Nat) : Int) == (s.size : Int)) = true ↔ _
   rw [beq_iff_eq, ← hsz]
   constructor
   · intro h
     have h : nameEnd (bs s) = (bs s).length := by omega
     have := nameEnd_is (bs s) (by omega)
     rw [h, List.take_length] at this
     exact this
   · intro h
     have := nameEnd_put (t := []) h (.inl rfl)
     rw [List.append_nil] at this
     rw [this]
theorem prog_may6 {v : S43} (hs : v.f0.size ≤ 1099511627776) : ∃ b, spec_May.f v.f0 v.f1 v.f2 = some b ∧ (b = true ↔ GoodV (vM v)) := by
 obtain ⟨b, hb, hiff⟩ := prog_name v.f0 hs
 unfold spec_May.f
 rw [hb, Option.bind_some]
 show ∃ b', _ ∧ (b' = true ↔ run nstep .ns (bs v.f0) = some .n ∧ 0 ≤ v.f1 ∧ v.f1 ≤ 9999 ∧ (v.f2 = true → v.f1 = 0))
 rw [← hiff]
 by_cases h1 : b = true
 · rw [if_pos h1]
   by_cases h2 : v.f1 ≥ 0
   · rw [if_pos h2]
     by_cases h3 : v.f1 ≤ 9999
     · rw [if_pos h3]
       by_cases h4 : v.f2 = true
       · rw [if_pos h4]
         refine ⟨_, rfl, ?_⟩
         rw [h4]
         simp only [Bool.not_eq_true', decide_eq_false_iff_not]
         constructor
         · intro g
           exact ⟨h1, h2, h3, fun _ => by omega⟩
         · rintro ⟨-, -, -, g⟩
           have := g trivial
           omega
       · rw [if_neg h4]
         exact ⟨_, rfl, fun _ => ⟨h1, h2, h3, fun g => absurd g h4⟩, fun _ => rfl⟩
     · rw [if_neg h3]
       exact ⟨_, rfl, fun g => (by cases g), fun g => absurd g.2.2.1 h3⟩
   · rw [if_neg h2]
     exact ⟨_, rfl, fun g => (by cases g), fun g => absurd g.2.1 h2⟩
 · rw [if_neg h1]
   exact ⟨_, rfl, fun g => (by cases g), fun g => absurd g.1 h1⟩
theorem goodV_iff {v : S43} (hs : v.f0.size ≤ 1099511627776) : goodV v = true ↔ GoodV (vM v) := by
 obtain ⟨b, hb, hiff⟩ := prog_may6 hs
 rw [← hiff]
 unfold goodV
 rw [hb]
theorem prog_put6 {v : S43} (hs : v.f0.size ≤ 1099511627776) (hg : GoodV (vM v)) : ∃ t, spec_Put.f v.f0 v.f1 v.f2 = some t ∧ bs t = putV (vM v) ∧ t.size ≤ v.f0.size + 5 := by
 obtain ⟨b, hb, hiff⟩ := prog_may6 hs
 have hbt := hiff.2 hg
 obtain ⟨-, g0, g1, g2⟩ := hg
 have g0 : 0 ≤ v.f1 := g0
 have g1 : v.f1 ≤ 9999 := g1
 have hP : putV (vM v) = bs v.f0 ++ putBehind v.f1 v.f2 := rfl
 unfold spec_Put.f
 rw [hb, hbt, Option.bind_some, if_pos rfl, hP]
 unfold putBehind
 by_cases h4 : v.f2 = true
 · rw [if_pos h4, if_pos h4, if_pos (by omega)]
   refine ⟨_, rfl, bs_append _ _, ?_⟩
   rw [ByteArray.size_append]
   show v.f0.size + 1 ≤ _
   omega
 · rw [if_neg h4, if_neg h4]
   by_cases h5 : v.f1 > 0
   · rw [if_pos h5, if_pos (by omega), if_pos (show 0 < v.f1 from h5)]
     have hn := figs_num (m := v.f1.toNat) (by omega) (by omega)
     have hit : strconv_Itoa.f v.f1 = some ⟨(Lib.decDigits v.f1.toNat).toArray⟩ := by
      unfold strconv_Itoa.f Lib.itoa
      rw [if_pos (by omega), if_neg (by omega)]
     have hbd : bs ⟨(Lib.decDigits v.f1.toNat).toArray⟩ = figsN 4 v.f1.toNat := by
      rw [bs_mk]
      exact dec_figs 4 _ (by omega) (by omega)
     have hsz : (⟨(Lib.decDigits v.f1.toNat).toArray⟩ : ByteArray).size ≤ 4 := by
      rw [← bs_length, hbd]
      exact hn.1.2.1
     have hs1 : (v.f0 ++ (⟨#[58]⟩ : ByteArray)).size = v.f0.size + 1 := by
      rw [ByteArray.size_append]
      rfl
     rw [hit, Option.bind_some, hs1, if_pos (by omega)]
     refine ⟨_, rfl, ?_, ?_⟩
     · rw [bs_append, bs_append, hbd, List.append_assoc]
       rfl
     · rw [ByteArray.size_append, hs1]
       omega
   · rw [if_neg h5, if_neg (show ¬ 0 < v.f1 from h5)]
     exact ⟨_, rfl, (List.append_nil _).symm, by omega⟩
def putTail : List MVar → List Nat
 | [] => []
 | v :: r => 44 :: (putV v ++ putTail r)
theorem putVs_tail : ∀ (r : List MVar) (v : MVar), putVs (v :: r) = putV v ++ (putTail r ++ [125])
 | [], v => by
  simp only [putVs, putTail]
  rw [if_pos trivial]
  rfl
 | w :: r, v => by
  have ih := putVs_tail r w
  simp only [putVs] at ih
  simp only [putVs, putTail]
  rw [if_neg (by simp), ih]
  simp
theorem specs_tail (op : Int) : ∀ (sp : List S43) (j : Nat), 0 < j → (∀ v ∈ sp, v.f0.size ≤ 1099511627776 ∧ GoodV (vM v)) → ∃ u, specsText op j sp = some u ∧ u.map (·.toNat) = putTail (sp.map vM)
 | [], j, _, _ => ⟨[], rfl, rfl⟩
 | v :: r, j, hj, h => by
  obtain ⟨h1, h2⟩ := h v (List.mem_cons_self ..)
  obtain ⟨t, ht, hbt, -⟩ := prog_put6 h1 h2
  obtain ⟨u, hu, hbu⟩ := specs_tail op r (j + 1) (by omega) fun x hx => h x (List.mem_cons_of_mem _ hx)
  simp only [specsText]
  rw [ht, Option.bind_some, hu]
  refine ⟨_, rfl, ?_⟩
  have hb : t.data.toList.map (·.toNat) = putV (vM v) := hbt
  rw [aheadOf, if_pos hj, List.map_append, List.map_append, hb, hbu]
  rfl
theorem op_byte {op : Int} (h : GoodOp op) : 0 ≤ op ∧ op ≤ 255 ∧ (op ≠ 0 → op.toNat.toUInt8.toNat = op.toNat) := by
 rcases h with rfl | ⟨b, hb, rfl⟩
 · exact ⟨by omega, by omega, fun e => absurd rfl e⟩
 · have : b < 256 := by
    simp only [isOp, Bool.or_eq_true, beq_iff_eq] at hb
    omega
   refine ⟨by omega, by omega, fun _ => ?_⟩
   rw [Int.toNat_natCast]
   show b % 256 = b
   omega
theorem part_text {x : S41} (hg : GoodP (pM x)) (hs : ∀ v ∈ x.f2, v.f0.size ≤ 1099511627776) : ∃ u, partText x = some u ∧ u.map (·.toNat) = putP (pM x) := by
 obtain ⟨lit, op, sp⟩ := x
 obtain ⟨g1, g2⟩ := hg
 cases sp with
 | nil =>
  refine ⟨lit.data.toList ++ ([] ++ []), rfl, ?_⟩
  show _ = bs lit ++ _
  rw [List.map_append]
  rfl
 | cons v r =>
  obtain ⟨o1, o2, o3⟩ := g2 (by simp [pM])
  have o3 : ∀ y ∈ (v :: r), GoodV (vM y) := fun y hy => o3 (vM y) (List.mem_map_of_mem hy)
  obtain ⟨t, ht, hbt, -⟩ := prog_put6 (hs v (List.mem_cons_self ..)) (o3 v (List.mem_cons_self ..))
  obtain ⟨u, hu, hbu⟩ := specs_tail op r 1 (by omega) fun y hy => ⟨hs y (List.mem_cons_of_mem _ hy), o3 y (List.mem_cons_of_mem _ hy)⟩
  have hst : specsText op 0 (v :: r) = some (aheadOf op 0 ++ (t.data.toList ++ u)) := by
   simp only [specsText]
   rw [ht, Option.bind_some, hu]
   rfl
  unfold partText
  simp only [hst]
  refine ⟨_, rfl, ?_⟩
  rw [if_pos (by simp)]
  have hb : t.data.toList.map (·.toNat) = putV (vM v) := hbt
  have ha : (aheadOf op 0).map (·.toNat) = 123 :: opL op := by
   obtain ⟨p0, p1, p2⟩ := op_byte o2
   unfold aheadOf opL
   rw [if_neg (by omega)]
   have p2 : op ≠ 0 → op.toNat.toUInt8.toNat = op.toNat := p2
   by_cases ho : op = 0
   · rw [if_neg (by simpa using ho), if_pos ho]
     rfl
   · rw [if_pos ho, if_neg ho]
     show [123, op.toNat.toUInt8.toNat] = _
     rw [p2 ho]
  have hl : lit.data.toList.map (·.toNat) = bs lit := rfl
  simp only [List.map_append, hb, hbu, ha, hl]
  show _ = bs lit ++ (if (vM v :: r.map vM) = [] then [] else 123 :: (opL op ++ putVs (vM v :: r.map vM)))
  rw [if_neg (by simp), putVs_tail]
  simp
theorem parts_text : ∀ (l : List S41), MayT (l.map pM) → (∀ x ∈ l, ∀ v ∈ x.f2, v.f0.size ≤ 1099511627776) → ∃ u, partsText l = some u ∧ u.map (·.toNat) = putT (l.map pM)
 | [], _, _ => ⟨[], rfl, rfl⟩
 | x :: r, h, hs => by
  obtain ⟨h1, -, h3⟩ := h
  obtain ⟨a, ha, hba⟩ := part_text h1 (hs x (List.mem_cons_self ..))
  obtain ⟨u, hu, hbu⟩ := parts_text r h3 fun y hy => hs y (List.mem_cons_of_mem _ hy)
  simp only [partsText]
  rw [ha, Option.bind_some, hu]
  refine ⟨_, rfl, ?_⟩
  rw [List.map_append, hba, hbu]
  rfl
def OKP (x : S41) : Prop := x.f0.size ≤ 1099511627776 ∧ 0 ≤ x.f1 ∧ x.f1 ≤ 255 ∧ x.f2.length ≤ 1099511627776 ∧ ∀ v ∈ x.f2, v.f0.size ≤ 1099511627776
theorem all_good {l : List S43} (hs : ∀ v ∈ l, v.f0.size ≤ 1099511627776) : l.all goodV = true ↔ ∀ v ∈ l.map vM, GoodV v := by
 rw [List.all_eq_true]
 constructor
 · intro h v hv
   obtain ⟨x, hx, rfl⟩ := List.mem_map.1 hv
   exact (goodV_iff (hs x hx)).1 (h x hx)
 · intro h x hx
   exact (goodV_iff (hs x hx)).2 (h (vM x) (List.mem_map_of_mem hx))
theorem prog_oper2 {n : Int} (h0 : 0 ≤ n) (h1 : n ≤ 255) : ∃ b, tmpl_Operator.f n = some b ∧ (b = true ↔ GoodOp n) := by
 obtain ⟨m, rfl⟩ : ∃ m : Nat, n = (m : Int) := ⟨n.toNat, by omega⟩
 refine ⟨_, prog_oper (by omega), ?_⟩
 rw [Bool.or_eq_true, beq_iff_eq]
 constructor
 · rintro (h | h)
   · exact .inl (by omega)
   · exact .inr ⟨m, h, rfl⟩
 · rintro (h | ⟨b, h, e⟩)
   · exact .inl (by omega)
   · exact .inr (by rw [show m = b by omega]; exact h)
theorem fine_iff {x : S41} (h : OKP x) : fineB x.f0 x.f1 x.f2 = true ↔ GoodP (pM x) := by
 obtain ⟨lit, op, sp⟩ := x
 obtain ⟨h1, h2, h3, h4, h5⟩ := h
 simp only at h1 h2 h3 h4 h5
 have hgp : GoodP (pM ⟨lit, op, sp⟩) ↔ (sp.map vM = [] → op = 0 ∧ bs lit ≠ [] ∧ piecesN ((bs lit).length + 1) (bs lit) = (bs lit).length) ∧ (sp.map vM ≠ [] → bs lit = [] ∧ GoodOp op ∧ ∀ v ∈ sp.map vM, GoodV v) := Iff.rfl
 rw [hgp]
 unfold fineB
 have hsz := bs_length lit
 by_cases hl : sp.length = 0
 · obtain rfl := List.eq_nil_of_length_eq_zero hl
   rw [if_pos hl]
   simp only [Bool.and_eq_true, beq_iff_eq, bne_iff_ne, ne_eq, List.map_nil, forall_const, not_true_eq_false, false_implies, and_true, toList_nil, hsz]
   constructor
   · rintro ⟨a, b, c⟩
     exact ⟨a, b, by omega⟩
   · rintro ⟨a, b, c⟩
     exact ⟨a, b, by omega⟩
 · rw [if_neg hl]
   have hne : sp.map vM ≠ [] := by
    intro e
    exact hl (by simpa using congrArg List.length e)
   obtain ⟨b, hb, hbi⟩ := prog_oper2 h2 h3
   rw [hb]
   simp only [Bool.and_eq_true, beq_iff_eq, all_good h5, hbi, toList_nil]
   constructor
   · rintro ⟨a, b, c⟩
     exact ⟨fun e => absurd e hne, fun _ => ⟨a, b, c⟩⟩
   · rintro ⟨-, g⟩
     obtain ⟨a, b, c⟩ := g hne
     exact ⟨a, b, c⟩
theorem prog_fine {x : S41} (h : OKP x) : tmpl_fine.f x.f0 x.f1 x.f2 = some (fineB x.f0 x.f1 x.f2) := by
 obtain ⟨h1, h2, h3, h4, h5⟩ := h
 unfold tmpl_fine.f
 rw [if_pos ⟨h1, h2, h3, h4, List.all_eq_true.2 fun v hv => decide_eq_true (h5 v hv)⟩]
theorem rd_part (l : List S41) (i : Nat) (h : i < l.length) : rd_T41 l (i : Int) = l[i] := by
 unfold rd_T41
 rw [Int.toNat_natCast, List.getD_eq_getElem?_getD, List.getElem?_eq_getElem h]
 rfl
theorem may_loop (l : List S41) (hb : ∀ x ∈ l, OKP x) (hl : l.length ≤ 1099511627776) : ∀ (d k i : Nat), i + d = l.length → d < k →
 ∃ b, tmpl_May.l0 k l l (l.length : Int) (i : Int) = some b ∧ (b = true ↔ (∀ y z, 0 < i → l[i - 1]? = some y → l[i]? = some z → y.f2 = [] → z.f2 ≠ []) ∧ MayT ((l.drop i).map pM))
 | d, 0, _, _, h => by omega
 | 0, k + 1, i, h, _ => by
  simp only [tmpl_May.l0]
  rw [if_neg (by omega)]
  refine ⟨true, rfl, fun _ => ⟨fun y z _ _ hz => ?_, ?_⟩, fun _ => rfl⟩
  · rw [List.getElem?_eq_none (by omega)] at hz
    cases hz
  · rw [List.drop_eq_nil_of_le (by omega)]
    trivial
 | d + 1, k + 1, i, h, hk => by
  have hi : i < l.length := by omega
  have hd : l.drop i = l[i] :: l.drop (i + 1) := List.drop_eq_getElem_cons hi
  have hok := hb l[i] (List.getElem_mem hi)
  have hw : wrap64 ((i : Int) + 1) = ((i + 1 : Nat) : Int) := by
   rw [w64 (by omega) (by omega)]
   omega
  obtain ⟨b, hbr, hbi⟩ := may_loop l hb hl d k (i + 1) (by omega) (by omega)
  simp only [tmpl_May.l0]
  rw [if_pos (by omega), if_pos (by omega), if_pos (by omega), rd_part l i hi, prog_fine hok, Option.bind_some]
  have hget : l[i]? = some l[i] := List.getElem?_eq_getElem hi
  have hMay : MayT ((l.drop i).map pM) ↔ GoodP (pM l[i]) ∧ (l[i].f2 = [] → ∀ z, l[i + 1]? = some z → z.f2 ≠ []) ∧ MayT ((l.drop (i + 1)).map pM) := by
   rw [hd]
   show GoodP (pM l[i]) ∧ ((l[i].f2.map vM) = [] → ∀ y, ((l.drop (i + 1)).map pM).head? = some y → y.specs ≠ []) ∧ _ ↔ _
   rw [List.map_eq_nil_iff]
   have hh : ((l.drop (i + 1)).map pM).head? = (l[i + 1]?).map pM := by
    rw [List.head?_map, List.head?_drop]
   rw [hh]
   constructor
   · rintro ⟨a, b, c⟩
     refine ⟨a, fun e z hz hz2 => b e (pM z) (by rw [hz]; rfl) ?_, c⟩
     show z.f2.map vM = []
     rw [hz2]
     rfl
   · rintro ⟨a, b, c⟩
     refine ⟨a, fun e y hy => ?_, c⟩
     obtain ⟨z, hz, rfl⟩ := Option.map_eq_some_iff.1 hy
     intro e2
     exact b e z hz (List.map_eq_nil_iff.1 e2)
  have hrec : (b = true ↔ (l[i].f2 = [] → ∀ z, l[i + 1]? = some z → z.f2 ≠ []) ∧ MayT ((l.drop (i + 1)).map pM)) := by
   rw [hbi]
   constructor
   · rintro ⟨a, c⟩
     exact ⟨fun e z hz => a l[i] z (by omega) hget hz e, c⟩
   · rintro ⟨a, c⟩
     refine ⟨fun y z _ hy hz he => ?_, c⟩
     have hy : l[i]? = some y := hy
     rw [hget] at hy
     cases hy
     exact a he z hz
  have hf := fine_iff hok
  by_cases hfi : fineB l[i].f0 l[i].f1 l[i].f2 = true
  · rw [if_pos hfi, hw]
    have hg := hf.1 hfi
    have hrest : (∀ y z, 0 < i → l[i - 1]? = some y → l[i]? = some z → y.f2 = [] → z.f2 ≠ []) → (b = true ↔ (∀ y z, 0 < i → l[i - 1]? = some y → l[i]? = some z → y.f2 = [] → z.f2 ≠ []) ∧ MayT ((l.drop i).map pM)) := fun hp => by
     rw [hrec, hMay]
     exact ⟨fun ⟨a, c⟩ => ⟨hp, hg, a, c⟩, fun ⟨_, _, a, c⟩ => ⟨a, c⟩⟩
    by_cases h0 : (i : Int) > 0
    · have hw2 : wrap64 ((i : Int) - 1) = ((i - 1 : Nat) : Int) := by
       rw [w64 (by omega) (by omega)]
       omega
      have hi1 : i - 1 < l.length := by omega
      have hget1 : l[i - 1]? = some l[i - 1] := List.getElem?_eq_getElem hi1
      rw [if_pos h0]
      by_cases h1 : (l[i].f2.length : Int) = 0
      · rw [if_pos h1, hw2, if_pos (by omega), if_pos (by omega), rd_part l (i - 1) hi1]
        have e1 : l[i].f2 = [] := List.eq_nil_of_length_eq_zero (by omega)
        by_cases h2 : (l[i - 1].f2.length : Int) = 0
        · rw [if_pos h2]
          have e2 : l[i - 1].f2 = [] := List.eq_nil_of_length_eq_zero (by omega)
          exact ⟨false, rfl, fun e => (by cases e), fun ⟨g, _⟩ => absurd e1 (g _ _ (by omega) hget1 hget e2)⟩
        · rw [if_neg h2, hbr]
          refine ⟨b, rfl, hrest fun y z _ hy hz he => ?_⟩
          rw [hget1] at hy
          cases hy
          rw [he] at h2
          exact absurd rfl h2
      · rw [if_neg h1, hbr]
        refine ⟨b, rfl, hrest fun y z _ hy hz he e => ?_⟩
        rw [hget] at hz
        cases hz
        rw [e] at h1
        exact h1 rfl
    · rw [if_neg h0, hbr]
      exact ⟨b, rfl, hrest fun y z hp => absurd hp (by omega)⟩
  · rw [if_neg hfi]
    refine ⟨false, rfl, fun e => (by cases e), fun ⟨_, g⟩ => ?_⟩
    exact absurd (hf.2 (hMay.1 g).1) hfi
theorem prog_may (l : List S41) (hb : ∀ x ∈ l, OKP x) (hl : l.length ≤ 1099511627776) : ∃ b, (∀ k, l.length < k → tmpl_May.f k l = some b) ∧ (b = true ↔ MayT (l.map pM)) := by
 obtain ⟨b, h1, h2⟩ := may_loop l hb hl l.length (l.length + 1) 0 (by omega) (by omega)
 refine ⟨b, fun k hk => ?_, ?_⟩
 · obtain ⟨b', h1', h2'⟩ := may_loop l hb hl l.length k 0 (by omega) hk
   have : b = b' := by
    rw [Bool.eq_iff_iff, h2, h2']
   rw [this]
   exact h1'
 · rw [h2, List.drop_zero]
   exact ⟨fun h => h.2, fun h => ⟨fun _ _ e => absurd e (by omega), h⟩⟩
theorem prog_put (l : List S41) (hb : ∀ x ∈ l, OKP x) (hl : l.length ≤ 1099511627776) (hu : (putT (l.map pM)).length ≤ 1099511627776) (hm : MayT (l.map pM)) : ∃ t, tmpl_Put.f l = some t ∧ bs t = putT (l.map pM) := by
 obtain ⟨b, h1, h2⟩ := prog_may l hb hl
 have hbt := h2.2 hm
 subst hbt
 obtain ⟨u, hu1, hu2⟩ := parts_text l hm fun x hx => (hb x hx).2.2.2.2
 unfold tmpl_Put.f mayB
 rw [h1 _ (by omega), Option.bind_some, if_pos rfl, hu1, Option.bind_some]
 have hlen : u.length ≤ 1099511627776 := by
  have := congrArg List.length hu2
  rw [List.length_map] at this
  omega
 rw [if_pos ⟨hlen, hl, List.all_eq_true.2 fun x hx => decide_eq_true ⟨(hb x hx).2.1, (hb x hx).2.2.1, (hb x hx).2.2.2.1⟩⟩]
 refine ⟨_, rfl, ?_⟩
 rw [bs_mk]
 exact hu2
end Go.Proofs.YtkipkbggnfllkaaGreatDoor.P
end
section
namespace Go.Proofs.YtkipkbggnfllkaaGreatDoor.P
open Go.RowKit Go.Proofs.YtkipkbggnfllkaaGreatDoorW.PrintWords Go.Proofs.YtkipkbggnfllkaaGreatDoorW.PrintLast Go.Proofs.YtkipkbggnfllkaaGreatDoorW.PrintMore
set_option linter.unusedVariables false
theorem bk43_at (l : List S43) (i : Nat) (h : i < l.length) : ∃ y, rd_T43 l (i : Int) = y ∧ l.drop i = y :: l.drop (i + 1) := by
 refine ⟨l[i], ?_, List.drop_eq_getElem_cons h⟩
 unfold rd_T43
 rw [Int.toNat_natCast, List.getD_eq_getElem?_getD, List.getElem?_eq_getElem h]
 rfl
theorem bk41_at (l : List S41) (i : Nat) (h : i < l.length) : ∃ y, rd_T41 l (i : Int) = y ∧ l.drop i = y :: l.drop (i + 1) := by
 refine ⟨l[i], ?_, List.drop_eq_getElem_cons h⟩
 unfold rd_T41
 rw [Int.toNat_natCast, List.getD_eq_getElem?_getD, List.getElem?_eq_getElem h]
 rfl
def FewP (x : S41) : Prop := x.f0.size ≤ 200 ∧ x.f2.length ≤ 20 ∧ ∀ v ∈ x.f2, v.f0.size ≤ 200
theorem few_l1 (l : List S41) (i : Nat) (hi : i < l.length) (h31 : i < 31) (y : S41) (hy : rd_T41 l (i : Int) = y) (hsp : y.f2.length ≤ 20) (b : Bool) (h : Ev (fun k => rf07_Few.l0 k l ((i + 1 : Nat) : Int)) b) :
 ∀ (d j : Nat), j + d = y.f2.length → ∃ b', Ev (fun k => rf07_Few.l1 k l (i : Int) (j : Int)) b' ∧ (b' = true → b = true ∧ ∀ v ∈ y.f2.drop j, v.f0.size ≤ 200)
 | 0, j, hj => by
  have ew : wrap64 ((i : Int) + 1) = ((i + 1 : Nat) : Int) := by rw [w64 (by omega) (by omega)]; omega
  have c1 : (0 ≤ (i : Int)) = True := eq_true (by omega)
  have c2 : ((i : Int) < (l.length : Int)) = True := eq_true (by omega)
  have c3 : ((j : Int) < (y.f2.length : Int)) = False := eq_false (by omega)
  refine ⟨b, Ev.step (f := _) (fun k => ?_) h, fun e => ⟨e, ?_⟩⟩
  · simp only [rf07_Few.l1, c1, c2, hy, c3, if_true, if_false, ew]
  · rw [List.drop_eq_nil_of_le (by omega)]
    intro v hv
    cases hv
 | d + 1, j, hj => by
  have ew : wrap64 ((j : Int) + 1) = ((j + 1 : Nat) : Int) := by rw [w64 (by omega) (by omega)]; omega
  have c1 : (0 ≤ (i : Int)) = True := eq_true (by omega)
  have c2 : ((i : Int) < (l.length : Int)) = True := eq_true (by omega)
  have c3 : ((j : Int) < (y.f2.length : Int)) = True := eq_true (by omega)
  have c4 : (0 ≤ (j : Int)) = True := eq_true (by omega)
  obtain ⟨v, hv1, hv2⟩ := bk43_at y.f2 j (by omega)
  by_cases hs : v.f0.size > 200
  · have c5 : ((v.f0.size : Int) > 200) = True := eq_true (by omega)
    refine ⟨false, Ev.step (f := fun _ => some false) (fun k => ?_) (Ev.now _), fun e => by cases e⟩
    simp only [rf07_Few.l1, c1, c2, hy, c3, c4, hv1, c5, if_true]
  · have c5 : ((v.f0.size : Int) > 200) = False := eq_false (by omega)
    obtain ⟨b', h1, h2⟩ := few_l1 l i hi h31 y hy hsp b h d (j + 1) (by omega)
    refine ⟨b', Ev.step (f := _) (fun k => ?_) h1, fun e => ⟨(h2 e).1, ?_⟩⟩
    · simp only [rf07_Few.l1, c1, c2, hy, c3, c4, hv1, c5, if_true, if_false, ew]
    · rw [hv2]
      intro x hx
      rcases List.mem_cons.1 hx with rfl | hx
      · omega
      · exact (h2 e).2 x hx
theorem few_l0 (l : List S41) : ∀ (d i : Nat), i + d = l.length → i ≤ 31 → ∃ b, Ev (fun k => rf07_Few.l0 k l (i : Int)) b ∧ (b = true → l.length ≤ 30 ∧ ∀ x ∈ l.drop i, FewP x)
 | 0, i, hi, _ => by
  refine ⟨decide ((l.length : Int) ≤ 30), Ev.step (f := fun k => rf07_Few.j1 k l (i : Int) false) (fun k => ?_) (Ev.step (f := fun _ => some (decide ((l.length : Int) ≤ 30))) (fun k => ?_) (Ev.now _)), fun e => ⟨by have := of_decide_eq_true e; omega, ?_⟩⟩
  · simp only [rf07_Few.l0]
    rw [if_neg (by omega)]
  · simp only [rf07_Few.j1]
    rw [if_neg (by simp)]
  · rw [List.drop_eq_nil_of_le (by omega)]
    intro v hv
    cases hv
 | d + 1, i, hi, h31 => by
  have c1 : ((i : Int) < (l.length : Int)) = True := eq_true (by omega)
  have c2 : (0 ≤ (i : Int)) = True := eq_true (by omega)
  by_cases h : i < 31
  · obtain ⟨y, hy, hd⟩ := bk41_at l i (by omega)
    have c3 : decide ((i : Int) < 31) = true := decide_eq_true (by omega)
    have st : ∀ {b : Bool}, Ev (fun k => rf07_Few.j1 k l (i : Int) true) b → Ev (fun k => rf07_Few.l0 k l (i : Int)) b := fun h => Ev.step (f := _) (fun k => by simp only [rf07_Few.l0, c1, c3, if_true]) h
    by_cases hs : y.f0.size > 200
    · have c5 : ((y.f0.size : Int) > 200) = True := eq_true (by omega)
      refine ⟨false, st (Ev.step (f := fun k => rf07_Few.j2 k l (i : Int) true) (fun k => ?_) (Ev.step (f := fun _ => some false) (fun k => ?_) (Ev.now _))), fun e => by cases e⟩
      · simp only [rf07_Few.j1, c1, c2, hy, c5, if_true]
      · simp only [rf07_Few.j2, if_true]
    · have c5 : ((y.f0.size : Int) > 200) = False := eq_false (by omega)
      by_cases hq : y.f2.length > 20
      · have c6 : decide ((y.f2.length : Int) > 20) = true := decide_eq_true (by omega)
        refine ⟨false, st (Ev.step (f := fun k => rf07_Few.j2 k l (i : Int) true) (fun k => ?_) (Ev.step (f := fun _ => some false) (fun k => ?_) (Ev.now _))), fun e => by cases e⟩
        · simp only [rf07_Few.j1, c1, c2, hy, c5, c6, if_true, if_false]
        · simp only [rf07_Few.j2, if_true]
      · have c6 : decide ((y.f2.length : Int) > 20) = false := decide_eq_false (by omega)
        obtain ⟨b, h1, h2⟩ := few_l0 l d (i + 1) (by omega) (by omega)
        obtain ⟨b', h3, h4⟩ := few_l1 l i (by omega) h y hy (by omega) b h1 y.f2.length 0 (Nat.zero_add _)
        refine ⟨b', st (Ev.step (f := fun k => rf07_Few.j2 k l (i : Int) false) (fun k => ?_) (Ev.step (f := _) (fun k => ?_) h3)), fun e => ?_⟩
        · simp only [rf07_Few.j1, c1, c2, hy, c5, c6, if_true, if_false]
        · simp only [rf07_Few.j2, Bool.false_eq_true, if_false]
          rfl
        · obtain ⟨g1, g2⟩ := h4 e
          obtain ⟨g3, g4⟩ := h2 g1
          refine ⟨g3, ?_⟩
          rw [hd]
          intro x hx
          rcases List.mem_cons.1 hx with rfl | hx
          · rw [List.drop_zero] at g2
            exact ⟨by omega, by omega, g2⟩
          · exact g4 x hx
  · have c3 : decide ((i : Int) < 31) = false := decide_eq_false (by omega)
    refine ⟨false, Ev.step (f := fun k => rf07_Few.j1 k l (i : Int) false) (fun k => ?_) (Ev.step (f := fun _ => some false) (fun k => ?_) (Ev.now _)), fun e => by cases e⟩
    · simp only [rf07_Few.l0, c1, c3, if_true]
    · simp only [rf07_Few.j1]
      rw [if_neg (by simp), decide_eq_false (by omega)]
theorem ref_few (l : List S41) : ∃ b, Ev (fun k => rf07_Few.f k l) b ∧ (b = true → l.length ≤ 30 ∧ ∀ x ∈ l, FewP x) := by
 have := few_l0 l l.length 0 (Nat.zero_add _) (by omega)
 rw [List.drop_zero] at this
 exact this
theorem few_tail : ∀ (r : List S43), (∀ v ∈ r, v.f0.size ≤ 200 ∧ GoodV (vM v)) → (putTail (r.map vM)).length ≤ 206 * r.length
 | [], _ => Nat.le_refl _
 | v :: r, h => by
  obtain ⟨h1, h2⟩ := h v (List.mem_cons_self ..)
  obtain ⟨t, -, ht, hs⟩ := prog_put6 (by omega) h2
  have ih := few_tail r fun x hx => h x (List.mem_cons_of_mem _ hx)
  have hl : (putV (vM v)).length ≤ 205 := by
   rw [← ht, bs_length]
   omega
  show (44 :: (putV (vM v) ++ putTail (r.map vM))).length ≤ _
  rw [List.length_cons, List.length_append, List.length_cons]
  omega
theorem few_part {x : S41} (hf : FewP x) (hg : GoodP (pM x)) : (putP (pM x)).length ≤ 5000 := by
 obtain ⟨lit, op, sp⟩ := x
 obtain ⟨f1, f2, f3⟩ := hf
 simp only at f1 f2 f3
 have hb := bs_length lit
 cases sp with
 | nil =>
  show (bs lit ++ []).length ≤ _
  rw [List.append_nil]
  omega
 | cons v r =>
  obtain ⟨o1, o2, o3⟩ := hg.2 (by simp [pM])
  have o3 : ∀ y ∈ (v :: r), GoodV (vM y) := fun y hy => o3 (vM y) (List.mem_map_of_mem hy)
  have ht := few_tail (v :: r) fun y hy => ⟨f3 y hy, o3 y hy⟩
  have hop : (opL op).length ≤ 1 := by
   unfold opL
   split <;> simp
  show (bs lit ++ (if (vM v :: r.map vM) = [] then [] else 123 :: (opL op ++ putVs (vM v :: r.map vM)))).length ≤ _
  rw [if_neg (by simp), putVs_tail]
  have e : (putTail ((v :: r).map vM)).length = 1 + ((putV (vM v)).length + (putTail (r.map vM)).length) := by
   show (44 :: (putV (vM v) ++ putTail (r.map vM))).length = _
   rw [List.length_cons, List.length_append]
   omega
  simp only [List.length_append, List.length_cons, List.length_nil] at ht f2 ⊢
  omega
theorem few_length : ∀ (l : List S41), (∀ x ∈ l, FewP x) → MayT (l.map pM) → (putT (l.map pM)).length ≤ 5000 * l.length
 | [], _, _ => Nat.le_refl _
 | x :: r, hf, hm => by
  have h1 := few_part (hf x (List.mem_cons_self ..)) hm.1
  have ih := few_length r (fun y hy => hf y (List.mem_cons_of_mem _ hy)) hm.2.2
  show (putP (pM x) ++ putT (r.map pM)).length ≤ _
  rw [List.length_append, List.length_cons]
  omega
theorem few_ok {x : S41} (hf : FewP x) (h0 : 0 ≤ x.f1) (h1 : x.f1 ≤ 255) : OKP x := by
 obtain ⟨f1, f2, f3⟩ := hf
 exact ⟨by omega, h0, h1, by omega, fun v hv => by have := f3 v hv; omega⟩
end Go.Proofs.YtkipkbggnfllkaaGreatDoor.P
end
