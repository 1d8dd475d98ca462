/- What is proved here is used by the law's card: Shelf, Lib, RowLaid12, FtmplOperator, Oper, IsB, Encode, Way, Text, JoinS, Joined, Pair, Star, Whole, One, Texts, Spec, Reader, Stop, ProgUtf, ProgUtf2, Fine. -/
import Derived.Test.YtlocbpaikdgmbaaGreatDoorCu3
import Derived.Shelf.Strconv.AtoiAll
import Derived.Shelf.Strings.Builder1
import Derived.Shelf.Small.Strs
import Derived.Shelf.Strconv.Itoa3
import Derived.Shelf.Strings.Search1
import Derived.Test.YtlocbpaikdgmbaaGreatDoorProg
import Derived.Lib.AppendIntMem
import Derived.Test.YtlocbpaikdgmbaaGreatDoorCards
import Derived.Test.YtlocbpaikdgmbaaGreatDoorTie
import Derived.WalkKit
import Derived.ProofKit
import Derived.Handy
import Derived.Lay
import Derived.SevenTiedAt
import Derived.Lib.LaidTab
import Derived.Stop.LaidErr
import Derived.Lib.Hide
import Derived.Carry
import Derived.Deep.RegionHeld3
import Derived.BigQuiet
import Derived.Lib.QuietBelow
import Derived.Lib.Join
import Derived.Lib.MakeNoZero
import Derived.IntWalk
import Derived.WalkSmall
import Derived.Lib.DecodeN
section
namespace Go.Proofs
open Go.Shelf
def Tryz.laysAtoi_ren : Go.Shelf.Ren := ⟨fun | 172 => 176 | 244 => 180 | 245 => 181 | 247 => 182 | 279 => 183 | 280 => 184 | 281 => 185 | 282 => 186 | 287 => 187 | 316 => 188 | 171 => 190 | 205 => 189 | 321 => 191 | 322 => 192 | 243 => 193 | 246 => 194 | 283 => 195 | 284 => 196 | 285 => 197 | 286 => 198 | 129 => 200 | 317 => 199 | 318 => 201 | 319 => 202 | 320 => 203 | 337 => 204 | 338 => 205 | n => n, fun | 9 => 9 | 3 => 3 | 75 => 102 | 76 => 103 | 4 => 4 | 5 => 5 | 167 => 219 | 37 => 98 | 0 => 0 | 85 => 220 | 2 => 2 | 168 => 222 | 53 => 139 | 175 => 225 | 46 => 227 | 210 => 229 | 127 => 145 | 145 => 234 | 143 => 232 | 21 => 21 | 171 => 236 | 173 => 239 | 212 => 243 | 51 => 244 | 20 => 20 | 213 => 245 | 232 => 248 | 233 => 249 | 80 => 106 | n => n, fun | 15 => 1 | 16 => 2 | 17 => 3 | 18 => 4 | 19 => 5 | n => n⟩
theorem Tryz.laysAtoi : Go.Proofs.LaysC.n172 Tryz.prog Tryz.laysAtoi_ren := {
 mixed := by kernel_rfl
 f129 := Tryz.func200.trans (congrArg some (by kernel_rfl))
 f171 := Tryz.func190.trans (congrArg some (by kernel_rfl))
 f172 := Tryz.func176.trans (congrArg some (by kernel_rfl))
 f205 := Tryz.func189.trans (congrArg some (by kernel_rfl))
 f243 := Tryz.func193.trans (congrArg some (by kernel_rfl))
 f244 := Tryz.func180.trans (congrArg some (by kernel_rfl))
 f245 := Tryz.func181.trans (congrArg some (by kernel_rfl))
 f246 := Tryz.func194.trans (congrArg some (by kernel_rfl))
 f247 := Tryz.func182.trans (congrArg some (by kernel_rfl))
 f279 := Tryz.func183.trans (congrArg some (by kernel_rfl))
 f280 := Tryz.func184.trans (congrArg some (by kernel_rfl))
 f281 := Tryz.func185.trans (congrArg some (by kernel_rfl))
 f282 := Tryz.func186.trans (congrArg some (by kernel_rfl))
 f283 := Tryz.func195.trans (congrArg some (by kernel_rfl))
 f284 := Tryz.func196.trans (congrArg some (by kernel_rfl))
 f285 := Tryz.func197.trans (congrArg some (by kernel_rfl))
 f286 := Tryz.func198.trans (congrArg some (by kernel_rfl))
 f287 := Tryz.func187.trans (congrArg some (by kernel_rfl))
 f316 := Tryz.func188.trans (congrArg some (by kernel_rfl))
 f317 := Tryz.func199.trans (congrArg some (by kernel_rfl))
 f318 := Tryz.func201.trans (congrArg some (by kernel_rfl))
 f319 := Tryz.func202.trans (congrArg some (by kernel_rfl))
 f320 := Tryz.func203.trans (congrArg some (by kernel_rfl))
 f321 := Tryz.func191.trans (congrArg some (by kernel_rfl))
 f322 := Tryz.func192.trans (congrArg some (by kernel_rfl))
 f337 := Tryz.func204.trans (congrArg some (by kernel_rfl))
 f338 := Tryz.func205.trans (congrArg some (by kernel_rfl))
 t0 := Tryz.underlying0
 a0 := Tryz.isAgg0
 z0 := Tryz.sizeOf0
 v0 := Tryz.zeroValue0
 t2 := Tryz.underlying2
 a2 := Tryz.isAgg2
 z2 := Tryz.sizeOf2
 v2 := Tryz.zeroValue2
 t3 := Tryz.underlying3
 a3 := Tryz.isAgg3
 z3 := Tryz.sizeOf3
 v3 := Tryz.zeroValue3
 t4 := Tryz.underlying4
 a4 := Tryz.isAgg4
 z4 := Tryz.sizeOf4
 v4 := Tryz.zeroValue4
 t5 := Tryz.underlying5
 a5 := Tryz.isAgg5
 z5 := Tryz.sizeOf5
 v5 := Tryz.zeroValue5
 t9 := Tryz.underlying9
 a9 := Tryz.isAgg9
 z9 := Tryz.sizeOf9
 v9 := Tryz.zeroValue9
 t20 := Tryz.underlying20
 a20 := Tryz.isAgg20
 z20 := Tryz.sizeOf20
 v20 := Tryz.zeroValue20
 t21 := Tryz.underlying21
 a21 := Tryz.isAgg21
 z21 := Tryz.sizeOf21
 v21 := Tryz.zeroValue21
 t37 := Tryz.underlying98
 a37 := Tryz.isAgg98
 z37 := Tryz.sizeOf98
 v37 := Tryz.zeroValue98
 t46 := Tryz.underlying227
 a46 := Tryz.isAgg227
 z46 := Tryz.sizeOf227
 v46 := Tryz.zeroValue227
 t51 := Tryz.underlying244
 a51 := Tryz.isAgg244
 z51 := Tryz.sizeOf244
 v51 := Tryz.zeroValue244
 t53 := Tryz.underlying139
 a53 := Tryz.isAgg139
 z53 := Tryz.sizeOf139
 v53 := Tryz.zeroValue139
 t75 := Tryz.underlying102
 a75 := Tryz.isAgg102
 z75 := Tryz.sizeOf102
 v75 := Tryz.zeroValue102
 t76 := Tryz.underlying103
 a76 := Tryz.isAgg103
 z76 := Tryz.sizeOf103
 v76 := Tryz.zeroValue103
 t85 := Tryz.underlying220
 a85 := Tryz.isAgg220
 z85 := Tryz.sizeOf220
 v85 := Tryz.zeroValue220
 t127 := Tryz.underlying145
 a127 := Tryz.isAgg145
 z127 := Tryz.sizeOf145
 v127 := Tryz.zeroValue145
 t143 := Tryz.underlying232
 a143 := Tryz.isAgg232
 z143 := Tryz.sizeOf232
 v143 := Tryz.zeroValue232
 t145 := Tryz.underlying234
 a145 := Tryz.isAgg234
 z145 := Tryz.sizeOf234
 v145 := Tryz.zeroValue234
 t167 := Tryz.underlying219
 a167 := Tryz.isAgg219
 z167 := Tryz.sizeOf219
 v167 := Tryz.zeroValue219
 t168 := Tryz.underlying222
 a168 := Tryz.isAgg222
 z168 := Tryz.sizeOf222
 v168 := Tryz.zeroValue222
 t171 := Tryz.underlying236
 a171 := Tryz.isAgg236
 z171 := Tryz.sizeOf236
 v171 := Tryz.zeroValue236
 t173 := Tryz.underlying239
 a173 := Tryz.isAgg239
 z173 := Tryz.sizeOf239
 v173 := Tryz.zeroValue239
 t175 := Tryz.underlying225
 a175 := Tryz.isAgg225
 z175 := Tryz.sizeOf225
 v175 := Tryz.zeroValue225
 t210 := Tryz.underlying229
 a210 := Tryz.isAgg229
 z210 := Tryz.sizeOf229
 v210 := Tryz.zeroValue229
 t212 := Tryz.underlying243
 a212 := Tryz.isAgg243
 z212 := Tryz.sizeOf243
 v212 := Tryz.zeroValue243
 t213 := Tryz.underlying245
 a213 := Tryz.isAgg245
 z213 := Tryz.sizeOf245
 t232 := Tryz.underlying248
 a232 := Tryz.isAgg248
 z232 := Tryz.sizeOf248
 v232 := Tryz.zeroValue248
 t233 := Tryz.underlying249
 a233 := Tryz.isAgg249
 z233 := Tryz.sizeOf249
 v233 := Tryz.zeroValue249
 g15 := by kernel_rfl
 g16 := by kernel_rfl
 g17 := by kernel_rfl
 g18 := by kernel_rfl
 g19 := by kernel_rfl
 t80 := Tryz.underlying106
 a80 := Tryz.isAgg106
 z80 := Tryz.sizeOf106
 v80 := Tryz.zeroValue106
 i0 := by kernel_rfl
 i2 := by kernel_rfl
 i3 := by kernel_rfl
 i4 := by kernel_rfl
 i5 := by kernel_rfl
 i9 := by kernel_rfl
 i20 := by kernel_rfl
 i21 := by kernel_rfl
 i37 := by kernel_rfl
 i46 := by kernel_rfl
 i51 := by kernel_rfl
 i53 := by kernel_rfl
 i75 := by kernel_rfl
 i76 := by kernel_rfl
 i80 := by kernel_rfl
 i85 := by kernel_rfl
 i127 := by kernel_rfl
 i143 := by kernel_rfl
 i145 := by kernel_rfl
 i167 := by kernel_rfl
 i168 := by kernel_rfl
 i171 := by kernel_rfl
 i173 := by kernel_rfl
 i175 := by kernel_rfl
 i210 := by kernel_rfl
 i212 := by kernel_rfl
 i232 := by kernel_rfl
 i233 := by kernel_rfl
 m15 := by kernel_rfl
 m16 := by kernel_rfl
 m17 := by kernel_rfl
 m18 := by kernel_rfl
 m19 := by kernel_rfl
 c0 := by kernel_rfl
 c2 := by kernel_rfl
 c3 := by kernel_rfl
 c4 := by kernel_rfl
 c5 := by kernel_rfl
 c9 := by kernel_rfl
 c20 := by kernel_rfl
 c21 := by kernel_rfl
 c37 := by kernel_rfl
 c46 := by kernel_rfl
 c51 := by kernel_rfl
 c53 := by kernel_rfl
 c75 := by kernel_rfl
 c76 := by kernel_rfl
 c80 := by kernel_rfl
 c85 := by kernel_rfl
 c127 := by kernel_rfl
 c143 := by kernel_rfl
 c145 := by kernel_rfl
 c167 := by kernel_rfl
 c168 := by kernel_rfl
 c171 := by kernel_rfl
 c173 := by kernel_rfl
 c175 := by kernel_rfl
 c210 := by kernel_rfl
 c212 := by kernel_rfl
 c213 := by kernel_rfl
 c232 := by kernel_rfl
 c233 := by kernel_rfl }
def Tryz.laysIndexByte_ren : Go.Shelf.Ren := ⟨fun | 137 => 105 | 217 => 130 | 266 => 157 | n => n, fun | 9 => 9 | 5 => 5 | 3 => 3 | n => n, fun | n => n⟩
theorem Tryz.laysIndexByte : Go.Proofs.Lays.n137 Tryz.prog Tryz.laysIndexByte_ren := {
 mixed := by kernel_rfl
 f137 := Tryz.func105.trans (congrArg some (by kernel_rfl))
 f217 := Tryz.func130.trans (congrArg some (by kernel_rfl))
 f266 := Tryz.func157.trans (congrArg some (by kernel_rfl))
 t3 := Tryz.underlying3
 a3 := Tryz.isAgg3
 z3 := Tryz.sizeOf3
 v3 := Tryz.zeroValue3
 t5 := Tryz.underlying5
 a5 := Tryz.isAgg5
 z5 := Tryz.sizeOf5
 v5 := Tryz.zeroValue5
 t9 := Tryz.underlying9
 a9 := Tryz.isAgg9
 z9 := Tryz.sizeOf9
 v9 := Tryz.zeroValue9 }
def Tryz.laysString_ren : Go.Shelf.Ren := ⟨fun | 169 => 57 | n => n, fun | 70 => 97 | 9 => 9 | 0 => 0 | 72 => 100 | 37 => 98 | 127 => 145 | 3 => 3 | 5 => 5 | n => n, fun | n => n⟩
theorem Tryz.laysString : Go.Proofs.Lays.n169 Tryz.prog Tryz.laysString_ren := {
 mixed := by kernel_rfl
 f169 := Tryz.func57.trans (congrArg some (by kernel_rfl))
 t0 := Tryz.underlying0
 a0 := Tryz.isAgg0
 z0 := Tryz.sizeOf0
 v0 := Tryz.zeroValue0
 t3 := Tryz.underlying3
 a3 := Tryz.isAgg3
 z3 := Tryz.sizeOf3
 v3 := Tryz.zeroValue3
 t9 := Tryz.underlying9
 a9 := Tryz.isAgg9
 z9 := Tryz.sizeOf9
 v9 := Tryz.zeroValue9
 t37 := Tryz.underlying98
 a37 := Tryz.isAgg98
 z37 := Tryz.sizeOf98
 v37 := Tryz.zeroValue98
 t70 := Tryz.underlying97
 a70 := Tryz.isAgg97
 z70 := Tryz.sizeOf97
 v70 := Tryz.zeroValue97
 t72 := Tryz.underlying100
 a72 := Tryz.isAgg100
 z72 := Tryz.sizeOf100
 v72 := Tryz.zeroValue100
 t127 := Tryz.underlying145
 a127 := Tryz.isAgg145
 z127 := Tryz.sizeOf145
 v127 := Tryz.zeroValue145 }
end Go.Proofs
end
section
namespace Go.Proofs.YtlocbpaikdgmbaaGreatDoor.P
open Go.RowKit Go.Proofs Go.Proofs.YtlocbpaikdgmbaaGreatDoorW.PrintWords Go.Proofs.YtlocbpaikdgmbaaGreatDoorW.PrintLast Go.Proofs.YtlocbpaikdgmbaaGreatDoorW.PrintMore
def heldAt (w : World) (g : Nat) : Option (Array Value) := match w.heap[g]? with | some (.cells cs _ _) => some cs | _ => none
theorem heldAt_below {w w' : World} {g : Nat} {cs : Array Value} (h : heldAt w g = some cs) (hb : Below w.heap.size w w') : heldAt w' g = some cs := by
 have hlt : g < w.heap.size := by
  rcases Nat.lt_or_ge g w.heap.size with h' | h'
  · exact h'
  · simp [heldAt, Array.getElem?_eq_none h'] at h
 unfold heldAt at h ⊢
 rw [hb.block g hlt]
 exact h
structure Gl (w : World) : Prop where
 tab : heldAt w 3 = some (Lib.pow10Tab.map fun z => Value.int .u64 z).toArray
 err : ∃ te pe, heldAt w 1 = some #[.iface te pe]
theorem Gl.keep {w w' : World} (h : Gl w) (hb : Below w.heap.size w w') : Gl w' :=
 ⟨heldAt_below h.tab hb, h.err.elim fun te h1 => h1.elim fun pe h2 => ⟨te, pe, heldAt_below h2 hb⟩⟩
theorem Gl.keepAt {w w' : World} {n : Nat} (h : Gl w) (hn : w.heap.size ≤ n) (hb : Below n w w') : Gl w' := h.keep (hb.mono hn)
theorem heldAt_cell {w : World} {g : Nat} {cs : Array Value} (h : heldAt w g = some cs) (j : Nat) : w.cell? ⟨g, j, none⟩ = cs[j]? := by
 unfold heldAt at h
 unfold World.cell?
 split at h
 · rename_i cs' t fz hc
   injection h with h
   simp [hc, h]
 · cases h
def strings_IndexByte.f (s : ByteArray) (c : Int) : Option Int := some (Lib.indexByte s.data.toList c.toNat.toUInt8)
theorem strings_IndexByte.calls (s : ByteArray) (c : Int) (r : Int) (w : World) (h : strings_IndexByte.f s c = some r) :
 Calls Tryz.prog 105 #[.string s, .int .u8 c] w fun e w' => e = .returned (.int .i64 r) ∧ Drawn0 w w' := by
 injection h with h
 refine (Any.strings_IndexByte Tryz.laysIndexByte s c w).mono ?_
 rintro e w' ⟨rfl, rfl⟩
 rw [h]
 exact ⟨rfl, Drawn0.refl _⟩
def atoiOf : Lib.NumEnd Int → Option Int
 | .ok v => some v
 | .range => none
 | _ => some 0
def strconv_Atoi.f (s : ByteArray) : Option Int := if s.size ≤ 1099511627776 then atoiOf (Lib.atoiAll s.data.toList) else none
theorem strconv_Atoi.calls (s : ByteArray) (r : Int) (w : World) (hG : Gl w) (h : strconv_Atoi.f s = some r) :
 Calls Tryz.prog 176 #[.string s] w fun e w' => (∃ v, e = .returned (.tuple #[.int .i64 r, v])) ∧ Below w.heap.size w w' := by
 unfold strconv_Atoi.f at h
 split at h
 · rename_i hs
   rcases hv : Lib.atoiAll s.data.toList with v | _ | _
   · rw [hv] at h
     injection h with h
     refine (Any.strconv_Atoi_ok Tryz.laysAtoi s (by omega) v hv w).mono ?_
     rintro e w' ⟨rfl, hw⟩
     rw [h]
     refine ⟨⟨_, rfl⟩, ?_⟩
     rcases hw with rfl | ⟨t, rfl⟩
     · exact Below.refl _ _
     · exact Lib.bytesWorld_below _ _ _
   · rw [hv] at h
     injection h with h
     obtain ⟨te, pe, he⟩ := hG.err
     refine (Any.strconv_Atoi_syntax Tryz.laysAtoi s (by omega) hv (.iface te pe) w ?_ (.inr ⟨te, pe, rfl⟩)).mono ?_
     · exact (heldAt_cell he 0).trans rfl
     · rintro e w' ⟨N, rfl, _, _, hb⟩
       rw [← h]
       exact ⟨⟨_, rfl⟩, hb⟩
   · rw [hv] at h
     cases h
 · cases h
end Go.Proofs.YtlocbpaikdgmbaaGreatDoor.P
end
section
namespace Go.Proofs.YtlocbpaikdgmbaaGreatDoor
open Go.ChangeShapes Go.WideShapes Go.ChangeAt Go.RowKit
set_option linter.unusedVariables false
set_option maxRecDepth 100000
theorem gl_of_laid {W : World} (h : laidMet Tryz.prog Rows.expandLimitRow.laid W) : P.Gl W := by
 have h3 : laidMet Tryz.prog (_ :: _) W := (laidMet.tail (laidMet.tail h))
 have h5 : laidMet Tryz.prog (_ :: _) W := laidMet.tail (laidMet.tail h3)
 have ht := Lib.tabIs_of_head (k := .u64) (zs := Lib.pow10Tab) (g := 3) (by kernel_rfl) (by kernel_rfl) (Tryz.underlying243) (by kernel_rfl) (by kernel_rfl) (by kernel_rfl) h3
 have es := laid_sentinel (g := 1) h5 (by kernel_rfl) (by kernel_rfl) Tryz.underlying102 ?hrow Tryz.underlying232 Tryz.underlying234 rfl rfl Tryz.underlying9 (by kernel_rfl) (by kernel_rfl)
 case hrow => exact fun u hu => typeName_ptr_named (nm := "errors.errorString") (by kernel_rfl) (by kernel_rfl) (by decide) u (hu.trans (congrArg some (by kernel_rfl)))
 obtain ⟨a, s, hv, -, -, -⟩ := es
 unfold Lib.TabIs World.var? at ht
 unfold World.var? at hv
 obtain ⟨g1, hg1, ht⟩ := Option.bind_eq_some_iff.1 ht
 obtain ⟨g2, hg2, hv⟩ := Option.bind_eq_some_iff.1 hv
 have e1 : g1 = 3 := Option.some.inj (hg1.symm.trans (by kernel_rfl))
 have e2 : g2 = 1 := Option.some.inj (hg2.symm.trans (by kernel_rfl))
 subst e1 e2
 exact ⟨ht, _, _, hv⟩
end Go.Proofs.YtlocbpaikdgmbaaGreatDoor
end
section
namespace Go.Proofs.YtlocbpaikdgmbaaGreatDoor.P
open Go.RowKit Go.Proofs.YtlocbpaikdgmbaaGreatDoorW.PrintWords Go.Proofs.YtlocbpaikdgmbaaGreatDoorW.PrintLast Go.Proofs.YtlocbpaikdgmbaaGreatDoorW.PrintMore
attribute [local go_sem] max2_int min2_int max_two min_two max_three min_three max_four min_four
set_option linter.unusedVariables false
set_option linter.unusedSimpArgs false
def tmpl_Operator.f (a0 : Int) : Option (Bool) := if a0 = 0 then (some true) else ((strings_IndexByte.f (⟨#[43, 35, 46, 47, 59, 63, 38]⟩ : ByteArray) a0).bind fun t659 => (some (decide (t659 ≥ 0))))
set_option maxHeartbeats 8000000 in
set_option maxRecDepth 100000 in
theorem tmpl_Operator.calls (a0 : Int) (r : Bool) (w : World) (h : tmpl_Operator.f a0 = some r) :
 Calls Tryz.prog 78 #[.int .u8 a0] w fun e w' => e = .returned (.bool r) ∧ Drawn0 w w' := by
 have H : (if a0 = 0 then (some true) else ((strings_IndexByte.f (⟨#[43, 35, 46, 47, 59, 63, 38]⟩ : ByteArray) a0).bind fun t659 => (some (decide (t659 ≥ 0))))) = some r := h
 clear h
 by_cases c2 : a0 = 0
 · rw [if_pos c2] at H
   have c2b0 : (a0 == 0) = true := beq_iff_eq.mpr c2
   have c2b1 : (a0 != 0) = false := bne_eq_false_iff_eq.mpr c2
   clear c2
   obtain rfl := Option.some.inj H
   go_enter Tryz.func78, Tryz.ntmps78
   go_wp2
   go_ret
   exact ⟨by first | rfl | (simp; done) | (simp [*]; done), by repeat (first | exact Drawn0.refl _ | apply Drawn0.step)⟩
 · rw [if_neg c2] at H
   have c2b0 : (a0 == 0) = false := beq_eq_false_iff_ne.mpr c2
   have c2b1 : (a0 != 0) = true := bne_iff_ne.mpr c2
   replace H := Option.bind_eq_some_iff.mp H
   obtain ⟨t659, A30, H⟩ := H
   replace H : (some (decide (t659 ≥ 0))) = some r := H
   have A3 := Aside0.mk A30
   clear A30
   obtain rfl := Option.some.inj H
   go_enter Tryz.func78, Tryz.ntmps78
   go_wp2_with (first | (go_at_call 105; (with_reducible refine (strings_IndexByte.calls (⟨#[43, 35, 46, 47, 59, 63, 38]⟩ : ByteArray) a0 t659 _ A3.out).mono ?_); rintro e w' ⟨rfl, ⟨nd, rfl⟩⟩))
   go_ret
   exact ⟨by first | rfl | (simp; done) | (simp [*]; done), by repeat (first | exact Drawn0.refl _ | apply Drawn0.step)⟩
end Go.Proofs.YtlocbpaikdgmbaaGreatDoor.P
end
section
namespace Go.Proofs.YtlocbpaikdgmbaaGreatDoor.P
open Go Go.RowKit Go.MapKept Go.ChangeMaps Go.Proofs.YtlocbpaikdgmbaaGreatDoorW.PrintWords Go.Proofs.YtlocbpaikdgmbaaGreatDoorW.PrintLast Go.Proofs.YtlocbpaikdgmbaaGreatDoorW.PrintMore
set_option linter.unusedVariables false
set_option linter.unusedSimpArgs false
structure RuleS where
 first : ByteArray
 sep : ByteArray
 named : Bool
 empty : ByteArray
 keep : Bool
def valR (r : RuleS) : Value := .agg #[.string r.first, .string r.sep, .bool r.named, .string r.empty, .bool r.keep]
def rulesL : List (Int × RuleS) := [(0, ⟨⟨#[]⟩, ⟨#[44]⟩, false, ⟨#[]⟩, false⟩), (43, ⟨⟨#[]⟩, ⟨#[44]⟩, false, ⟨#[]⟩, true⟩), (35, ⟨⟨#[35]⟩, ⟨#[44]⟩, false, ⟨#[]⟩, true⟩), (46, ⟨⟨#[46]⟩, ⟨#[46]⟩, false, ⟨#[]⟩, false⟩),
 (47, ⟨⟨#[47]⟩, ⟨#[47]⟩, false, ⟨#[]⟩, false⟩), (59, ⟨⟨#[59]⟩, ⟨#[59]⟩, true, ⟨#[]⟩, false⟩), (63, ⟨⟨#[63]⟩, ⟨#[38]⟩, true, ⟨#[61]⟩, false⟩), (38, ⟨⟨#[38]⟩, ⟨#[38]⟩, true, ⟨#[61]⟩, false⟩)]
def noRule : RuleS := ⟨⟨#[]⟩, ⟨#[]⟩, false, ⟨#[]⟩, false⟩
def ruleE (p : (Int × RuleS) × Nat) : MapEntry := { key := .int .u8 p.1.1, val := valR p.1.2, born := p.2 }
def rulesE (n : Nat) : Array MapEntry := ((rulesL.zipIdx.take n).map ruleE).toArray
def rulesW (w : World) (n : Nat) : World := w.alloc (.map (rulesE n) n)
theorem rulesW_at (w : World) (n : Nat) : (rulesW w n).heap[w.heap.size]? = some (.map (rulesE n) n) := (MapKept.heap_alloc w _).1
theorem setBlock_alloc (w : World) (o o' : Obj) : ({ (w.alloc o) with heap := (w.alloc o).heap.setIfInBounds w.heap.size o' } : World) = w.alloc o' := by
 show ({ w with heap := (w.heap.push o).setIfInBounds w.heap.size o' } : World) = { w with heap := w.heap.push o' }
 congr 1
 apply Array.ext_getElem?
 intro k
 rw [Array.getElem?_setIfInBounds, Array.getElem?_push, Array.getElem?_push, Array.size_push]
 by_cases hk : w.heap.size = k
 · subst hk
   simp
 · rw [if_neg hk]
   by_cases h2 : k = w.heap.size
   · exact absurd h2.symm hk
   · simp [h2]
theorem rules_insert (w : World) (n : Nat) (k : Int) (v : Value) (hn : rulesE (n + 1) = (rulesE n).push { key := .int .u8 k, val := v, born := n }) (hf : Instr.findNow (.int .u8) (.int .u8 k) (rulesE n).toList 0 = some none) :
 (Instr.mapUpdate 133 (.map (some w.heap.size)) (.int .u8 k) v).run Tryz.prog (rulesW w n) = .ok () (rulesW w (n + 1)) := by
 have hk : Tryz.prog.underlying 5 = some (.int .u8) := Tryz.underlying5
 have ht : Tryz.prog.underlying 133 = some (.map 5 87) := Tryz.underlying133
 have h1 := rulesW_at w n
 have hkey : IsKey (.int .u8) (.int .u8 k) := rfl
 have e := setBlock_alloc w (.map (rulesE n) n) (.map (rulesE (n + 1)) (n + 1))
 rw [hn] at e
 unfold rulesW at h1 ⊢
 rw [hn]
 simp [Instr.mapUpdate, run_underlying ht, MapKept.run_getObj_map h1, run_checkKey hk hkey, run_findKey hk hf, MapKept.run_setObj_map _ h1, Result.andThen]
 simpa using e
set_option maxHeartbeats 1000000 in
theorem oper_rules (w : World) : Calls Tryz.prog 77 #[] w fun e w' => e = .returned (.map (some w.heap.size)) ∧ w' = rulesW w 8 := by
 have hmm := @run_makeMap Tryz.prog
 have s0 := rules_insert w 0 0 (valR ⟨⟨#[]⟩, ⟨#[44]⟩, false, ⟨#[]⟩, false⟩) rfl (by rfl)
 have s1 := rules_insert w 1 43 (valR ⟨⟨#[]⟩, ⟨#[44]⟩, false, ⟨#[]⟩, true⟩) rfl (by rfl)
 have s2 := rules_insert w 2 35 (valR ⟨⟨#[35]⟩, ⟨#[44]⟩, false, ⟨#[]⟩, true⟩) rfl (by rfl)
 have s3 := rules_insert w 3 46 (valR ⟨⟨#[46]⟩, ⟨#[46]⟩, false, ⟨#[]⟩, false⟩) rfl (by rfl)
 have s4 := rules_insert w 4 47 (valR ⟨⟨#[47]⟩, ⟨#[47]⟩, false, ⟨#[]⟩, false⟩) rfl (by rfl)
 have s5 := rules_insert w 5 59 (valR ⟨⟨#[59]⟩, ⟨#[59]⟩, true, ⟨#[]⟩, false⟩) rfl (by rfl)
 have s6 := rules_insert w 6 63 (valR ⟨⟨#[63]⟩, ⟨#[38]⟩, true, ⟨#[61]⟩, false⟩) rfl (by rfl)
 have s7 := rules_insert w 7 38 (valR ⟨⟨#[38]⟩, ⟨#[38]⟩, true, ⟨#[61]⟩, false⟩) rfl (by rfl)
 have hw0 : w.alloc (.map #[] 0) = rulesW w 0 := rfl
 unfold valR at s0 s1 s2 s3 s4 s5 s6 s7
 simp only [Nat.reduceAdd] at s0 s1 s2 s3 s4 s5 s6 s7
 go_enter Tryz.func77, Tryz.ntmps77
 go_wp2
 go_ret
 exact ⟨rfl, rfl⟩
theorem oper_rules' (w : World) : Calls Tryz.prog 77 #[] w fun e w' => ∃ r, e = .returned (.map (some r)) ∧ w'.heap[r]? = some (.map (rulesE 8) 8) ∧ Below w.heap.size w w' := by
 refine (oper_rules w).mono ?_
 rintro e w' ⟨rfl, rfl⟩
 exact ⟨_, rfl, rulesW_at w 8, (Below.refl _ _).alloc (Nat.le_refl _) _⟩
def ruleOf (op : Int) : RuleS := if op = 0 then ⟨⟨#[]⟩, ⟨#[44]⟩, false, ⟨#[]⟩, false⟩ else if op = 43 then ⟨⟨#[]⟩, ⟨#[44]⟩, false, ⟨#[]⟩, true⟩ else if op = 35 then ⟨⟨#[35]⟩, ⟨#[44]⟩, false, ⟨#[]⟩, true⟩ else if op = 46 then ⟨⟨#[46]⟩, ⟨#[46]⟩, false, ⟨#[]⟩, false⟩
 else if op = 47 then ⟨⟨#[47]⟩, ⟨#[47]⟩, false, ⟨#[]⟩, false⟩ else if op = 59 then ⟨⟨#[59]⟩, ⟨#[59]⟩, true, ⟨#[]⟩, false⟩ else if op = 63 then ⟨⟨#[63]⟩, ⟨#[38]⟩, true, ⟨#[61]⟩, false⟩ else if op = 38 then ⟨⟨#[38]⟩, ⟨#[38]⟩, true, ⟨#[61]⟩, false⟩ else noRule
def hasRule (op : Int) : Bool := op == 0 || (op == 43 || (op == 35 || (op == 46 || (op == 47 || (op == 59 || (op == 63 || op == 38))))))
theorem rules_find (op : Int) : ∃ i, Instr.findNow (.int .u8) (.int .u8 op) (rulesE 8).toList 0 = some (if hasRule op = true then some (i, valR (ruleOf op)) else none) := by
 have e : (rulesE 8).toList = (rulesL.zipIdx.take 8).map ruleE := rfl
 rw [e]
 unfold hasRule ruleOf
 by_cases h0 : op = 0
 · exact ⟨0, by subst h0; rfl⟩
 by_cases h1 : op = 43
 · exact ⟨1, by subst h1; rfl⟩
 by_cases h2 : op = 35
 · exact ⟨2, by subst h2; rfl⟩
 by_cases h3 : op = 46
 · exact ⟨3, by subst h3; rfl⟩
 by_cases h4 : op = 47
 · exact ⟨4, by subst h4; rfl⟩
 by_cases h5 : op = 59
 · exact ⟨5, by subst h5; rfl⟩
 by_cases h6 : op = 63
 · exact ⟨6, by subst h6; rfl⟩
 by_cases h7 : op = 38
 · exact ⟨7, by subst h7; rfl⟩
 have b0 : (op == 0) = false := beq_eq_false_iff_ne.2 h0
 have b1 : (op == 43) = false := beq_eq_false_iff_ne.2 h1
 have b2 : (op == 35) = false := beq_eq_false_iff_ne.2 h2
 have b3 : (op == 46) = false := beq_eq_false_iff_ne.2 h3
 have b4 : (op == 47) = false := beq_eq_false_iff_ne.2 h4
 have b5 : (op == 59) = false := beq_eq_false_iff_ne.2 h5
 have b6 : (op == 63) = false := beq_eq_false_iff_ne.2 h6
 have b7 : (op == 38) = false := beq_eq_false_iff_ne.2 h7
 refine ⟨0, ?_⟩
 simp [rulesL, ruleE, Instr.findNow, Instr.sameNow, h0, h1, h2, h3, h4, h5, h6, h7, b0, b1, b2, b3, b4, b5, b6, b7]
theorem rules_lookup (W : World) (r : Nat) (h : W.heap[r]? = some (.map (rulesE 8) 8)) (op : Int) :
 (Instr.lookup 133 (.map (some r)) (.int .u8 op) true).run Tryz.prog W = .ok (.tuple #[valR (ruleOf op), .bool (hasRule op)]) W := by
 have hk : Tryz.prog.underlying 5 = some (.int .u8) := Tryz.underlying5
 have ht : Tryz.prog.underlying 133 = some (.map 5 87) := Tryz.underlying133
 have hz := Tryz.zeroValue87 W
 have hkey : IsKey (.int .u8) (.int .u8 op) := rfl
 obtain ⟨i, hf⟩ := rules_find op
 cases hh : hasRule op with
 | true =>
  rw [hh, if_pos rfl] at hf
  simp [Instr.lookup, run_underlying ht, MapKept.run_getObj_map h, run_checkKey hk hkey, run_findKey hk hf, Result.andThen]
 | false =>
  rw [hh, if_neg (by simp)] at hf
  have hn : ruleOf op = noRule := by
   unfold hasRule at hh
   simp only [Bool.or_eq_false_iff, beq_eq_false_iff_ne, ne_eq] at hh
   obtain ⟨h0, h1, h2, h3, h4, h5, h6, h7⟩ := hh
   unfold ruleOf
   rw [if_neg h0, if_neg h1, if_neg h2, if_neg h3, if_neg h4, if_neg h5, if_neg h6, if_neg h7]
  simp [Instr.lookup, run_underlying ht, MapKept.run_getObj_map h, run_checkKey hk hkey, run_findKey hk hf, hz, Result.andThen, hn, noRule, valR]
theorem box_newR (w : World) (cs : Array Value) (T : TypeId) : (w.alloc (.cells cs T)).heap[w.heap.size]? = some (.cells cs T (0, 0)) := heap_alloc_new w (.cells cs T)
theorem box_belowR {g : Nat} {cs : Array Value} {T : TypeId} {w w' : World} (hb : Below w.heap.size w w') (h : w.heap[g]? = some (.cells cs T (0, 0))) : w'.heap[g]? = some (.cells cs T (0, 0)) :=
 (hb.block g (Array.getElem?_eq_some_iff.1 h).1).trans h
theorem put5 {w : World} {g : Nat} (h : w.heap[g]? = some (.cells #[.string ⟨#[]⟩, .string ⟨#[]⟩, .bool false, .string ⟨#[]⟩, .bool false] 87 (0, 0))) (R : RuleS) :
 (((((w.setCell ⟨g, 0, none⟩ (.string R.first)).setCell ⟨g, 1, none⟩ (.string R.sep)).setCell ⟨g, 2, none⟩ (.bool R.named)).setCell ⟨g, 3, none⟩ (.string R.empty)).setCell ⟨g, 4, none⟩ (.bool R.keep)).heap[g]? = some (.cells #[.string R.first, .string R.sep, .bool R.named, .string R.empty, .bool R.keep] 87 (0, 0)) :=
 blk_put (blk_put (blk_put (blk_put (blk_put h 0 _ rfl) 1 _ rfl) 2 _ rfl) 3 _ rfl) 4 _ rfl
theorem below_put5 {n : Nat} {w w1 : World} {g : Nat} (h : Below n w w1) (hg : n ≤ g) (a b c d e : Value) : Below n w (((((w1.setCell ⟨g, 0, none⟩ a).setCell ⟨g, 1, none⟩ b).setCell ⟨g, 2, none⟩ c).setCell ⟨g, 3, none⟩ d).setCell ⟨g, 4, none⟩ e) :=
 ((((h.setCell (p := ⟨g, 0, none⟩) hg _).setCell (p := ⟨g, 1, none⟩) hg _).setCell (p := ⟨g, 2, none⟩) hg _).setCell (p := ⟨g, 3, none⟩) hg _).setCell (p := ⟨g, 4, none⟩) hg _
def oper_Of.f (op : Int) : Option (RuleS × Bool) := (tmpl_Operator.f op).map fun b => (ruleOf op, hasRule op && b)
set_option maxHeartbeats 2000000 in
set_option maxRecDepth 10000 in
theorem oper_Of.calls (op : Int) (r : RuleS) (b : Bool) (w : World) (h : oper_Of.f op = some (r, b)) :
 Calls Tryz.prog 49 #[.int .u8 op] w fun e w' => e = .returned (.tuple #[valR r, .bool b]) ∧ Below w.heap.size w w' := by
 unfold oper_Of.f at h
 obtain ⟨o, ho, h⟩ := Option.map_eq_some_iff.1 h
 injection h with h1 h2
 subst h1
 have HO := Lib.hid ho
 have HB2 := Lib.hid h2
 clear ho h2
 obtain ⟨R, hR⟩ : ∃ R, R = ruleOf op := ⟨_, rfl⟩
 obtain ⟨H, hH⟩ : ∃ H, H = hasRule op := ⟨_, rfl⟩
 rw [← hR]
 have hL : ∀ (W : World) (r : Nat), W.heap[r]? = some (.map (rulesE 8) 8) → (Instr.lookup 133 (.map (some r)) (.int .u8 op) true).run Tryz.prog W = .ok (.tuple #[.agg #[.string R.first, .string R.sep, .bool R.named, .string R.empty, .bool R.keep], .bool H]) W := by
  intro W r hr
  rw [hR, hH]
  exact rules_lookup W r hr op
 have HL := Lib.hid hL
 rw [← hH] at HB2
 clear hR hH hL
 go_enter Tryz.func49, Tryz.ntmps49
 have hbx := box_newR w #[.string ⟨#[]⟩, .string ⟨#[]⟩, .bool false, .string ⟨#[]⟩, .bool false] 87
 have hb0 : Below w.heap.size w (w.alloc (.cells #[.string ⟨#[]⟩, .string ⟨#[]⟩, .bool false, .string ⟨#[]⟩, .bool false] 87)) := (Below.refl _ _).alloc (Nat.le_refl _) _
 obtain ⟨g, hg⟩ : ∃ g, g = w.heap.size := ⟨_, rfl⟩
 rw [← hg] at hbx
 have HG := Lib.hid hg
 have HX := Lib.hid hbx
 have HB0 := Lib.hid hb0
 clear hg hbx hb0
 go_wp2_with (refine (oper_rules' _).mono ?_; rintro e w1 ⟨r, rfl, hr, hb⟩; rw [← HG.out]; have hl := HL.out _ _ hr; have HX1 := Lib.hid (box_belowR hb HX.out); have HB1 := Lib.hid (below_step HB0.out hb); clear hr hb)
 have hx2 := box_belowR ((Below.refl _ _).alloc (Nat.le_refl _) (.cells #[.string R.first, .string R.sep, .bool R.named, .string R.empty, .bool R.keep] 87)) HX1.out
 have hq2 := box_newR w1 #[.string R.first, .string R.sep, .bool R.named, .string R.empty, .bool R.keep] 87
 have hb2 := below_alloc HB1.out (.cells #[.string R.first, .string R.sep, .bool R.named, .string R.empty, .bool R.keep] 87)
 obtain ⟨W, hW⟩ : ∃ W, W = w1.alloc (.cells #[.string R.first, .string R.sep, .bool R.named, .string R.empty, .bool R.keep] 87) := ⟨_, rfl⟩
 obtain ⟨q, hq⟩ : ∃ q, q = w1.heap.size := ⟨_, rfl⟩
 rw [← hW] at hx2 hq2 hb2 ⊢
 rw [← hq] at hq2 ⊢
 have hgw : w.heap.size ≤ g := by rw [HG.out]; exact Nat.le_refl _
 have HX2 := Lib.hid hx2
 have HQ2 := Lib.hid hq2
 have HBB := Lib.hid hb2
 clear hW hq hx2 hq2 hb2 HX1 HB1 HX HB0
 have d0 := Lib.cell_of_heap HQ2.out 0
 have d1 := Lib.cell_of_heap HQ2.out 1
 have d2 := Lib.cell_of_heap HQ2.out 2
 have d3 := Lib.cell_of_heap HQ2.out 3
 have d4 := Lib.cell_of_heap HQ2.out 4
 simp only [List.getElem?_toArray, List.getElem?_cons_zero, List.getElem?_cons_succ] at d0 d1 d2 d3 d4
 cases H with
 | false =>
  have c0 := Lib.cell_of_heap HX2.out 0
  have c1 := Lib.cell_of_heap HX2.out 1
  have c2 := Lib.cell_of_heap HX2.out 2
  have c3 := Lib.cell_of_heap HX2.out 3
  have c4 := Lib.cell_of_heap HX2.out 4
  simp only [List.getElem?_toArray, List.getElem?_cons_zero, List.getElem?_cons_succ] at c0 c1 c2 c3 c4
  have f0 := Lib.frozen_of_heap HX2.out 0
  have f1 := Lib.frozen_of_heap HX2.out 1
  have f2 := Lib.frozen_of_heap HX2.out 2
  have f3 := Lib.frozen_of_heap HX2.out 3
  have f4 := Lib.frozen_of_heap HX2.out 4
  go_region
  all_goals
   go_wp2
   refine bodyPost_ret (results_ct rfl _ _ g 87 #[.string R.first, .string R.sep, .bool R.named, .string R.empty, .bool R.keep] (0, 0) _ rfl (put5 HX2.out R) Tryz.underlying87 rfl (by kernel_rfl)) rfl ?_
   exact ⟨by rw [← HB2.out]; rfl, by first | exact below_put5 HBB.out hgw _ _ _ _ _ | exact (below_put5 HBB.out hgw _ _ _ _ _).drew⟩
 | true =>
  go_region_law (first
   | (refine goes_ Tryz.func78 (by kernel_rfl) rfl #[.int .u8 op] (by rfl) rfl rfl (by simp [Act.eval, Act.put]) ?_; refine (tmpl_Operator.calls op o _ HO.out).mono ?_; rintro e w3 ⟨rfl, hb3⟩; refine ⟨_, rfl, ?_⟩; have HX3 := Lib.hid (box_belowR ((below_drew (Below.refl _ W)).trans hb3.below) HX2.out); have HQ3 := Lib.hid (box_belowR ((below_drew (Below.refl _ W)).trans hb3.below) HQ2.out); have HB3 := Lib.hid (HBB.out.trans (((below_drew (Below.refl _ W)).trans hb3.below).mono HBB.out.size)); have e0 := Lib.cell_of_heap HQ3.out 0; have e1 := Lib.cell_of_heap HQ3.out 1; have e2 := Lib.cell_of_heap HQ3.out 2; have e3 := Lib.cell_of_heap HQ3.out 3; have e4 := Lib.cell_of_heap HQ3.out 4; have c0 := Lib.cell_of_heap HX3.out 0; have c1 := Lib.cell_of_heap HX3.out 1; have c2 := Lib.cell_of_heap HX3.out 2; have c3 := Lib.cell_of_heap HX3.out 3; have c4 := Lib.cell_of_heap HX3.out 4; simp only [List.getElem?_toArray, List.getElem?_cons_zero, List.getElem?_cons_succ] at e0 e1 e2 e3 e4 c0 c1 c2 c3 c4; have f0 := Lib.frozen_of_heap HX3.out 0; have f1 := Lib.frozen_of_heap HX3.out 1; have f2 := Lib.frozen_of_heap HX3.out 2; have f3 := Lib.frozen_of_heap HX3.out 3; have f4 := Lib.frozen_of_heap HX3.out 4))
  all_goals
   go_wp2
   refine bodyPost_ret (results_ct rfl _ _ g 87 #[.string R.first, .string R.sep, .bool R.named, .string R.empty, .bool R.keep] (0, 0) _ rfl (put5 HX3.out R) Tryz.underlying87 rfl (by kernel_rfl)) rfl ?_
   exact ⟨by rw [← HB2.out]; rfl, by first | exact below_put5 HB3.out hgw _ _ _ _ _ | exact (below_put5 HB3.out hgw _ _ _ _ _).drew⟩
end Go.Proofs.YtlocbpaikdgmbaaGreatDoor.P
end
section
namespace Go.Proofs.YtlocbpaikdgmbaaGreatDoor.P
open Go.RowKit Go.Proofs.YtlocbpaikdgmbaaGreatDoorW.PrintWords Go.Proofs.YtlocbpaikdgmbaaGreatDoorW.PrintLast Go.Proofs.YtlocbpaikdgmbaaGreatDoorW.PrintMore
set_option linter.unusedVariables false
set_option linter.unusedSimpArgs false
abbrev IsB (b : Nat) (l : List UInt8) (w : World) : Prop := Lib.IsBuilder 100 5 b b (Lib.byteCells l) w
theorem IsB.kept {b : Nat} {l : List UInt8} {w w' : World} (h : IsB b l w) (hb : Below w.heap.size w w') : IsB b l w' := by
 have key : ∀ p, Lib.BuilderAt 100 5 b b p (Lib.byteCells l) w → Lib.BuilderAt 100 5 b b p (Lib.byteCells l) w' := by
  rintro p ⟨h1, v, h2, ⟨h3, h4⟩, h5⟩
  have hlt : ∀ {k : Nat} {o : Obj}, w.heap[k]? = some o → k < w.heap.size := fun hk => (Array.getElem?_eq_some_iff.1 hk).1
  refine ⟨h1, v, (hb.block b (hlt h2)).trans h2, ⟨h3, ?_⟩, h5⟩
  rcases h4 with h4 | ⟨g, cap, cur, g1, g2, g3, g4⟩
  · exact .inl h4
  · exact .inr ⟨g, cap, cur, g1, g2, (hb.block g (hlt g3)).trans g3, g4⟩
 rcases h with h | h
 · exact .inl (key _ h)
 · exact .inr (key _ h)
theorem IsB.lt {b : Nat} {l : List UInt8} {w : World} (h : IsB b l w) : b < w.heap.size := by
 rcases h with h | h
 · exact h.lt
 · exact h.lt
theorem builder_extra : Builder.Extra Tryz.prog Tryz.laysString_ren := ⟨⟨by kernel_rfl, by kernel_rfl⟩, Tryz.underlying5, Tryz.isAgg5, Tryz.sizeOf5, Tryz.zeroValue5, by kernel_rfl, by kernel_rfl, by kernel_rfl, by decide⟩
theorem B_String (b : Nat) (l : List UInt8) (w : World) (h : IsB b l w) : Calls Tryz.prog 57 #[.pointer (some ⟨b, 0, none⟩)] w fun e w' => e = .returned (.string ⟨l.toArray⟩) ∧ Below b w w' :=
 Any.Builder_String_any Tryz.laysString builder_extra b b l w h (Nat.le_of_lt h.lt)
theorem B_WriteString (b : Nat) (l : List UInt8) (s : ByteArray) (w : World) (h : IsB b l w) (hlen : l.length + s.size ≤ 140737488355328) :
 Calls Tryz.prog 55 #[.pointer (some ⟨b, 0, none⟩), .string s] w fun e w' => e = .returned (.tuple #[.int .i64 s.size, .nilIface]) ∧ IsB b (l ++ s.data.toList) w' ∧ Below b w w' ∧ Lib.OthersKept 5 (some b) w w' := by
 refine (builder_WriteString b b (Lib.byteCells l) s w h (by rw [Lib.byteCells_length]; exact hlen) (Nat.le_of_lt h.lt)).mono ?_
 rintro e w' ⟨rfl, h1, h2, h3⟩
 refine ⟨rfl, .inr ?_, h2, h3⟩
 have : Lib.byteCells (l ++ s.data.toList) = Lib.byteCells l ++ Lib.strCells s := by
  rw [Lib.byteCells_append]
  rfl
 rw [this]
 exact h1
theorem B_WriteByte (b : Nat) (l : List UInt8) (c : UInt8) (w : World) (h : IsB b l w) (hlen : l.length + 1 ≤ 140737488355328) :
 Calls Tryz.prog 88 #[.pointer (some ⟨b, 0, none⟩), .int .u8 (c.toNat : Int)] w fun e w' => e = .returned .nilIface ∧ IsB b (l ++ [c]) w' ∧ Below b w w' ∧ Lib.OthersKept 5 (some b) w w' := by
 refine (builder_WriteByte b b (Lib.byteCells l) (c.toNat : Int) w h (by rw [Lib.byteCells_length]; exact hlen) (Nat.le_of_lt h.lt)).mono ?_
 rintro e w' ⟨rfl, h1, h2, h3⟩
 refine ⟨rfl, .inr ?_, h2, h3⟩
 have : Lib.byteCells (l ++ [c]) = Lib.byteCells l ++ [.int .u8 (c.toNat : Int)] := by
  rw [Lib.byteCells_append]
  rfl
 rw [this]
 exact h1
theorem box_after {b g : Nat} {cs : Array Value} {T : TypeId} (hT : T ≠ 5) {w w' : World} (ho : Lib.OthersKept 5 (some b) w w') (h : w.heap[g]? = some (.cells cs T (0, 0))) (hne : g ≠ b) : w'.heap[g]? = some (.cells cs T (0, 0)) :=
 ho g _ h (fun e => hne (Option.some.inj e)) (fun c fz e => hT (by injection e))
theorem box_below {g : Nat} {cs : Array Value} {T : TypeId} {w w' : World} (hb : Below w.heap.size w w') (h : w.heap[g]? = some (.cells cs T (0, 0))) : w'.heap[g]? = some (.cells cs T (0, 0)) :=
 (hb.block g (Array.getElem?_eq_some_iff.1 h).1).trans h
theorem box_new (w : World) (cs : Array Value) (T : TypeId) : (w.alloc (.cells cs T)).heap[w.heap.size]? = some (.cells cs T (0, 0)) := heap_alloc_new w (.cells cs T)
def stayB (keep : Bool) : Nat → Bool := if keep = true then anyOf [isUnres, isResv] else isUnres
def oneB (c : Int) : ByteArray := strOfNums [37, figure (c / 16), figure (c % 16)]
def staysAt (keep : Bool) (s : ByteArray) (i : Nat) : Bool := stayB keep (bt s i).toNat || (keep && isTriplet (s.extract i s.size))
def encAt (keep : Bool) (s : ByteArray) (i : Nat) : List UInt8 := if staysAt keep s i = true then [(bt s i).toNat.toUInt8] else (oneB (bt s i)).data.toList
def encFrom (keep : Bool) (s : ByteArray) : Nat → Nat → List UInt8
 | 0, _ => []
 | d + 1, i => encAt keep s i ++ encFrom keep s d (i + 1)
def pct_Encode.f (s : ByteArray) (keep : Bool) : Option ByteArray := if s.size ≤ 1099511627776 then some ⟨(encFrom keep s s.size 0).toArray⟩ else none
theorem oneB_length (c : Int) : (oneB c).data.toList.length = 3 := by
 show (oneB c).size = 3
 unfold oneB
 rw [strOfNums_size]
 rfl
theorem encAt_length (keep : Bool) (s : ByteArray) (i : Nat) : (encAt keep s i).length ≤ 3 := by
 unfold encAt
 split
 · simp
 · rw [oneB_length]
   omega
theorem encFrom_length (keep : Bool) (s : ByteArray) : ∀ (d i : Nat), (encFrom keep s d i).length ≤ 3 * d
 | 0, _ => Nat.le_refl _
 | d + 1, i => by
  have h1 := encAt_length keep s i
  have h2 := encFrom_length keep s d (i + 1)
  simp only [encFrom, List.length_append]
  omega
def setC (P : Nat → Bool) : Array Value := #[.int .u64 (wd P 0), .int .u64 (wd P 1), .int .u64 (wd P 2), .int .u64 (wd P 3)]
structure Enc1 (w wr : World) (g : Nat) (P : Nat → Bool) : Prop where
 o : wr.heap[g]? = some (.cells (setC P) 141 (0, 0))
 b : Below w.heap.size w wr
 g : w.heap.size ≤ g
theorem Enc1.s {w wr : World} {g : Nat} {P : Nat → Bool} (H : Enc1 w wr g P) : Four wr g (wd P) := by
 refine ⟨fun i hi => ?_, fun i hi => ?_⟩
 · rw [Lib.cell_of_heap H.o]
   have : i = 0 ∨ i = 1 ∨ i = 2 ∨ i = 3 := by omega
   rcases this with rfl | rfl | rfl | rfl <;> rfl
 · exact Lib.frozen_of_heap H.o i
theorem Enc1.step {w wr w1 : World} {g : Nat} {P : Nat → Bool} (H : Enc1 w wr g P) (hb : Below wr.heap.size wr w1) : Enc1 w w1 g P :=
 ⟨box_below hb H.o, below_then H.b H.b.size hb, H.g⟩
theorem Enc1.built {w wr w1 : World} {g b : Nat} {acc : List UInt8} {P : Nat → Bool} (H : Enc1 w wr g P) (hi : IsB b acc w1) (hb : Below b wr w1) (ho : Lib.OthersKept 5 (some b) wr w1) (hgb : g ≠ b) (hB : w.heap.size ≤ b) : Enc1 w w1 g P :=
 ⟨box_after (by decide) ho H.o hgb, below_weaken H.b hB hb, H.g⟩
theorem Enc1.put {w wr : World} {g : Nat} {P : Nat → Bool} (H : Enc1 w wr g P) (Q : Nat → Bool) : Enc1 w ((((wr.setCell ⟨g, 0, none⟩ (.int .u64 (wd Q 0))).setCell ⟨g, 1, none⟩ (.int .u64 (wd Q 1))).setCell ⟨g, 2, none⟩ (.int .u64 (wd Q 2))).setCell ⟨g, 3, none⟩ (.int .u64 (wd Q 3))) g Q :=
 ⟨blk_put (blk_put (blk_put (blk_put H.o 0 _ rfl) 1 _ rfl) 2 _ rfl) 3 _ rfl, (((H.b.setCell (p := ⟨g, 0, none⟩) H.g _).setCell (p := ⟨g, 1, none⟩) H.g _).setCell (p := ⟨g, 2, none⟩) H.g _).setCell (p := ⟨g, 3, none⟩) H.g _, H.g⟩
theorem pct_Triplet_below (s : ByteArray) (r : Bool) (w : World) (h : isTriplet s = r) :
 Calls Tryz.prog 87 #[.string s] w fun e w' => e = .returned (.bool r) ∧ Below w.heap.size w w' :=
 (pct_Triplet.calls 4 s r w (by rw [pct_Triplet_eq, h])).mono fun e w' ⟨he, hb⟩ => ⟨he, hb.below⟩
set_option maxRecDepth 100000 in
set_option maxHeartbeats 4000000 in
theorem pct_Encode.calls (s : ByteArray) (keep : Bool) (r : ByteArray) (w : World) (h : pct_Encode.f s keep = some r) :
 Calls Tryz.prog 53 #[.string s, .bool keep] w fun e w' => e = .returned (.string r) ∧ Below w.heap.size w w' := by
 unfold pct_Encode.f at h
 split at h
 case isFalse => cases h
 rename_i hs
 injection h with h
 obtain ⟨u, hu⟩ : ∃ u, u = encFrom keep s s.size 0 := ⟨_, rfl⟩
 have hul : u.length ≤ 3 * s.size := by
  rw [hu]
  exact encFrom_length _ _ _ _
 rw [← hu] at h
 have HR := Lib.hid h
 have HU := Lib.hid hu
 clear h hu
 cases keep with
 | false =>
  go_enter Tryz.func53, Tryz.ntmps53
  go_wp2_with fail
  refine (chars_Unreserved.calls _ _ rfl).mono ?_
  rintro e w1 ⟨rfl, hb⟩
  unfold setV
  have hsz1 := hb.size
  have HE0 : Hid (Enc1 w ((w1.alloc (.cells #[.int .u64 (wd isUnres 0), .int .u64 (wd isUnres 1), .int .u64 (wd isUnres 2), .int .u64 (wd isUnres 3)] 141)).alloc (.cells #[.pointer none, .slice none 0 0] 100)) w1.heap.size (stayB false)) :=
   Lib.hid ⟨box_below (below_alloc (Below.refl _ _) _) (box_new w1 _ _), below_alloc (below_alloc hb _) _, hsz1⟩
  have HI0 : Hid (IsB (w1.heap.size + 1) [] ((w1.alloc (.cells #[.int .u64 (wd isUnres 0), .int .u64 (wd isUnres 1), .int .u64 (wd isUnres 2), .int .u64 (wd isUnres 3)] 141)).alloc (.cells #[.pointer none, .slice none 0 0] 100))) := by
   have := Lib.fresh_isBuilder 100 5 (w1.alloc (.cells #[.int .u64 (wd isUnres 0), .int .u64 (wd isUnres 1), .int .u64 (wd isUnres 2), .int .u64 (wd isUnres 3)] 141))
   rw [World.size_alloc] at this
   exact Lib.hid this
  clear hb
  go_wp2
  obtain ⟨g, hg⟩ : ∃ g, g = w1.heap.size := ⟨_, rfl⟩
  obtain ⟨b, hb⟩ : ∃ b, b = w1.heap.size + 1 := ⟨_, rfl⟩
  rw [← hb] at HI0 ⊢
  rw [← hg] at HE0 ⊢
  have hgb : g ≠ b := by omega
  have hbB : w.heap.size ≤ b := by omega
  clear hg hb hsz1
  obtain ⟨P, hP⟩ : ∃ P, P = stayB false := ⟨_, rfl⟩
  rw [← hP] at HE0
  have HPP := Lib.hid hP
  clear hP
  go_loopw [7, 16] (fun _ i wr => ∃ (k : Nat) (acc : List UInt8), k ≤ s.size ∧ i = .int .i64 k ∧ Hid (acc ++ encFrom false s (s.size - k) k = u) ∧ acc.length ≤ 3 * k ∧ Hid (IsB b acc wr) ∧ Hid (Enc1 w wr g P)) (fun _ i _ => s.size - (intOf i).toNat)
  case atStart => exact ⟨0, [], Nat.zero_le _, rfl, Lib.hid HU.out.symm, Nat.le_refl _, HI0, HE0⟩
  case round =>
   obtain ⟨k, acc, hk, rfl, HA, hal, HI, HE⟩ := hrel
   by_cases hlt : k < s.size
   · have hltz : (k : Int) < (s.size : Int) := by omega
     obtain ⟨c0, hcc⟩ : ∃ c0 : UInt8, c0 = s[k]'hlt := ⟨_, rfl⟩
     have hix : ∀ h : k < s.size, (((s[k]'h).toNat : Nat) : Int) = ((c0.toNat : Nat) : Int) := fun _ => by rw [hcc]
     have hc0 : bt s (k : Int) = ((c0.toNat : Nat) : Int) := by
      rw [hcc]
      simp [bt, hlt]
     have hcr := bt_range s (k : Int)
     clear hcc
     have hE : encFrom false s (s.size - k) k = encAt false s k ++ encFrom false s (s.size - (k + 1)) (k + 1) := by
      rw [show s.size - k = (s.size - (k + 1)) + 1 by omega]
      rfl
     have hA := HA.out
     rw [hE] at hA
     have hat : encAt false s k = if (P c0.toNat || (false && isTriplet (s.extract k s.size))) = true then [c0] else (oneB (c0.toNat : Int)).data.toList := by
      unfold encAt staysAt
      rw [hc0, Int.toNat_natCast, ← HPP.out]
      simp
     rw [hat] at hA
     rw [hc0] at hcr
     obtain ⟨hc20, hc21⟩ := hcr
     have d0 := HE.out.s.cell 0 (by omega)
     have d1 := HE.out.s.cell 1 (by omega)
     have d2 := HE.out.s.cell 2 (by omega)
     have d3 := HE.out.s.cell 3 (by omega)
     have HA1 := Lib.hid hA
     clear hat hE hc0 hA HA
     go_wp2_with fail
     have k0 := cell_regrown d0
     have k1 := cell_regrown d1
     have k2 := cell_regrown d2
     have k3 := cell_regrown d3
     cases hst : P c0.toNat with
     | true =>
      have HDB := Lib.hid hst
      have hA := HA1.out
      rw [hst, Bool.true_or, if_pos rfl] at hA
      have HA2 := Lib.hid hA
      clear hst HA1 hA
      refine wp_region_quiet_below (by kernel_rfl) (by kernel_rfl) ?_
      repeat (go_big_quiet_step (exact Calls.regrown_of (chars_Set_Has.calls P ((c0.toNat : Nat) : Int) true _ (by rw [chars_Set_Has.f, if_pos ⟨hc20, hc21⟩, Int.toNat_natCast, HDB.out]))))
      refine wpQuiet_nil ?_
      rintro _ ⟨⟨dq, osq⟩, rfl⟩
      have HE1 := Lib.hid (HE.out.step (below_regrown _ dq osq))
      have HI1 := Lib.hid (HI.out.kept (below_regrown _ dq osq))
      clear HE HI k0 k1 k2 k3 d0 d1 d2 d3
      go_wp2_with (refine (B_WriteByte b acc c0 _ HI1.out (by omega)).mono ?_; rintro e w4 ⟨rfl, hi4, hb4, ho4⟩; have HI4 := Lib.hid hi4; have HE4 := Lib.hid (HE1.out.built hi4 hb4 ho4 hgb hbB); clear hi4 hb4 ho4)
      go_roundw
      case rel => exact ⟨k + 1, acc ++ [c0], hlt, by go_num, Lib.hid (by rw [List.append_assoc]; exact HA2.out), by rw [List.length_append, List.length_singleton]; omega, HI4, HE4⟩
      case measure => simp [intOf]; omega
     | false =>
      have HDB := Lib.hid hst
      have hA := HA1.out
      rw [hst, Bool.false_or] at hA
      rw [Bool.false_and, if_neg (by simp)] at hA
      have HA2 := Lib.hid hA
      clear hst HA1 hA
      have HTr : Hid True := trivial
      refine wp_region_quiet_below (by kernel_rfl) (by kernel_rfl) ?_
      repeat (go_big_quiet_step (first | exact Calls.regrown_of (chars_Set_Has.calls P ((c0.toNat : Nat) : Int) false _ (by rw [chars_Set_Has.f, if_pos ⟨hc20, hc21⟩, Int.toNat_natCast, HDB.out]))))
      refine wpQuiet_nil ?_
      rintro _ ⟨⟨dq, osq⟩, rfl⟩
      have HE1 := Lib.hid (HE.out.step (below_regrown _ dq osq))
      have HI1 := Lib.hid (HI.out.kept (below_regrown _ dq osq))
      clear HE HI k0 k1 k2 k3 d0 d1 d2 d3
      go_wp2_with (first | (refine (pct_One.calls ((c0.toNat : Nat) : Int) (oneB (c0.toNat : Int)) _ (by rw [pct_One.f, if_pos ⟨hc20, hc21⟩]; rfl)).mono ?_; rintro e w3 ⟨rfl, hb3⟩; have HI3 := Lib.hid (HI1.out.kept hb3); have HE3 := Lib.hid (HE1.out.step hb3); clear hb3) | (refine (B_WriteString b acc (oneB (c0.toNat : Int)) _ HI3.out (by have := oneB_length (c0.toNat : Int); have h2 : (oneB (c0.toNat : Int)).data.toList.length = (oneB (c0.toNat : Int)).size := rfl; omega)).mono ?_; rintro e w4 ⟨rfl, hi4, hb4, ho4⟩; have HI4 := Lib.hid hi4; have HE4 := Lib.hid (HE3.out.built hi4 hb4 ho4 hgb hbB); clear hi4 hb4 ho4))
      go_roundw
      case rel => exact ⟨k + 1, acc ++ (oneB (c0.toNat : Int)).data.toList, hlt, by go_num, Lib.hid (by rw [List.append_assoc]; exact HA2.out), by rw [List.length_append, oneB_length]; omega, HI4, HE4⟩
      case measure => simp [intOf]; omega
   · have hk2 : k = s.size := by omega
     subst hk2
     go_wp2_with (refine (B_String b acc _ HI.out).mono ?_; rintro e w2 ⟨rfl, hb2⟩)
     go_ret
     have hA := HA.out
     rw [Nat.sub_self] at hA
     have hA : acc ++ [] = u := hA
     rw [List.append_nil] at hA
     refine ⟨?_, below_weaken HE.out.b hbB hb2⟩
     rw [← HR.out, ← hA]
     rfl
 | true =>
  go_enter Tryz.func53, Tryz.ntmps53
  go_wp2_with fail
  refine (chars_Unreserved.calls _ _ rfl).mono ?_
  rintro e w1 ⟨rfl, hb⟩
  unfold setV
  have hsz1 := hb.size
  obtain ⟨g, hg⟩ : ∃ g, g = w1.heap.size := ⟨_, rfl⟩
  obtain ⟨W, hW⟩ : ∃ W, W = w1.alloc (.cells #[.int .u64 (wd isUnres 0), .int .u64 (wd isUnres 1), .int .u64 (wd isUnres 2), .int .u64 (wd isUnres 3)] 141) := ⟨_, rfl⟩
  have ho0 : W.heap[g]? = some (.cells (setC isUnres) 141 (0, 0)) := by rw [hW, hg]; exact box_new w1 _ _
  have hb0 : Below w.heap.size w W := by rw [hW]; exact below_alloc hb _
  have HE0 : Hid (Enc1 w W g isUnres) := Lib.hid ⟨ho0, hb0, by omega⟩
  clear ho0 hb0 hb
  go_wp2_with fail
  rw [← hW, ← hg]
  clear hW hg hsz1
  have d0 := HE0.out.s.cell 0 (by omega)
  have d1 := HE0.out.s.cell 1 (by omega)
  have d2 := HE0.out.s.cell 2 (by omega)
  have d3 := HE0.out.s.cell 3 (by omega)
  go_region_law (first
   | (refine goes_ Tryz.func85 (by kernel_rfl) rfl #[] (by rfl) rfl rfl (by (try simp only [List.map_toArray, List.map_cons, List.map_nil]); first | done | rfl) ?_; refine (chars_Reserved.calls _ _ rfl).mono ?_; rintro e w2 ⟨rfl, hb2⟩; unfold setV; refine ⟨_, rfl, ?_⟩; have HE2 := Lib.hid ((HE0.out.step (below_drew (Below.refl _ _))).step hb2); clear hb2; have f0 := HE2.out.s.cell 0 (by omega); have f1 := HE2.out.s.cell 1 (by omega); have f2 := HE2.out.s.cell 2 (by omega); have f3 := HE2.out.s.cell 3 (by omega))
   | (refine goes_ Tryz.func84 (by kernel_rfl) rfl #[.slice (some ⟨w2.heap.size, 0, none⟩) 2 2] (by rfl) rfl rfl (by simp [Act.eval, Act.put]) ?_; refine (chars_Union.calls w2.heap.size 2 [isUnres, isResv] (by simp) _ (SetsAt.two w2 _ _ _) (by simp)).mono ?_; rintro e w3 ⟨rfl, hb3⟩; unfold setV; refine ⟨_, rfl, ?_⟩; have HE3 := Lib.hid ((HE2.out.step (below_alloc (Below.refl _ _) _)).step hb3); clear hb3; have g0 := HE3.out.s.cell 0 (by omega); have g1 := HE3.out.s.cell 1 (by omega); have g2 := HE3.out.s.cell 2 (by omega); have g3 := HE3.out.s.cell 3 (by omega); have z0 := HE3.out.s.free 0 (by omega); have z1 := HE3.out.s.free 1 (by omega); have z2 := HE3.out.s.free 2 (by omega); have z3 := HE3.out.s.free 3 (by omega)))
  all_goals
   have HE4 := Lib.hid (HE3.out.put (anyOf [isUnres, isResv]))
   obtain ⟨W4, hW4⟩ : ∃ W, W = (((w3.setCell ⟨g, 0, none⟩ (.int .u64 (wd (anyOf [isUnres, isResv]) 0))).setCell ⟨g, 1, none⟩ (.int .u64 (wd (anyOf [isUnres, isResv]) 1))).setCell ⟨g, 2, none⟩ (.int .u64 (wd (anyOf [isUnres, isResv]) 2))).setCell ⟨g, 3, none⟩ (.int .u64 (wd (anyOf [isUnres, isResv]) 3)) := ⟨_, rfl⟩
   rw [← hW4] at HE4 ⊢
   clear hW4 HE3 HE2 HE0 f0 f1 f2 f3 g0 g1 g2 g3 z0 z1 z2 z3 d0 d1 d2 d3
   have hgb0 := (World.block_lt_of_cell? _ _ (HE4.out.s.cell 0 (by omega)))
   have hgb : g ≠ W4.heap.size := by
    have : g < W4.heap.size := hgb0
    omega
   have hbB : w.heap.size ≤ W4.heap.size := HE4.out.b.size
   have HE0 : Hid (Enc1 w (W4.alloc (.cells #[.pointer none, .slice none 0 0] 100)) g (anyOf [isUnres, isResv])) := Lib.hid (HE4.out.step (below_alloc (Below.refl _ _) _))
   have HI0 : Hid (IsB W4.heap.size [] (W4.alloc (.cells #[.pointer none, .slice none 0 0] 100))) := Lib.hid (Lib.fresh_isBuilder 100 5 W4)
   go_wp2
   obtain ⟨b, hb⟩ : ∃ b, b = W4.heap.size := ⟨_, rfl⟩
   rw [← hb] at HI0 hgb hbB ⊢
   clear hb hgb0 HE4
   obtain ⟨P, hP⟩ : ∃ P, P = stayB true := ⟨_, rfl⟩
   rw [show anyOf [isUnres, isResv] = P from hP.symm] at HE0
   have HPP := Lib.hid hP
   clear hP
   go_loopw [7, 16] (fun _ i wr => ∃ (k : Nat) (acc : List UInt8), k ≤ s.size ∧ i = .int .i64 k ∧ Hid (acc ++ encFrom true s (s.size - k) k = u) ∧ acc.length ≤ 3 * k ∧ Hid (IsB b acc wr) ∧ Hid (Enc1 w wr g P)) (fun _ i _ => s.size - (intOf i).toNat)
   case atStart => exact ⟨0, [], Nat.zero_le _, rfl, Lib.hid HU.out.symm, Nat.le_refl _, HI0, HE0⟩
   case round =>
    obtain ⟨k, acc, hk, rfl, HA, hal, HI, HE⟩ := hrel
    by_cases hlt : k < s.size
    · have hltz : (k : Int) < (s.size : Int) := by omega
      obtain ⟨c0, hcc⟩ : ∃ c0 : UInt8, c0 = s[k]'hlt := ⟨_, rfl⟩
      have hix : ∀ h : k < s.size, (((s[k]'h).toNat : Nat) : Int) = ((c0.toNat : Nat) : Int) := fun _ => by rw [hcc]
      have hc0 : bt s (k : Int) = ((c0.toNat : Nat) : Int) := by
       rw [hcc]
       simp [bt, hlt]
      have hcr := bt_range s (k : Int)
      clear hcc
      have hE : encFrom true s (s.size - k) k = encAt true s k ++ encFrom true s (s.size - (k + 1)) (k + 1) := by
       rw [show s.size - k = (s.size - (k + 1)) + 1 by omega]
       rfl
      have hA := HA.out
      rw [hE] at hA
      have hat : encAt true s k = if (P c0.toNat || (true && isTriplet (s.extract k s.size))) = true then [c0] else (oneB (c0.toNat : Int)).data.toList := by
       unfold encAt staysAt
       rw [hc0, Int.toNat_natCast, ← HPP.out]
       simp
      rw [hat] at hA
      rw [hc0] at hcr
      obtain ⟨hc20, hc21⟩ := hcr
      have d0 := HE.out.s.cell 0 (by omega)
      have d1 := HE.out.s.cell 1 (by omega)
      have d2 := HE.out.s.cell 2 (by omega)
      have d3 := HE.out.s.cell 3 (by omega)
      have HA1 := Lib.hid hA
      clear hat hE hc0 hA HA
      go_wp2_with fail
      have k0 := cell_regrown d0
      have k1 := cell_regrown d1
      have k2 := cell_regrown d2
      have k3 := cell_regrown d3
      cases hst : P c0.toNat with
      | true =>
       have HDB := Lib.hid hst
       have hA := HA1.out
       rw [hst, Bool.true_or, if_pos rfl] at hA
       have HA2 := Lib.hid hA
       clear hst HA1 hA
       refine wp_region_quiet_below (by kernel_rfl) (by kernel_rfl) ?_
       repeat (go_big_quiet_step (exact Calls.regrown_of (chars_Set_Has.calls P ((c0.toNat : Nat) : Int) true _ (by rw [chars_Set_Has.f, if_pos ⟨hc20, hc21⟩, Int.toNat_natCast, HDB.out]))))
       refine wpQuiet_nil ?_
       rintro _ ⟨⟨dq, osq⟩, rfl⟩
       have HE1 := Lib.hid (HE.out.step (below_regrown _ dq osq))
       have HI1 := Lib.hid (HI.out.kept (below_regrown _ dq osq))
       clear HE HI k0 k1 k2 k3 d0 d1 d2 d3
       go_wp2_with (refine (B_WriteByte b acc c0 _ HI1.out (by omega)).mono ?_; rintro e w4 ⟨rfl, hi4, hb4, ho4⟩; have HI4 := Lib.hid hi4; have HE4 := Lib.hid (HE1.out.built hi4 hb4 ho4 hgb hbB); clear hi4 hb4 ho4)
       go_roundw
       case rel => exact ⟨k + 1, acc ++ [c0], hlt, by go_num, Lib.hid (by rw [List.append_assoc]; exact HA2.out), by rw [List.length_append, List.length_singleton]; omega, HI4, HE4⟩
       case measure => simp [intOf]; omega
      | false =>
       have HDB := Lib.hid hst
       have hA := HA1.out
       rw [hst, Bool.false_or] at hA
       rw [Bool.true_and] at hA
       have hEx : (k : Int).toNat = k := Int.toNat_natCast k
       cases htr : isTriplet (s.extract k s.size) with
       | true =>
        have HTr := Lib.hid htr
        rw [htr, if_pos rfl] at hA
        have HA2 := Lib.hid hA
        clear hst HA1 hA htr
        refine wp_region_quiet_below (by kernel_rfl) (by kernel_rfl) ?_
        repeat (go_big_quiet_step (first | exact Calls.regrown_of (chars_Set_Has.calls P ((c0.toNat : Nat) : Int) false _ (by rw [chars_Set_Has.f, if_pos ⟨hc20, hc21⟩, Int.toNat_natCast, HDB.out])) | exact Calls.regrown_of (pct_Triplet_below (s.extract k s.size) true _ HTr.out)))
        refine wpQuiet_nil ?_
        rintro _ ⟨⟨dq, osq⟩, rfl⟩
        have HE1 := Lib.hid (HE.out.step (below_regrown _ dq osq))
        have HI1 := Lib.hid (HI.out.kept (below_regrown _ dq osq))
        clear HE HI k0 k1 k2 k3 d0 d1 d2 d3
        go_wp2_with (refine (B_WriteByte b acc c0 _ HI1.out (by omega)).mono ?_; rintro e w4 ⟨rfl, hi4, hb4, ho4⟩; have HI4 := Lib.hid hi4; have HE4 := Lib.hid (HE1.out.built hi4 hb4 ho4 hgb hbB); clear hi4 hb4 ho4)
        go_roundw
        case rel => exact ⟨k + 1, acc ++ [c0], hlt, by go_num, Lib.hid (by rw [List.append_assoc]; exact HA2.out), by rw [List.length_append, List.length_singleton]; omega, HI4, HE4⟩
        case measure => simp [intOf]; omega
       | false =>
        have HTr := Lib.hid htr
        rw [htr, if_neg (by simp)] at hA
        have HA2 := Lib.hid hA
        clear hst HA1 hA htr
        refine wp_region_quiet_below (by kernel_rfl) (by kernel_rfl) ?_
        repeat (go_big_quiet_step (first | exact Calls.regrown_of (chars_Set_Has.calls P ((c0.toNat : Nat) : Int) false _ (by rw [chars_Set_Has.f, if_pos ⟨hc20, hc21⟩, Int.toNat_natCast, HDB.out])) | exact Calls.regrown_of (pct_Triplet_below (s.extract k s.size) false _ HTr.out)))
        refine wpQuiet_nil ?_
        rintro _ ⟨⟨dq, osq⟩, rfl⟩
        have HE1 := Lib.hid (HE.out.step (below_regrown _ dq osq))
        have HI1 := Lib.hid (HI.out.kept (below_regrown _ dq osq))
        clear HE HI k0 k1 k2 k3 d0 d1 d2 d3
        go_wp2_with (first | (refine (pct_One.calls ((c0.toNat : Nat) : Int) (oneB (c0.toNat : Int)) _ (by rw [pct_One.f, if_pos ⟨hc20, hc21⟩]; rfl)).mono ?_; rintro e w3 ⟨rfl, hb3⟩; have HI3 := Lib.hid (HI1.out.kept hb3); have HE3 := Lib.hid (HE1.out.step hb3); clear hb3) | (refine (B_WriteString b acc (oneB (c0.toNat : Int)) _ HI3.out (by have := oneB_length (c0.toNat : Int); have h2 : (oneB (c0.toNat : Int)).data.toList.length = (oneB (c0.toNat : Int)).size := rfl; omega)).mono ?_; rintro e w4 ⟨rfl, hi4, hb4, ho4⟩; have HI4 := Lib.hid hi4; have HE4 := Lib.hid (HE3.out.built hi4 hb4 ho4 hgb hbB); clear hi4 hb4 ho4))
        go_roundw
        case rel => exact ⟨k + 1, acc ++ (oneB (c0.toNat : Int)).data.toList, hlt, by go_num, Lib.hid (by rw [List.append_assoc]; exact HA2.out), by rw [List.length_append, oneB_length]; omega, HI4, HE4⟩
        case measure => simp [intOf]; omega
    · have hk2 : k = s.size := by omega
      subst hk2
      go_wp2_with (refine (B_String b acc _ HI.out).mono ?_; rintro e w2 ⟨rfl, hb2⟩)
      go_ret
      have hA := HA.out
      rw [Nat.sub_self] at hA
      have hA : acc ++ [] = u := hA
      rw [List.append_nil] at hA
      refine ⟨?_, below_weaken HE.out.b hbB hb2⟩
      rw [← HR.out, ← hA]
      rfl
end Go.Proofs.YtlocbpaikdgmbaaGreatDoor.P
end
section
namespace Go.Proofs.YtlocbpaikdgmbaaGreatDoor.P
open Go Go.RowKit Go.Proofs.YtlocbpaikdgmbaaGreatDoorW.PrintWords Go.Proofs.YtlocbpaikdgmbaaGreatDoorW.PrintLast Go.Proofs.YtlocbpaikdgmbaaGreatDoorW.PrintMore
set_option linter.unusedVariables false
set_option linter.unusedSimpArgs false
def ruleC (R : RuleS) : Array Value := #[.string R.first, .string R.sep, .bool R.named, .string R.empty, .bool R.keep]
def RuleAt (w : World) (q : Nat) (R : RuleS) : Prop := w.heap[q]? = some (.cells (ruleC R) 87 (0, 0))
theorem RuleAt.below {w w' : World} {q : Nat} {R : RuleS} (h : RuleAt w q R) (hb : Below w.heap.size w w') : RuleAt w' q R := box_belowR hb h
def encV (q : Nat) : Value := .func (.func 133) #[] #[.pointer (some ⟨q, 0, none⟩)]
def wayV (R : RuleS) (q : Nat) : Value := .agg #[.string R.first, .string R.sep, .bool R.named, .string R.empty, .bool R.keep, encV q]
theorem piece_of1.calls (s r : ByteArray) (q : Nat) (R : RuleS) (w : World) (hq : RuleAt w q R) (h : pct_Encode.f s R.keep = some r) :
 Calls Tryz.prog 133 #[.string s, .pointer (some ⟨q, 0, none⟩)] w fun e w' => e = .returned (.string r) ∧ Below w.heap.size w w' := by
 have c4 := Lib.cell_of_heap hq 4
 simp only [ruleC, List.getElem?_toArray, List.getElem?_cons_zero, List.getElem?_cons_succ] at c4
 have HE := Lib.hid h
 clear h hq
 go_enter Tryz.func133, Tryz.ntmps133
 go_wp2_with (refine (pct_Encode.calls s R.keep r _ HE.out).mono ?_; rintro e w' ⟨rfl, hb⟩)
 go_ret
 exact ⟨rfl, hb⟩
def piece_of.f (op : Int) : Option (RuleS × Bool) := oper_Of.f op
set_option maxHeartbeats 1600000 in
theorem piece_of.calls (op : Int) (R : RuleS) (b : Bool) (w : World) (h : piece_of.f op = some (R, b)) :
 Calls Tryz.prog 107 #[.int .u8 op] w fun e w' => ∃ q, e = .returned (.tuple #[wayV R q, .bool b]) ∧ RuleAt w' q R ∧ w.heap.size ≤ q ∧ Below w.heap.size w w' := by
 have HO := Lib.hid (show oper_Of.f op = some (R, b) from h)
 clear h
 have hbx := box_newR w #[.string ⟨#[]⟩, .string ⟨#[]⟩, .bool false, .string ⟨#[]⟩, .bool false, .nilFunc] 162
 have hb0 : Below w.heap.size w (w.alloc (.cells #[.string ⟨#[]⟩, .string ⟨#[]⟩, .bool false, .string ⟨#[]⟩, .bool false, .nilFunc] 162)) := (Below.refl _ _).alloc (Nat.le_refl _) _
 obtain ⟨g, hg⟩ : ∃ g, g = w.heap.size := ⟨_, rfl⟩
 rw [← hg] at hbx
 have hgw : w.heap.size ≤ g := by rw [hg]; exact Nat.le_refl _
 have HG := Lib.hid hg
 have HX := Lib.hid hbx
 have HB0 := Lib.hid hb0
 clear hg hbx hb0
 go_enter Tryz.func107, Tryz.ntmps107
 go_wp2_with (first
  | (go_at_call 49; refine (oper_Of.calls op R b _ HO.out).mono ?_; rintro e w1 ⟨rfl, hb⟩; rw [← HG.out]; have HX1 := Lib.hid (box_belowR hb HX.out); have HB1 := Lib.hid (below_step HB0.out hb); clear hb; unfold valR)
  | ((with_reducible refine gate_dst (N := 12) rfl ?_); obtain ⟨W2, hW2⟩ : ∃ W, W = w1.alloc (.cells (ruleC R) 87) := ⟨_, rfl⟩; obtain ⟨q, hq⟩ : ∃ q, q = w1.heap.size := ⟨_, rfl⟩; have hx2 := box_belowR ((Below.refl _ _).alloc (Nat.le_refl _) (.cells (ruleC R) 87)) HX1.out; have hq2 := box_newR w1 (ruleC R) 87; have hb2 := below_alloc HB1.out (.cells (ruleC R) 87); have hqw : w.heap.size ≤ q := (by rw [hq]; exact HB1.out.size); have hne : q ≠ g := (by have := (Array.getElem?_eq_some_iff.1 HX1.out).1; omega); rw [← hW2] at hx2 hq2 hb2; rw [← hq] at hq2; unfold ruleC at hW2; rw [← hW2, ← hq]; have HX2 := Lib.hid hx2; have HQ2 := Lib.hid hq2; have HB2 := Lib.hid hb2; clear hW2 hq hx2 hq2 hb2)
  | (refine wpList_store_box rfl 162 (.tmp 2) (.tmp 13) rfl g 162 #[.string ⟨#[]⟩, .string ⟨#[]⟩, .bool false, .string ⟨#[]⟩, .bool false, .nilFunc] #[.string R.first, .string R.sep, .bool R.named, .string R.empty, .bool R.keep, encV q] (by rfl) (by rfl) HX2.out (by rfl) (by kernel_rfl) (by simp [Value.oneCell', encV]) ?_; intro w3 hx3 hgr hsz; have HX3 := Lib.hid hx3; have HQ3 : Hid (RuleAt w3 q R) := Lib.hid ((hgr.block _ (Array.getElem?_eq_some_iff.1 HQ2.out).1 (by intro e; injection e with e; exact hne e)).trans HQ2.out); have HB3 := Lib.hid (below_grown HB2.out hgw hgr (Array.getElem?_eq_some_iff.1 HX2.out).1); clear hx3 hgr hsz))
 refine bodyPost_ret (results_ct rfl _ _ g 162 #[.string R.first, .string R.sep, .bool R.named, .string R.empty, .bool R.keep, encV q] (0, 0) _ rfl HX3.out Tryz.underlying162 rfl (by kernel_rfl)) rfl ?_
 exact ⟨q, rfl, HQ3.out, hqw, HB3.out⟩
def namedB (R : RuleS) (name s : ByteArray) : ByteArray := if s.toList = [] then name ++ R.empty else (name ++ ⟨#[61]⟩) ++ s
def maybeB (R : RuleS) (name s : ByteArray) : ByteArray := if R.named = true then namedB R name s else s
theorem way_named (R : RuleS) (q : Nat) (name s : ByteArray) (w : World) (h1 : name.size ≤ 1099511627776) (h2 : s.size ≤ 1099511627776) (h3 : R.empty.size ≤ 1099511627776) :
 Calls Tryz.prog 163 #[wayV R q, .string name, .string s] w fun e w' => e = .returned (.string (namedB R name s)) ∧ Below w.heap.size w w' := by
 unfold wayV encV
 have e1 : (name ++ (⟨#[61]⟩ : ByteArray)).size = name.size + 1 := by rw [ByteArray.size_append]; rfl
 go_enter Tryz.func163, Tryz.ntmps163
 by_cases hs : s.toList = []
 · have hr : namedB R name s = name ++ R.empty := if_pos hs
   rw [hr]
   clear hr
   go_wp2
   go_ret
   exact ⟨rfl, (Below.refl _ _).alloc (Nat.le_refl _) _⟩
 · have hr : namedB R name s = (name ++ ⟨#[61]⟩) ++ s := if_neg hs
   rw [hr]
   clear hr
   have he : s.toList.isEmpty = false := by simpa using hs
   go_wp2
   go_ret
   exact ⟨rfl, (Below.refl _ _).alloc (Nat.le_refl _) _⟩
theorem way_maybe (R : RuleS) (q : Nat) (name s : ByteArray) (w : World) (h1 : name.size ≤ 1099511627776) (h2 : s.size ≤ 1099511627776) (h3 : R.empty.size ≤ 1099511627776) :
 Calls Tryz.prog 139 #[wayV R q, .string name, .string s] w fun e w' => e = .returned (.string (maybeB R name s)) ∧ Below w.heap.size w w' := by
 have hcon := way_named R q name s
 unfold wayV encV at hcon ⊢
 have HC := Lib.hid hcon
 clear hcon
 cases hn : R.named with
 | true =>
  rw [show maybeB R name s = namedB R name s from if_pos hn]
  rw [hn] at HC
  generalize namedB R name s = N at HC ⊢
  clear hn
  go_enter Tryz.func139, Tryz.ntmps139
  go_wp2_with (refine (HC.out _ h1 h2 h3).mono ?_; rintro e w' ⟨rfl, hb⟩)
  go_ret
  exact ⟨rfl, below_step ((Below.refl _ _).alloc (Nat.le_refl _) _) hb⟩
 | false =>
  rw [show maybeB R name s = s from if_neg (by rw [hn]; simp)]
  go_enter Tryz.func139, Tryz.ntmps139
  go_wp2
  go_ret
  exact ⟨rfl, (Below.refl _ _).alloc (Nat.le_refl _) _⟩
theorem RuleAt.regrown {w : World} {q : Nat} {R : RuleS} (h : RuleAt w q R) (d : Nat) (os : Array Obj) : RuleAt (Go.Sort.grow (redrawn w d) os) q R := h.below (below_regrown w d os)
def wayC (R : RuleS) (q : Nat) : Array Value := #[.string R.first, .string R.sep, .bool R.named, .string R.empty, .bool R.keep, encV q]
def specC (name : ByteArray) (max : Int) (star : Bool) : Array Value := #[.string name, .int .i64 max, .bool star]
def way_text.f (R : RuleS) (name : ByteArray) (max : Int) (s : ByteArray) : Option ByteArray :=
 (if max > 0 then utf_Prefix.f s max else some s).bind fun p => (pct_Encode.f p R.keep).bind fun e => if name.size ≤ 1099511627776 ∧ e.size ≤ 1099511627776 ∧ R.empty.size ≤ 1099511627776 then some (maybeB R name e) else none
set_option maxHeartbeats 2000000 in
set_option maxRecDepth 10000 in
theorem way_text.calls (R : RuleS) (q : Nat) (name : ByteArray) (max : Int) (star : Bool) (s r : ByteArray) (w : World) (hq : RuleAt w q R) (h : way_text.f R name max s = some r) :
 Calls Tryz.prog 110 #[wayV R q, .agg #[.string name, .int .i64 max, .bool star], .string s] w fun e w' => e = .returned (.string r) ∧ Below w.heap.size w w' := by
 unfold way_text.f at h
 obtain ⟨p, hp, h⟩ := Option.bind_eq_some_iff.1 h
 obtain ⟨e, he, h⟩ := Option.bind_eq_some_iff.1 h
 split at h
 case isFalse => cases h
 rename_i hsz
 obtain ⟨s1, s2, s3⟩ := hsz
 injection h with h
 have HR := Lib.hid h
 have HE := Lib.hid he
 have hM := fun W => way_maybe R q name e W s1 s2 s3
 unfold wayV encV at hM
 have HM := Lib.hid hM
 clear hM
 generalize maybeB R name e = M at HM HR
 clear h he s1 s2 s3
 have hb0 : Below w.heap.size w ((w.alloc (.cells (wayC R q) 162)).alloc (.cells (specC name max star) 55)) := ((Below.refl _ _).alloc (Nat.le_refl _) _).alloc (by simp) _
 have hx0 := box_belowR ((Below.refl _ _).alloc (Nat.le_refl _) (.cells (specC name max star) 55)) (box_newR w (wayC R q) 162)
 have hy0 := box_newR (w.alloc (.cells (wayC R q) 162)) (specC name max star) 55
 rw [World.size_alloc] at hy0
 have hq0 : RuleAt _ q R := hq.below hb0
 have HB0 := Lib.hid hb0
 have HX0 := Lib.hid hx0
 have HY0 := Lib.hid hy0
 have HQ0 := Lib.hid hq0
 clear hb0 hx0 hy0 hq0 hq
 unfold wayV
 go_enter Tryz.func110, Tryz.ntmps110
 by_cases hm : max > 0
 · rw [if_pos hm] at hp
   have HP := Lib.hid hp
   clear hp
   go_wp2_with (go_at_call 138; refine (utf_Prefix.calls s max p _ HP.out).mono ?_; rintro e w1 ⟨rfl, hb⟩; have HB1 := Lib.hid (below_step HB0.out hb); have HX1 := Lib.hid (box_belowR hb HX0.out); have HY1 := Lib.hid (box_belowR hb HY0.out); have HQ1 := Lib.hid (HQ0.out.below hb); clear hb)
   have c0 := Lib.cell_of_heap HX1.out 0
   have c1 := Lib.cell_of_heap HX1.out 1
   have c2 := Lib.cell_of_heap HX1.out 2
   have c3 := Lib.cell_of_heap HX1.out 3
   have c4 := Lib.cell_of_heap HX1.out 4
   have c5 := Lib.cell_of_heap HX1.out 5
   have d0 := Lib.cell_of_heap HY1.out 0
   simp only [wayC, specC, encV, List.getElem?_toArray, List.getElem?_cons_zero, List.getElem?_cons_succ] at c0 c1 c2 c3 c4 c5 d0
   have k0 := cell_regrown c0
   have k1 := cell_regrown c1
   have k2 := cell_regrown c2
   have k3 := cell_regrown c3
   have k4 := cell_regrown c4
   have k5 := cell_regrown c5
   have m0 := cell_regrown d0
   refine wp_region_quiet_below (by kernel_rfl) (by kernel_rfl) ?_
   repeat (go_big_quiet_step (first | exact Calls.regrown_of (piece_of1.calls p e q R _ (HQ1.out.regrown _ _) HE.out) | exact Calls.regrown_of (HM.out _)))
   refine wpQuiet_nil ?_
   rintro _ ⟨⟨dq, osq⟩, rfl⟩
   have HB2 := Lib.hid (below_step HB1.out (below_regrown _ dq osq))
   go_wp2
   go_ret
   exact ⟨by rw [← HR.out]; rfl, HB2.out⟩
 · rw [if_neg hm] at hp
   injection hp with hp
   subst hp
   have HB1 := HB0
   have HX1 := HX0
   have HY1 := HY0
   have HQ1 := HQ0
   go_wp2
   obtain ⟨w1, hw1⟩ : ∃ W, W = (w.alloc (.cells (wayC R q) 162)).alloc (.cells (specC name max star) 55) := ⟨_, rfl⟩
   rw [← hw1] at HB1 HX1 HY1 HQ1
   unfold wayC specC at hw1
   rw [← hw1]
   clear hw1 HB0 HX0 HY0 HQ0
   have c0 := Lib.cell_of_heap HX1.out 0
   have c1 := Lib.cell_of_heap HX1.out 1
   have c2 := Lib.cell_of_heap HX1.out 2
   have c3 := Lib.cell_of_heap HX1.out 3
   have c4 := Lib.cell_of_heap HX1.out 4
   have c5 := Lib.cell_of_heap HX1.out 5
   have d0 := Lib.cell_of_heap HY1.out 0
   simp only [wayC, specC, encV, List.getElem?_toArray, List.getElem?_cons_zero, List.getElem?_cons_succ] at c0 c1 c2 c3 c4 c5 d0
   have k0 := cell_regrown c0
   have k1 := cell_regrown c1
   have k2 := cell_regrown c2
   have k3 := cell_regrown c3
   have k4 := cell_regrown c4
   have k5 := cell_regrown c5
   have m0 := cell_regrown d0
   refine wp_region_quiet_below (by kernel_rfl) (by kernel_rfl) ?_
   repeat (go_big_quiet_step (first | exact Calls.regrown_of (piece_of1.calls s e q R _ (HQ1.out.regrown _ _) HE.out) | exact Calls.regrown_of (HM.out _)))
   refine wpQuiet_nil ?_
   rintro _ ⟨⟨dq, osq⟩, rfl⟩
   have HB2 := Lib.hid (below_step HB1.out (below_regrown _ dq osq))
   go_wp2
   go_ret
   exact ⟨by rw [← HR.out]; rfl, HB2.out⟩
end Go.Proofs.YtlocbpaikdgmbaaGreatDoor.P
end
section
namespace Go.Proofs.YtlocbpaikdgmbaaGreatDoor.P
open Go.RowKit Go.Proofs Go.Proofs.YtlocbpaikdgmbaaGreatDoorW.PrintWords Go.Proofs.YtlocbpaikdgmbaaGreatDoorW.PrintLast Go.Proofs.YtlocbpaikdgmbaaGreatDoorW.PrintMore
set_option linter.unusedVariables false
set_option linter.unusedSimpArgs false
set_option maxHeartbeats 2000000 in
set_option maxRecDepth 1000000 in
theorem builder_grow (b n : Nat) (w : World) (hbk : w.heap[b]? = some (.cells #[.pointer (some ⟨b, 0, none⟩), .slice none 0 0] 100 (0, 0))) (hn : n ≤ 281474976710656) :
 Calls Tryz.prog 113 #[.pointer (some ⟨b, 0, none⟩), .int .i64 n] w fun e w' => e = .returned (.tuple #[]) ∧ IsB b [] w' ∧ Below b w w' := by
 have hlt : b < w.heap.size := (Array.getElem?_eq_some_iff.1 hbk).1
 obtain ⟨cs, hrun, hle, hmax⟩ := Lib.run_makeNoZero (P := Tryz.prog) w.drew #[3] 98 5 Tryz.underlying98 n hn
 have hw : IntKind.i64.wrap (IntKind.i64.wrap 0 + (n : Int)) = n := by
  rw [IntKind.wrap_i64, IntKind.wrap_i64]
  omega
 have hcall : (callFunc 143 #[.int .i64 (IntKind.i64.wrap (IntKind.i64.wrap 0 + (n : Int)))]).run Tryz.prog w.drew = .ok (.value (.slice (some ⟨w.drew.heap.size, 0, none⟩) n cs.size)) (w.drew.drew.drew.alloc (.cells cs 5)) := by
  rw [hw, run_callFunc_extern Tryz.func143 (by kernel_rfl) (by kernel_rfl) (by kernel_rfl) (e := Extern.BytealgMakeNoZero.makeNoZero #[3] #[98]) (by kernel_rfl), hrun]
  rfl
 have c1 : w.drew.cell? ⟨b, 1, none⟩ = some (.slice none 0 0) := by
  have : w.drew.heap[b]? = _ := hbk
  rw [Lib.cell_of_heap this]; rfl
 have hb2 : (w.alloc (.cells cs 5)).heap[b]? = some (.cells #[.pointer (some ⟨b, 0, none⟩), .slice none 0 0] 100 (0, 0)) := (Lib.alloc_old w _ b hlt).trans hbk
 have c2 : (w.alloc (.cells cs 5)).cell? ⟨b, 1, none⟩ = some (.slice none 0 0) := by
  rw [Lib.cell_of_heap hb2]; rfl
 have f2 : (w.alloc (.cells cs 5)).frozen? ⟨b, 1, none⟩ = false := Lib.frozen_of_heap hb2 1
 have hcopy : ∀ W : World, (Builtin.copy_ #[98, 98] 3 #[.slice (some ⟨w.heap.size, 0, none⟩) 0 cs.size, .slice none 0 0]).run Tryz.prog W = .ok (goInt 0) W :=
  fun W => run_copy_none W 98 98 3 5 _ _ 0 cs.size 0 0 Tryz.underlying98 (builder_extra.sizeByte) rfl
 clear hw
 have hfin := Lib.grown_fresh (T := 100) (e := 5) (cs := cs) (Nat.le_refl b) hbk (Nat.le_of_lt hlt) (hmax (by unfold maxLen; omega)) (by decide)
 rw [World.setCell_alloc_past _ b 1 _ hlt] at hfin
 have HF := Lib.hid hfin
 clear hfin
 go_enter Tryz.func113, Tryz.ntmps113
 go_wp2
 go_region_held3 (fun w' => w'.cell? ⟨b, 1, none⟩ = some (.slice none 0 0)) (go_keep) (fail)
 all_goals (go_wp2; go_end0; exact ⟨rfl, .inr HF.out.1, HF.out.2⟩)
set_option maxHeartbeats 2000000 in
set_option maxRecDepth 1000000 in
theorem builder_Grow (b n : Nat) (w : World) (hbk : w.heap[b]? = some (.cells #[.pointer none, .slice none 0 0] 100 (0, 0))) (hn : n ≤ 281474976710656) :
 Calls Tryz.prog 82 #[.pointer (some ⟨b, 0, none⟩), .int .i64 n] w fun e w' => e = .returned (.tuple #[]) ∧ IsB b [] w' ∧ Below b w w' := by
 have hlt : b < w.heap.size := (Array.getElem?_eq_some_iff.1 hbk).1
 have hbk1 : (w.setCell ⟨b, 0, none⟩ (.pointer (some ⟨b, 0, none⟩))).heap[b]? = some (.cells #[.pointer (some ⟨b, 0, none⟩), .slice none 0 0] 100 (0, 0)) := by
  simp [World.setCell, Array.getElem?_modify, hbk]
 have c1 : (w.setCell ⟨b, 0, none⟩ (.pointer (some ⟨b, 0, none⟩))).cell? ⟨b, 1, none⟩ = some (.slice none 0 0) := by rw [Lib.cell_of_heap hbk1]; rfl
 have hb1 : Below b w (w.setCell ⟨b, 0, none⟩ (.pointer (some ⟨b, 0, none⟩))) := (Below.refl b w).setCell (p := ⟨b, 0, none⟩) (Nat.le_refl _) _
 have hU : Lib.BuilderAt 100 5 b b (.pointer (some ⟨b, 0, none⟩)) [] (w.setCell ⟨b, 0, none⟩ (.pointer (some ⟨b, 0, none⟩))) := ⟨Nat.le_refl _, .slice none 0 0, hbk1, World.ownsRow_nil _ _ _ _, by simp [Value.ownBlock]⟩
 have c1' : (w.setCell ⟨b, 0, none⟩ (.pointer (some ⟨b, 0, none⟩))).drew.cell? ⟨b, 1, none⟩ = some (.slice none 0 0) := c1
 obtain ⟨W, hW⟩ : ∃ W, W = w.setCell ⟨b, 0, none⟩ (.pointer (some ⟨b, 0, none⟩)) := ⟨_, rfl⟩
 rw [← hW] at hbk1 c1 hb1 hU c1'
 have HW := Lib.hid hW
 have HK := Lib.hid hbk
 have HU := Lib.hid hU
 have HK1 := Lib.hid hbk1
 clear hW hbk hU hbk1
 go_enter Tryz.func82, Tryz.ntmps82
 go_wp2_with (refine (builder_fresh b w (by rw [Lib.cell_of_heap HK.out]; rfl) (by simp [World.shape?, HK.out]) (Lib.frozen_of_heap HK.out 0)).mono ?_; rintro e w' ⟨rfl, rfl⟩; rw [← HW.out])
 have k1 := cell_regrown c1
 refine wp_region_quiet_below (by kernel_rfl) (by kernel_rfl) ?_
 repeat (go_big_quiet_step (fail))
 refine wpQuiet_nil ?_
 rintro _ ⟨⟨dq, osq⟩, rfl⟩
 have hB := below_regrown W dq osq
 have hKq : (Go.Sort.grow (redrawn W dq) osq).heap[b]? = some (.cells #[.pointer (some ⟨b, 0, none⟩), .slice none 0 0] 100 (0, 0)) := box_below hB HK1.out
 have hUq : IsB b [] (Go.Sort.grow (redrawn W dq) osq) := IsB.kept (.inr HU.out) hB
 have hBq : Below b w (Go.Sort.grow (redrawn W dq) osq) := hb1.trans (hB.mono (by have := (Array.getElem?_eq_some_iff.1 HK1.out).1; omega))
 obtain ⟨Wq, hWq⟩ : ∃ V, V = Go.Sort.grow (redrawn W dq) osq := ⟨_, rfl⟩
 rw [← hWq] at hKq hUq hBq ⊢
 have HKq := Lib.hid hKq
 have HUq := Lib.hid hUq
 clear hWq hB hKq hUq k1 c1 c1'
 go_wp2_with (refine (builder_grow b n Wq HKq.out hn).mono ?_; rintro e w' ⟨rfl, h1, h2⟩)
 all_goals first
  | (go_end0; exact ⟨rfl, h1, hBq.trans h2⟩)
  | (go_end0; exact ⟨rfl, HUq.out, hBq⟩)
def joinB (l : List ByteArray) (sep : ByteArray) : List UInt8 := Lib.join (l.map (·.data.toList)) sep.data.toList
def strings_Join.f (l : List ByteArray) (sep : ByteArray) : Option ByteArray := if l.length ≤ 1099511627776 ∧ (joinB l sep).length ≤ 1099511627776 then some ⟨(joinB l sep).toArray⟩ else none
theorem join_at {l : List ByteArray} {k : Nat} (h : k < l.length) : ∃ y, rdOf ByteArray.empty l (k : Int) = y ∧ l[k]? = some y := by
 refine ⟨l[k], ?_, List.getElem?_eq_getElem h⟩
 unfold rdOf
 rw [Int.toNat_natCast, List.getD_eq_getElem?_getD, List.getElem?_eq_getElem h]
 rfl
set_option maxHeartbeats 4000000 in
set_option maxRecDepth 100000 in
theorem strings_Join_many (a : Addr) (c : Nat) (x0 : ByteArray) (r : List ByteArray) (sep : ByteArray) (w : World) (hC : Kd.C Kd.string w (some a) (x0 :: r).length (x0 :: r)) (hc : (x0 :: r).length ≤ c) (h2 : 1 ≤ r.length)
 (hN : (x0 :: r).length ≤ 1099511627776) (hlen : (joinB (x0 :: r) sep).length ≤ 1099511627776) :
 Calls Tryz.prog 51 #[.slice (some a) (x0 :: r).length c, .string sep] w fun e w' => e = .returned (.string ⟨(joinB (x0 :: r) sep).toArray⟩) ∧ Below w.heap.size w w' := by
 obtain ⟨xs, hxs⟩ : ∃ xs, xs = x0 :: r := ⟨_, rfl⟩
 rw [← hxs] at hC hc hN hlen ⊢
 have hl2 : 2 ≤ xs.length := by rw [hxs, List.length_cons]; omega
 have hjl : sep.size * (xs.length - 1) + Lib.lens (xs.map (·.data.toList)) ≤ 1099511627776 := by
  have := Lib.join_length x0.data.toList (r.map (·.data.toList)) sep.data.toList
  unfold joinB at hlen
  rw [hxs] at hlen ⊢
  simp only [List.map_cons] at hlen ⊢
  rw [this, List.length_map] at hlen
  rw [Lib.size_eq, List.length_cons, Nat.add_sub_cancel]
  exact hlen
 have hmul : sep.size * (xs.length - 1) ≤ 1099511627776 := by omega
 generalize hM : sep.size * (xs.length - 1) = M at hjl hmul
 have hcast : ((xs.length : Int) - 1) = ((xs.length - 1 : Nat) : Int) := by omega
 have hlt : sep.size < 9223372036854775807 / (xs.length - 1) := by
  have : sep.size + 1 ≤ 9223372036854775807 / (xs.length - 1) := by
   rw [Nat.le_div_iff_mul_le (by omega), Nat.add_mul, hM]
   omega
  omega
 have hdv : ¬ (9223372036854775807 / ((xs.length : Int) - 1) ≤ (sep.size : Int)) := by
  have e : (9223372036854775807 : Int) / ((xs.length - 1 : Nat) : Int) = ((9223372036854775807 / (xs.length - 1) : Nat) : Int) := IntWalk.up_div (x := 9223372036854775807) rfl rfl
  rw [hcast, e]
  generalize 9223372036854775807 / (xs.length - 1) = q at hlt
  omega
 have hprod : wrap64 ((sep.size : Int) * ((xs.length : Int) - 1)) = (M : Int) := by
  have e : (sep.size : Int) * ((xs.length - 1 : Nat) : Int) = ((sep.size * (xs.length - 1) : Nat) : Int) := IntWalk.up_mul rfl rfl
  rw [hcast, e, hM]
  exact IntWalk.wrap64_in _ ⟨by omega, by omega⟩
 have hM0 : sep.size = 0 → M = 0 := fun h => by rw [← hM, h, Nat.zero_mul]
 clear hlt hcast
 have hne0 : ((xs.length : Int) == 0) = false := beq_eq_false_iff_ne.2 (by omega)
 have hne1 : ((xs.length : Int) == 1) = false := beq_eq_false_iff_ne.2 (by omega)
 have HC := Lib.hid hC
 have Hxs := Lib.hid hxs
 have Hlen := Lib.hid hlen
 clear hC hxs hlen hM
 go_enter Tryz.func51, Tryz.ntmps51
 go_wp2_with fail
 all_goals
  go_loopw [5, 7, 41] (fun n _ i wr => ∃ k : Nat, k ≤ xs.length ∧ i = .int .i64 k ∧ wr = w ∧ n = .int .i64 ((M + Lib.lens ((xs.map (·.data.toList)).take k) : Nat) : Int)) (fun _ _ i _ => xs.length - (intOf i).toNat)
  case atStart => exact ⟨0, Nat.zero_le _, rfl, rfl, by first | (simp [Lib.lens]; done) | (have := hM0 (by omega); simp [Lib.lens, this])⟩
  case round =>
   obtain ⟨k, hk, rfl, hww, rfl⟩ := hrel
   have hww := hww.symm
   subst hww
   by_cases hkn : k < xs.length
   · have hknz : (k : Int) < (xs.length : Int) := by omega
     obtain ⟨ad, ha, x0c⟩ := Kd.at_string HC.out (k : Int) (by omega) hknz
     injection ha with ha
     subst ha
     obtain ⟨x, hx1, hx⟩ := join_at hkn
     rw [hx1] at x0c
     simp only [Int.toNat_natCast] at x0c
     have hstep := Lib.lens_take_succ (xs.map (·.data.toList)) k x.data.toList (by simp [hx])
     have hbound : Lib.lens ((xs.map (·.data.toList)).take (k + 1)) ≤ Lib.lens (xs.map (·.data.toList)) := Lib.lens_take_le _ _
     rw [← Lib.size_eq] at hstep
     generalize hA1 : Lib.lens ((xs.map (·.data.toList)).take (k + 1)) = A1 at hstep hbound
     generalize Lib.lens ((xs.map (·.data.toList)).take k) = A0 at hstep
     have HA1 := Lib.hid hA1
     clear hA1 hx hx1
     go_wp2
     go_roundw
     case rel => exact ⟨k + 1, by omega, by go_num, by first | trivial | rfl, by rw [HA1.out]; refine congrArg _ ?_; omega⟩
     case measure => simp [intOf]; omega
   · have hke : k = xs.length := by omega
     subst hke
     have hall : (xs.map (·.data.toList)).take xs.length = xs.map (·.data.toList) := List.take_of_length_le (by simp)
     rw [hall]
     generalize hT : Lib.lens (xs.map (·.data.toList)) = T at hjl
     have HT := Lib.hid hT
     clear hT hall
     go_wp2_with fail
     have hMT : ((M : Int) + (T : Int)) = ((M + T : Nat) : Int) := by omega
     rw [hMT]
     refine (builder_Grow w.heap.size (M + T) _ (heap_alloc_new w _) (by omega)).mono ?_
     rintro e w1 ⟨rfl, h1, hb1⟩
     have hb1' : Below w.heap.size w w1 := ((Below.refl w.heap.size w).alloc (Nat.le_refl _) _).trans hb1
     have hn0 : (0 : Int) < (xs.length : Int) := by omega
     have hrl : r.length = xs.length - 1 := by rw [Hxs.out]; simp
     obtain ⟨ad, ha, hc0⟩ := Kd.at_string (Kd.C_below HC.out hb1') 0 (by omega) hn0
     injection ha with ha
     subst ha
     have hx0 : rdOf ByteArray.empty xs 0 = x0 := by rw [Hxs.out]; rfl
     rw [hx0] at hc0
     rw [show (0 : Int).toNat = 0 from rfl, Addr.add_zero'] at hc0
     have H1 := Lib.hid h1
     have Hb1 := Lib.hid hb1'
     obtain ⟨b, hbb⟩ : ∃ b, b = w.heap.size := ⟨_, rfl⟩
     have hBw1 : b ≤ w1.heap.size := by rw [hbb]; exact hb1'.size
     clear h1 hb1 hb1' hMT
     have hwhole : joinB xs sep = x0.data.toList ++ Lib.joinTail sep.data.toList (r.map (·.data.toList)) := by
      unfold joinB
      rw [Hxs.out, List.map_cons, Lib.join_cons]
     have hCle : ∀ k, (x0.data.toList ++ Lib.joinTail sep.data.toList ((r.map (·.data.toList)).take k)).length ≤ 1099511627776 := fun k => by
      have h1 := Hlen.out
      rw [hwhole, List.length_append] at h1
      have h2 := Lib.joinTail_take_le sep.data.toList (r.map (·.data.toList)) k
      rw [List.length_append]
      omega
     have HCle := Lib.hid hCle
     have Hwhole := Lib.hid hwhole
     have hx0s : x0.size ≤ 1099511627776 := by
      have := hCle 0
      rw [List.length_append] at this
      have e : x0.data.toList.length = x0.size := rfl
      omega
     clear hCle hwhole
     go_wp2_with fail
     rw [← hbb]
     rw [← hbb] at H1
     have Hbb := Lib.hid hbb
     clear hbb
     refine (B_WriteString b [] x0 w1 H1.out (by simp only [List.length_nil]; omega)).mono ?_
     rintro e w2 ⟨rfl, h2', hb2, -⟩
     have hstart : ([] : List UInt8) ++ x0.data.toList = x0.data.toList ++ Lib.joinTail sep.data.toList ((r.map (·.data.toList)).take 0) := by
      simp [Lib.joinTail]
     rw [hstart] at h2'
     have H2 := Lib.hid h2'
     have Hb2 : Hid (Below w.heap.size w w2) := Lib.hid (Hb1.out.trans (by rw [← Hbb.out]; exact hb2))
     clear h2' hb2 hstart
     go_wp2_with fail
     go_loopw [10, 65] (fun _ i wr => ∃ k : Nat, k ≤ r.length ∧ i = .int .i64 k ∧ Hid (IsB b (x0.data.toList ++ Lib.joinTail sep.data.toList ((r.map (·.data.toList)).take k)) wr) ∧ Hid (Below w.heap.size w wr)) (fun _ i _ => r.length - (intOf i).toNat)
     case atStart => exact ⟨0, Nat.zero_le _, rfl, H2, Hb2⟩
     case round =>
      obtain ⟨k, hk', rfl, HB, HW⟩ := hrel
      by_cases hkr : k < r.length
      · obtain ⟨y, hy⟩ : ∃ y, r[k]? = some y := ⟨r[k], List.getElem?_eq_getElem hkr⟩
        have hk1 : k + 1 < xs.length := by omega
        have hk1z : ((k + 1 : Nat) : Int) < (xs.length : Int) := by omega
        obtain ⟨ad, ha, hcy⟩ := Kd.at_string (Kd.C_below HC.out HW.out) ((k + 1 : Nat) : Int) (by omega) hk1z
        injection ha with ha
        subst ha
        obtain ⟨y', hy1, hy2⟩ := join_at hk1
        have hyy : y' = y := by
         rw [Hxs.out, List.getElem?_cons_succ, hy] at hy2
         exact (Option.some.inj hy2).symm
        subst hyy
        rw [hy1, Int.toNat_natCast, Nat.add_comm] at hcy
        have hcy2 : wr.cell? ⟨a.block, a.off + 1 + k, none⟩ = some (.string y') := by
         rw [← hcy]
         unfold Addr.add
         split <;> simp_all [Nat.add_assoc]
        have hnext : (x0.data.toList ++ Lib.joinTail sep.data.toList ((r.map (·.data.toList)).take k)) ++ sep.data.toList ++ y'.data.toList = x0.data.toList ++ Lib.joinTail sep.data.toList ((r.map (·.data.toList)).take (k + 1)) := by
         rw [Lib.joinTail_take_succ sep.data.toList (r.map (·.data.toList)) k y'.data.toList (by simp [hy])]
         simp only [List.append_assoc]
        have hl1 := HCle.out (k + 1)
        rw [← hnext] at hl1
        simp only [List.length_append, ← Lib.size_eq] at hl1
        have hl0 : (x0.data.toList ++ Lib.joinTail sep.data.toList ((r.map (·.data.toList)).take k)).length = x0.size + (Lib.joinTail sep.data.toList ((r.map (·.data.toList)).take k)).length := by
         rw [List.length_append, ← Lib.size_eq]
        generalize (Lib.joinTail sep.data.toList ((r.map (·.data.toList)).take k)).length = J at hl0 hl1
        have Hn := Lib.hid hnext
        clear hnext hy hy1 hy2
        go_wp2_with fail
        refine (B_WriteString b _ sep wr HB.out (by rw [hl0]; omega)).mono ?_
        rintro e w3 ⟨rfl, h3, hb3, -⟩
        have H3 := Lib.hid h3
        have Hb3 := Lib.hid hb3
        clear h3 hb3
        go_wp2_with fail
        refine (B_WriteString b _ y' w3 H3.out (by rw [List.length_append, hl0, ← Lib.size_eq]; omega)).mono ?_
        rintro e w4 ⟨rfl, h4, hb4, -⟩
        rw [Hn.out] at h4
        have H4 := Lib.hid h4
        have Hb4 : Hid (Below w.heap.size w w4) := Lib.hid ((HW.out.trans (by rw [← Hbb.out]; exact Hb3.out)).trans (by rw [← Hbb.out]; exact hb4))
        clear h4 hb4
        go_wp2
        go_roundw
        case rel => exact ⟨k + 1, by omega, by go_num, H4, Hb4⟩
        case measure => simp [intOf]; omega
      · have hke : k = r.length := by omega
        subst hke
        have hfull : (r.map (·.data.toList)).take r.length = r.map (·.data.toList) := List.take_of_length_le (by simp)
        have hB' := HB.out
        rw [hfull, ← Hwhole.out] at hB'
        go_wp2_with fail
        refine (B_String b _ wr hB').mono ?_
        rintro e w5 ⟨rfl, hb5⟩
        have Hb5 : Hid (Below w.heap.size w w5) := Lib.hid (HW.out.trans (by rw [← Hbb.out]; exact hb5))
        clear hb5 hB'
        go_wp2
        go_ret
        exact ⟨rfl, Hb5.out⟩
theorem strings_Join_none (A : Option Addr) (c : Nat) (sep : ByteArray) (w : World) :
 Calls Tryz.prog 51 #[.slice A 0 c, .string sep] w fun e w' => e = .returned (.string ⟨#[]⟩) ∧ w' = w := by
 go_enter Tryz.func51, Tryz.ntmps51
 go_wp2
 go_ret
 exact ⟨rfl, rfl⟩
theorem strings_Join_one (a : Addr) (c : Nat) (x sep : ByteArray) (w : World) (hx : w.cell? a = some (.string x)) :
 Calls Tryz.prog 51 #[.slice (some a) 1 c, .string sep] w fun e w' => e = .returned (.string x) ∧ w' = w := by
 go_enter Tryz.func51, Tryz.ntmps51
 go_wp2
 go_ret
 exact ⟨rfl, rfl⟩
theorem strings_Join.calls (A : Option Addr) (c : Nat) (l : List ByteArray) (sep r : ByteArray) (w : World) (hC : Kd.C Kd.string w A l.length l) (hc : l.length ≤ c) (h : strings_Join.f l sep = some r) :
 Calls Tryz.prog 51 #[.slice A l.length c, .string sep] w fun e w' => e = .returned (.string r) ∧ Below w.heap.size w w' := by
 unfold strings_Join.f at h
 split at h
 case isFalse => cases h
 rename_i hb
 injection h with h
 subst h
 match l, hC, hc, hb with
 | [], _, _, _ => exact (strings_Join_none A c sep w).mono fun e w' ⟨he, hw⟩ => ⟨he, hw ▸ Below.refl _ _⟩
 | [x], hC, _, _ =>
  obtain ⟨ad, rfl, hx⟩ := Kd.at_string hC 0 (by omega) (by simp)
  rw [show (0 : Int).toNat = 0 from rfl, Addr.add_zero'] at hx
  refine (strings_Join_one ad c x sep w hx).mono fun e w' ⟨he, hw⟩ => ⟨?_, hw ▸ Below.refl _ _⟩
  rw [he]
  unfold joinB
  rw [List.map_cons, List.map_nil, Lib.join_one]
 | x :: y :: r, hC, hc, hb =>
  obtain ⟨ad, rfl, -⟩ := Kd.at_string hC 0 (by omega) (by simp; omega)
  exact strings_Join_many ad c x (y :: r) sep w hC hc (by simp) hb.1 hb.2
end Go.Proofs.YtlocbpaikdgmbaaGreatDoor.P
end
section
namespace Go.Proofs.YtlocbpaikdgmbaaGreatDoor.P
open Go Go.RowKit Go.Proofs.YtlocbpaikdgmbaaGreatDoorW.PrintWords Go.Proofs.YtlocbpaikdgmbaaGreatDoorW.PrintLast Go.Proofs.YtlocbpaikdgmbaaGreatDoorW.PrintMore
set_option linter.unusedVariables false
set_option linter.unusedSimpArgs false
def mapO (T : ByteArray → Option ByteArray) : List ByteArray → Option (List ByteArray)
 | [] => some []
 | x :: r => (T x).bind fun y => (mapO T r).map fun u => y :: u
def joinedO (sep : ByteArray) (T : ByteArray → Option ByteArray) (l : List ByteArray) : Option ByteArray := if l.length ≤ 1099511627776 then (mapO T l).bind fun out => strings_Join.f out sep else none
def starO (R : RuleS) (name s : ByteArray) : Option ByteArray :=
 (pct_Encode.f s R.keep).bind fun e => if name.size ≤ 1099511627776 ∧ e.size ≤ 1099511627776 ∧ R.empty.size ≤ 1099511627776 then some (maybeB R name e) else none
set_option maxHeartbeats 2000000 in
set_option maxRecDepth 10000 in
theorem way_star1.calls (R : RuleS) (q bw bs : Nat) (name : ByteArray) (max : Int) (star : Bool) (s r : ByteArray) (w : World) (hx : w.heap[bw]? = some (.cells (wayC R q) 162 (0, 0))) (hy : w.heap[bs]? = some (.cells (specC name max star) 55 (0, 0))) (hq : RuleAt w q R) (h : starO R name s = some r) :
 Calls Tryz.prog 141 #[.string s, .pointer (some ⟨bw, 0, none⟩), .pointer (some ⟨bs, 0, none⟩)] w fun e w' => e = .returned (.string r) ∧ Below w.heap.size w w' := by
 unfold starO at h
 obtain ⟨e, he, h⟩ := Option.bind_eq_some_iff.1 h
 split at h
 case isFalse => cases h
 rename_i hsz
 obtain ⟨s1, s2, s3⟩ := hsz
 injection h with h
 have HR := Lib.hid h
 have HE := Lib.hid he
 have hM := fun W => way_maybe R q name e W s1 s2 s3
 unfold wayV encV at hM
 have HM := Lib.hid hM
 clear hM
 generalize maybeB R name e = M at HM HR
 clear h he s1 s2 s3
 have HX1 := Lib.hid hx
 have HY1 := Lib.hid hy
 have HQ1 := Lib.hid hq
 clear hx hy hq
 go_enter Tryz.func141, Tryz.ntmps141
 go_wp2
 have c0 := Lib.cell_of_heap HX1.out 0
 have c1 := Lib.cell_of_heap HX1.out 1
 have c2 := Lib.cell_of_heap HX1.out 2
 have c3 := Lib.cell_of_heap HX1.out 3
 have c4 := Lib.cell_of_heap HX1.out 4
 have c5 := Lib.cell_of_heap HX1.out 5
 have d0 := Lib.cell_of_heap HY1.out 0
 simp only [wayC, specC, encV, List.getElem?_toArray, List.getElem?_cons_zero, List.getElem?_cons_succ] at c0 c1 c2 c3 c4 c5 d0
 have k0 := cell_regrown c0
 have k1 := cell_regrown c1
 have k2 := cell_regrown c2
 have k3 := cell_regrown c3
 have k4 := cell_regrown c4
 have k5 := cell_regrown c5
 have m0 := cell_regrown d0
 refine wp_region_quiet_below (by kernel_rfl) (by kernel_rfl) ?_
 repeat (go_big_quiet_step (first | exact Calls.regrown_of (piece_of1.calls s e q R _ (HQ1.out.regrown _ _) HE.out) | exact Calls.regrown_of (HM.out _)))
 refine wpQuiet_nil ?_
 rintro _ ⟨⟨dq, osq⟩, rfl⟩
 have HB2 := Lib.hid (below_regrown w dq osq)
 go_wp2
 go_ret
 exact ⟨by rw [← HR.out]; rfl, HB2.out⟩
set_option maxHeartbeats 1000000 in
set_option maxRecDepth 10000 in
theorem joined_enc (R : RuleS) (q : Nat) (sep : ByteArray) (A : Option Addr) (c : Nat) (l : List ByteArray) (r : ByteArray) (w : World) (hq : RuleAt w q R) (hC : Kd.C Kd.string w A l.length l) (hc : l.length ≤ c) (h : joinedO sep (fun s => pct_Encode.f s R.keep) l = some r) :
 Calls Tryz.prog 140 #[.string sep, encV q, .slice A l.length c] w fun e w' => e = .returned (.string r) ∧ Below w.heap.size w w' := by
 unfold joinedO at h
 split at h
 case isFalse => cases h
 rename_i hl
 obtain ⟨u, hu, h⟩ := Option.bind_eq_some_iff.1 h
 obtain ⟨T, hT⟩ : ∃ T, T = fun s => pct_Encode.f s R.keep := ⟨_, rfl⟩
 rw [← hT] at hu
 have HT := Lib.hid hT
 have HJ := Lib.hid h
 have HU := Lib.hid hu
 have HC := Lib.hid hC
 have HCc := Lib.hid hc
 have HQ := Lib.hid hq
 clear hq
 unfold encV
 clear h hu hC hc hT
 go_enter Tryz.func140, Tryz.ntmps140
 go_wp2
 go_loopw [7, 9, 12] (fun out _ i wr => ∃ (k : Nat) (acc v : List ByteArray), k ≤ l.length ∧ i = .int .i64 k ∧ Hid (acc.length = k) ∧ Hid (acc ++ v = u) ∧ Hid (mapO T (l.drop k) = some v) ∧ Hid (Kd.R Kd.string 9 wr w.heap.size (fun _ => True) out acc) ∧ Hid (Below w.heap.size w wr)) (fun _ _ i _ => l.length - (intOf i).toNat)
 case atStart => exact ⟨0, [], u, Nat.zero_le _, rfl, Lib.hid rfl, Lib.hid rfl, HU, Lib.hid (Kd.R_nil _ _ _ _ _), Lib.hid (Below.refl _ _)⟩
 case round =>
  obtain ⟨k, acc, v, hk, rfl, HK, HA, HV, HO, HB⟩ := hrel
  by_cases hlt : k < l.length
  · have hltz : (k : Int) < (l.length : Int) := by omega
    obtain ⟨ad, hA, x0⟩ := Kd.at_string (Kd.C_below HC.out HB.out) (k : Int) (by omega) hltz
    subst hA
    have hd : ∃ y, rdOf ByteArray.empty l (k : Int) = y ∧ l.drop k = y :: l.drop (k + 1) := by
     refine ⟨l[k], ?_, List.drop_eq_getElem_cons hlt⟩
     unfold rdOf
     rw [Int.toNat_natCast, List.getD_eq_getElem?_getD, List.getElem?_eq_getElem hlt]
     rfl
    obtain ⟨y, hy, hdr⟩ := hd
    rw [hy] at x0
    simp only [Int.toNat_natCast] at x0
    have hv := HV.out
    rw [hdr] at hv
    simp only [mapO] at hv
    obtain ⟨z, hz, hv⟩ := Option.bind_eq_some_iff.1 hv
    obtain ⟨v2, hv2, hv⟩ := Option.map_eq_some_iff.1 hv
    subst hv
    have HZ := Lib.hid (show (fun s => pct_Encode.f s R.keep) y = some z by rw [← HT.out]; exact hz)
    have HV2 := Lib.hid hv2
    clear hy hdr hz hv2 HV
    obtain ⟨Ao, co, eo⟩ := Kd.R_slice HO.out
    subst eo
    go_wp2_with (first
     | (refine (piece_of1.calls y z q R _ (HQ.out.below HB.out) HZ.out).mono ?_; rintro e w2 ⟨rfl, hb2⟩; have HB2 := Lib.hid (below_step HB.out hb2); have HO2 := Lib.hid (Kd.R_below HO.out hb2); clear hb2)
     | ((with_reducible refine gate_builtin (b := .append) (xs := #[.tmp 16, .tmp 20]) rfl ?_); at_builtin; refine Kd.R_append Kd.string (w0 := w) w.heap.size rfl (.tmp 16) (.tmp 20) 41 9 (.string ⟨#[]⟩) 16 rfl Tryz.underlying41 info9 rfl (by decide) (by omega) _ acc z [.string z] (fun _ => True) (fun _ => False) rfl rfl ?aP (fun _ hk => hk.elim) ?aF ?aO ?aB ?aS ?aL ?_; (case aP => exact rfl); (case aF => exact fun _ _ => trivial); (case aO => exact HO2.out); (case aB => exact HB2.out); (case aS => exact HB2.out.size); (case aL => (have := HK.out; omega)); intro v3 w3 ho3 hb3 hg3 hat3; have HO3 := Lib.hid ho3; have HB3 := Lib.hid hb3; clear ho3 hb3 hg3 hat3))
    go_roundw
    case rel => exact ⟨k + 1, acc ++ [z], v2, hlt, by go_num, Lib.hid (by rw [List.length_append, HK.out]; rfl), Lib.hid (by rw [List.append_assoc]; exact HA.out), HV2, HO3, HB3⟩
    case measure => simp [intOf]; omega
  · have hk2 : k = l.length := by omega
    subst hk2
    have hv : v = [] := by
     have := HV.out
     rw [List.drop_eq_nil_of_le (Nat.le_refl _)] at this
     exact (Option.some.inj this).symm
    have hau : acc = u := by
     have := HA.out
     rw [hv, List.append_nil] at this
     exact this
    subst hau
    obtain ⟨Ao, co, eo, hlc, hC2⟩ := Kd.R_reads HO.out
    subst eo
    have HC2 := Lib.hid hC2
    clear hC2 HV HA HO
    go_wp2_with (go_at_call 51; refine (strings_Join.calls Ao co acc sep r _ HC2.out hlc HJ.out).mono ?_; rintro e w2 ⟨rfl, hb2⟩)
    go_ret
    exact ⟨rfl, below_step HB.out hb2⟩
set_option maxHeartbeats 1000000 in
set_option maxRecDepth 10000 in
theorem joined_star (R : RuleS) (q bw bs : Nat) (name : ByteArray) (max : Int) (star : Bool) (sep : ByteArray) (A : Option Addr) (c : Nat) (l : List ByteArray) (r : ByteArray) (w : World) (hx : w.heap[bw]? = some (.cells (wayC R q) 162 (0, 0))) (hy : w.heap[bs]? = some (.cells (specC name max star) 55 (0, 0))) (hq : RuleAt w q R) (hC : Kd.C Kd.string w A l.length l) (hc : l.length ≤ c) (h : joinedO sep (starO R name) l = some r) :
 Calls Tryz.prog 140 #[.string sep, (.func (.func 141) #[] #[.pointer (some ⟨bw, 0, none⟩), .pointer (some ⟨bs, 0, none⟩)]), .slice A l.length c] w fun e w' => e = .returned (.string r) ∧ Below w.heap.size w w' := by
 unfold joinedO at h
 split at h
 case isFalse => cases h
 rename_i hl
 obtain ⟨u, hu, h⟩ := Option.bind_eq_some_iff.1 h
 obtain ⟨T, hT⟩ : ∃ T, T = starO R name := ⟨_, rfl⟩
 rw [← hT] at hu
 have HT := Lib.hid hT
 have HJ := Lib.hid h
 have HU := Lib.hid hu
 have HC := Lib.hid hC
 have HCc := Lib.hid hc
 have HQ := Lib.hid hq
 have HX := Lib.hid hx
 have HY := Lib.hid hy
 clear hq hx hy
 clear h hu hC hc hT
 go_enter Tryz.func140, Tryz.ntmps140
 go_wp2
 go_loopw [7, 9, 12] (fun out _ i wr => ∃ (k : Nat) (acc v : List ByteArray), k ≤ l.length ∧ i = .int .i64 k ∧ Hid (acc.length = k) ∧ Hid (acc ++ v = u) ∧ Hid (mapO T (l.drop k) = some v) ∧ Hid (Kd.R Kd.string 9 wr w.heap.size (fun _ => True) out acc) ∧ Hid (Below w.heap.size w wr)) (fun _ _ i _ => l.length - (intOf i).toNat)
 case atStart => exact ⟨0, [], u, Nat.zero_le _, rfl, Lib.hid rfl, Lib.hid rfl, HU, Lib.hid (Kd.R_nil _ _ _ _ _), Lib.hid (Below.refl _ _)⟩
 case round =>
  obtain ⟨k, acc, v, hk, rfl, HK, HA, HV, HO, HB⟩ := hrel
  by_cases hlt : k < l.length
  · have hltz : (k : Int) < (l.length : Int) := by omega
    obtain ⟨ad, hA, x0⟩ := Kd.at_string (Kd.C_below HC.out HB.out) (k : Int) (by omega) hltz
    subst hA
    have hd : ∃ y, rdOf ByteArray.empty l (k : Int) = y ∧ l.drop k = y :: l.drop (k + 1) := by
     refine ⟨l[k], ?_, List.drop_eq_getElem_cons hlt⟩
     unfold rdOf
     rw [Int.toNat_natCast, List.getD_eq_getElem?_getD, List.getElem?_eq_getElem hlt]
     rfl
    obtain ⟨y, hy, hdr⟩ := hd
    rw [hy] at x0
    simp only [Int.toNat_natCast] at x0
    have hv := HV.out
    rw [hdr] at hv
    simp only [mapO] at hv
    obtain ⟨z, hz, hv⟩ := Option.bind_eq_some_iff.1 hv
    obtain ⟨v2, hv2, hv⟩ := Option.map_eq_some_iff.1 hv
    subst hv
    have HZ := Lib.hid (show (starO R name) y = some z by rw [← HT.out]; exact hz)
    have HV2 := Lib.hid hv2
    clear hy hdr hz hv2 HV
    obtain ⟨Ao, co, eo⟩ := Kd.R_slice HO.out
    subst eo
    go_wp2_with (first
     | (refine (way_star1.calls R q bw bs name max star y z _ (box_belowR HB.out HX.out) (box_belowR HB.out HY.out) (HQ.out.below HB.out) HZ.out).mono ?_; rintro e w2 ⟨rfl, hb2⟩; have HB2 := Lib.hid (below_step HB.out hb2); have HO2 := Lib.hid (Kd.R_below HO.out hb2); clear hb2)
     | ((with_reducible refine gate_builtin (b := .append) (xs := #[.tmp 16, .tmp 20]) rfl ?_); at_builtin; refine Kd.R_append Kd.string (w0 := w) w.heap.size rfl (.tmp 16) (.tmp 20) 41 9 (.string ⟨#[]⟩) 16 rfl Tryz.underlying41 info9 rfl (by decide) (by omega) _ acc z [.string z] (fun _ => True) (fun _ => False) rfl rfl ?aP (fun _ hk => hk.elim) ?aF ?aO ?aB ?aS ?aL ?_; (case aP => exact rfl); (case aF => exact fun _ _ => trivial); (case aO => exact HO2.out); (case aB => exact HB2.out); (case aS => exact HB2.out.size); (case aL => (have := HK.out; omega)); intro v3 w3 ho3 hb3 hg3 hat3; have HO3 := Lib.hid ho3; have HB3 := Lib.hid hb3; clear ho3 hb3 hg3 hat3))
    go_roundw
    case rel => exact ⟨k + 1, acc ++ [z], v2, hlt, by go_num, Lib.hid (by rw [List.length_append, HK.out]; rfl), Lib.hid (by rw [List.append_assoc]; exact HA.out), HV2, HO3, HB3⟩
    case measure => simp [intOf]; omega
  · have hk2 : k = l.length := by omega
    subst hk2
    have hv : v = [] := by
     have := HV.out
     rw [List.drop_eq_nil_of_le (Nat.le_refl _)] at this
     exact (Option.some.inj this).symm
    have hau : acc = u := by
     have := HA.out
     rw [hv, List.append_nil] at this
     exact this
    subst hau
    obtain ⟨Ao, co, eo, hlc, hC2⟩ := Kd.R_reads HO.out
    subst eo
    have HC2 := Lib.hid hC2
    clear hC2 HV HA HO
    go_wp2_with (go_at_call 51; refine (strings_Join.calls Ao co acc sep r _ HC2.out hlc HJ.out).mono ?_; rintro e w2 ⟨rfl, hb2⟩)
    go_ret
    exact ⟨rfl, below_step HB.out hb2⟩
def pairO (R : RuleS) (key val : ByteArray) : Option ByteArray :=
 if R.named = true then (pct_Encode.f key true).bind fun a => (pct_Encode.f val R.keep).bind fun b => if a.size ≤ 1099511627776 ∧ b.size ≤ 1099511627776 ∧ R.empty.size ≤ 1099511627776 then some (namedB R a b) else none
 else (pct_Encode.f key R.keep).bind fun a => (pct_Encode.f val R.keep).bind fun b => if a.size ≤ 1099511627776 ∧ b.size ≤ 1099511627776 then some ((a ++ ⟨#[61]⟩) ++ b) else none
set_option maxHeartbeats 2000000 in
set_option maxRecDepth 10000 in
theorem way_pair.calls (R : RuleS) (q : Nat) (key val r : ByteArray) (w : World) (hq : RuleAt w q R) (h : pairO R key val = some r) :
 Calls Tryz.prog 142 #[wayV R q, .agg #[.string key, .string val]] w fun e w' => e = .returned (.string r) ∧ Below w.heap.size w w' := by
 unfold pairO at h
 have hb0 : Below w.heap.size w ((w.alloc (.cells (wayC R q) 162)).alloc (.cells #[.string key, .string val] 154)) := ((Below.refl _ _).alloc (Nat.le_refl _) _).alloc (by simp) _
 have hx0 := box_belowR ((Below.refl _ _).alloc (Nat.le_refl _) (.cells #[.string key, .string val] 154)) (box_newR w (wayC R q) 162)
 have hy0 := box_newR (w.alloc (.cells (wayC R q) 162)) #[.string key, .string val] 154
 rw [World.size_alloc] at hy0
 have hq0 : RuleAt _ q R := hq.below hb0
 have HB1 := Lib.hid hb0
 have HX1 := Lib.hid hx0
 have HY1 := Lib.hid hy0
 have HQ1 := Lib.hid hq0
 clear hb0 hx0 hy0 hq0 hq
 obtain ⟨w1, hw1⟩ : ∃ W, W = (w.alloc (.cells (wayC R q) 162)).alloc (.cells #[.string key, .string val] 154) := ⟨_, rfl⟩
 rw [← hw1] at HB1 HX1 HY1 HQ1
 unfold wayC at hw1
 have c0 := Lib.cell_of_heap HX1.out 0
 have c1 := Lib.cell_of_heap HX1.out 1
 have c2 := Lib.cell_of_heap HX1.out 2
 have c3 := Lib.cell_of_heap HX1.out 3
 have c4 := Lib.cell_of_heap HX1.out 4
 have c5 := Lib.cell_of_heap HX1.out 5
 have d0 := Lib.cell_of_heap HY1.out 0
 have d1 := Lib.cell_of_heap HY1.out 1
 simp only [wayC, encV, List.getElem?_toArray, List.getElem?_cons_zero, List.getElem?_cons_succ] at c0 c1 c2 c3 c4 c5 d0 d1
 have k0 := cell_regrown c0
 have k1 := cell_regrown c1
 have k2 := cell_regrown c2
 have k3 := cell_regrown c3
 have k4 := cell_regrown c4
 have k5 := cell_regrown c5
 have m0 := cell_regrown d0
 have m1 := cell_regrown d1
 unfold wayV
 have HW := Lib.hid hw1
 clear hw1
 cases hn : R.named with
 | true =>
  rw [if_pos hn] at h
  obtain ⟨a, ha, h⟩ := Option.bind_eq_some_iff.1 h
  obtain ⟨b, hb, h⟩ := Option.bind_eq_some_iff.1 h
  split at h
  case isFalse => cases h
  rename_i hsz
  obtain ⟨s1, s2, s3⟩ := hsz
  injection h with h
  have HR := Lib.hid h
  have HA := Lib.hid ha
  have HB := Lib.hid hb
  have hM := fun W => way_named R q a b W s1 s2 s3
  unfold wayV encV at hM
  rw [hn] at hM c2
  have k2 := cell_regrown c2
  have HM := Lib.hid hM
  clear hM
  generalize namedB R a b = M at HM HR
  have hnn := hn
  clear h ha hb s1 s2 s3 hn
  rw [hnn] at HW
  go_enter Tryz.func142, Tryz.ntmps142
  go_wp2_with fail
  rw [← HW.out]
  refine wp_region_quiet_below (by kernel_rfl) (by kernel_rfl) ?_
  repeat (go_big_quiet_step (first | exact Calls.regrown_of (pct_Encode.calls key true a _ HA.out) | exact Calls.regrown_of (piece_of1.calls val b q R _ (HQ1.out.regrown _ _) HB.out) | exact Calls.regrown_of (HM.out _)))
  refine wpQuiet_nil ?_
  rintro _ ⟨⟨dq, osq⟩, rfl⟩
  have HB2 := Lib.hid (below_step HB1.out (below_regrown _ dq osq))
  go_wp2
  go_ret
  exact ⟨by rw [← HR.out]; rfl, HB2.out⟩
 | false =>
  rw [if_neg (by rw [hn]; simp)] at h
  obtain ⟨a, ha, h⟩ := Option.bind_eq_some_iff.1 h
  obtain ⟨b, hb, h⟩ := Option.bind_eq_some_iff.1 h
  split at h
  case isFalse => cases h
  rename_i hsz
  obtain ⟨s1, s2⟩ := hsz
  injection h with h
  have HR := Lib.hid h
  have HA := Lib.hid ha
  have HB := Lib.hid hb
  have e1 : (a ++ (⟨#[61]⟩ : ByteArray)).size = a.size + 1 := by rw [ByteArray.size_append]; rfl
  rw [hn] at c2
  have k2 := cell_regrown c2
  have hnn := hn
  clear h ha hb hn
  rw [hnn] at HW
  go_enter Tryz.func142, Tryz.ntmps142
  go_wp2_with fail
  rw [← HW.out]
  refine wp_region_quiet_below (by kernel_rfl) (by kernel_rfl) ?_
  repeat (go_big_quiet_step (first | exact Calls.regrown_of (piece_of1.calls key a q R _ (HQ1.out.regrown _ _) HA.out) | exact Calls.regrown_of (piece_of1.calls val b q R _ (HQ1.out.regrown _ _) HB.out)))
  refine wpQuiet_nil ?_
  rintro _ ⟨⟨dq, osq⟩, rfl⟩
  have HB2 := Lib.hid (below_step HB1.out (below_regrown _ dq osq))
  go_wp2
  go_ret
  exact ⟨by rw [← HR.out]; rfl, HB2.out⟩
def mapPO (R : RuleS) : List S154 → Option (List ByteArray)
 | [] => some []
 | x :: r => (pairO R x.f0 x.f1).bind fun y => (mapPO R r).map fun u => y :: u
def way_star.f (R : RuleS) (name : ByteArray) (kind : Int) (l2 : List ByteArray) (l3 : List S154) : Option ByteArray :=
 if kind = 2 then joinedO R.sep (starO R name) l2 else if l3.length ≤ 1099511627776 then (mapPO R l3).bind fun out => strings_Join.f out R.sep else none
set_option maxHeartbeats 2000000 in
set_option maxRecDepth 10000 in
theorem way_star.calls (R : RuleS) (q : Nat) (name : ByteArray) (max : Int) (star : Bool) (kind : Int) (sv : ByteArray) (A2 : Option Addr) (c2 : Nat) (l2 : List ByteArray) (A3 : Option Addr) (c3 : Nat) (l3 : List S154) (r : ByteArray) (w : World) (hq : RuleAt w q R)
 (hr2 : Kd.C Kd.string w A2 l2.length l2) (hc2 : l2.length ≤ c2) (hr3 : Kd.C k154 w A3 l3.length l3) (hc3 : l3.length ≤ c3) (h : way_star.f R name kind l2 l3 = some r) :
 Calls Tryz.prog 111 #[wayV R q, .agg #[.string name, .int .i64 max, .bool star], .agg #[.int .i64 kind, .string sv, .slice A2 l2.length c2, .slice A3 l3.length c3]] w fun e w' => e = .returned (.string r) ∧ Below w.heap.size w w' := by
 unfold way_star.f at h
 obtain ⟨wa, hwa⟩ : ∃ W, W = w.alloc (.cells (wayC R q) 162) := ⟨_, rfl⟩
 obtain ⟨wb, hwb⟩ : ∃ W, W = wa.alloc (.cells (specC name max star) 55) := ⟨_, rfl⟩
 obtain ⟨w1, hw1⟩ : ∃ W, W = wb.alloc (.cells #[.int .i64 kind, .string sv, .slice A2 l2.length c2, .slice A3 l3.length c3] 44) := ⟨_, rfl⟩
 have hba : Below w.heap.size w wa := by rw [hwa]; exact (Below.refl _ _).alloc (Nat.le_refl _) _
 have hbb : Below wa.heap.size wa wb := by rw [hwb]; exact (Below.refl _ _).alloc (Nat.le_refl _) _
 have hbc : Below wb.heap.size wb w1 := by rw [hw1]; exact (Below.refl _ _).alloc (Nat.le_refl _) _
 have hza : wa.heap.size = w.heap.size + 1 := by rw [hwa, World.size_alloc]
 have hx : wa.heap[w.heap.size]? = some (.cells (wayC R q) 162 (0, 0)) := by rw [hwa]; exact box_newR w _ _
 have hy : wb.heap[wa.heap.size]? = some (.cells (specC name max star) 55 (0, 0)) := by rw [hwb]; exact box_newR wa _ _
 rw [hza] at hy
 have HX1 := Lib.hid (box_belowR hbc (box_belowR hbb hx))
 have HY1 := Lib.hid (box_belowR hbc hy)
 have HB1 := Lib.hid (below_step (below_step hba hbb) hbc)
 have HQ1 := Lib.hid (hq.below HB1.out)
 have H2 := Lib.hid (Kd.C_below hr2 HB1.out)
 have H3 := Lib.hid (Kd.C_below hr3 HB1.out)
 have K2 := Lib.hid hc2
 have K3 := Lib.hid hc3
 have hw : w1 = ((w.alloc (.cells (wayC R q) 162)).alloc (.cells (specC name max star) 55)).alloc (.cells #[.int .i64 kind, .string sv, .slice A2 l2.length c2, .slice A3 l3.length c3] 44) := by rw [hw1, hwb, hwa]
 unfold wayC specC at hw
 have HW := Lib.hid hw
 clear hw hwa hwb hw1 hba hbb hbc hza hx hy hq hr2 hc2 hr3 hc3
 unfold wayV
 by_cases hk : kind = 2
 · rw [if_pos hk] at h
   have HJ := Lib.hid h
   clear h
   subst hk
   go_enter Tryz.func111, Tryz.ntmps111
   go_wp2_with (go_at_call 140; rw [← HW.out]; refine (joined_star R q w.heap.size (w.heap.size + 1) name max star R.sep A2 c2 l2 r _ HX1.out HY1.out HQ1.out H2.out K2.out HJ.out).mono ?_; rintro e w2 ⟨rfl, hb2⟩; have HB2 := Lib.hid (below_step HB1.out hb2); clear hb2)
   go_ret
   exact ⟨rfl, HB2.out⟩
 · rw [if_neg hk] at h
   split at h
   case isFalse => cases h
   rename_i hl
   obtain ⟨u, hu, h⟩ := Option.bind_eq_some_iff.1 h
   have HJ := Lib.hid h
   have HU := Lib.hid hu
   clear h hu
   have hkb : (kind == 2) = false := beq_eq_false_iff_ne.2 hk
   go_enter Tryz.func111, Tryz.ntmps111
   go_wp2
   rw [← HW.out]
   obtain ⟨bw, hbw⟩ : ∃ b, b = w.heap.size := ⟨_, rfl⟩
   rw [← hbw] at HX1
   have hbwz : w.heap.size ≤ bw := by omega
   rw [← hbw]
   clear hbw
   go_loopw [7, 9, 23] (fun out _ i wr => ∃ (k : Nat) (acc v : List ByteArray), k ≤ l3.length ∧ i = .int .i64 k ∧ Hid (acc.length = k) ∧ Hid (acc ++ v = u) ∧ Hid (mapPO R (l3.drop k) = some v) ∧ Hid (Kd.R Kd.string 9 wr w1.heap.size (fun _ => True) out acc) ∧ Hid (Below w1.heap.size w1 wr)) (fun _ _ i _ => l3.length - (intOf i).toNat)
   case atStart => exact ⟨0, [], u, Nat.zero_le _, rfl, Lib.hid rfl, Lib.hid rfl, HU, Lib.hid (Kd.R_nil _ _ _ _ _), Lib.hid (Below.refl _ _)⟩
   case round =>
    obtain ⟨k, acc, v, hkl, rfl, HK, HA, HV, HO, HB⟩ := hrel
    by_cases hlt : k < l3.length
    · have hltz : (k : Int) < (l3.length : Int) := by omega
      obtain ⟨ad, hA, x0, x1⟩ := at_T154 (Kd.C_below H3.out HB.out) (k : Int) (by omega) hltz
      subst hA
      have hd : ∃ y, rd_T154 l3 (k : Int) = y ∧ l3.drop k = y :: l3.drop (k + 1) := by
       refine ⟨l3[k], ?_, List.drop_eq_getElem_cons hlt⟩
       unfold rd_T154
       rw [Int.toNat_natCast, List.getD_eq_getElem?_getD, List.getElem?_eq_getElem hlt]
       rfl
      obtain ⟨⟨key, val⟩, hy, hdr⟩ := hd
      rw [hy] at x0 x1
      simp only [Int.toNat_natCast] at x0 x1
      have hv := HV.out
      rw [hdr] at hv
      simp only [mapPO] at hv
      obtain ⟨z, hz, hv⟩ := Option.bind_eq_some_iff.1 hv
      obtain ⟨v2, hv2, hv⟩ := Option.map_eq_some_iff.1 hv
      subst hv
      have HZ := Lib.hid hz
      have HV2 := Lib.hid hv2
      have hxr := box_belowR ((Below.refl _ _).alloc (Nat.le_refl _) (.cells #[.string key, .string val] 154)) (box_belowR HB.out HX1.out)
      have e0 := Lib.cell_of_heap hxr 0
      have e1 := Lib.cell_of_heap hxr 1
      have e2 := Lib.cell_of_heap hxr 2
      have e3 := Lib.cell_of_heap hxr 3
      have e4 := Lib.cell_of_heap hxr 4
      have e5 := Lib.cell_of_heap hxr 5
      simp only [wayC, List.getElem?_toArray, List.getElem?_cons_zero, List.getElem?_cons_succ] at e0 e1 e2 e3 e4 e5
      clear hy hdr hz hv2 HV hxr
      obtain ⟨Ao, co, eo⟩ := Kd.R_slice HO.out
      subst eo
      go_wp2_with (first
       | (go_at_call 142; refine (way_pair.calls R q key val z _ (HQ1.out.below (below_alloc HB.out _)) HZ.out).mono ?_; rintro e w2 ⟨rfl, hb2⟩; have HB2 := Lib.hid (below_step (below_alloc HB.out _) hb2); have HO2 := Lib.hid (Kd.R_below HO.out (below_step ((Below.refl _ _).alloc (Nat.le_refl _) _) hb2)); clear hb2)
       | ((with_reducible refine gate_builtin (b := .append) (xs := #[.tmp 27, .tmp 31]) rfl ?_); at_builtin; refine Kd.R_append Kd.string (w0 := w1) w1.heap.size rfl (.tmp 27) (.tmp 31) 41 9 (.string ⟨#[]⟩) 16 rfl Tryz.underlying41 info9 rfl (by decide) (by omega) _ acc z [.string z] (fun _ => True) (fun _ => False) rfl rfl ?aP (fun _ hk => hk.elim) ?aF ?aO ?aB ?aS ?aL ?_; (case aP => exact rfl); (case aF => exact fun _ _ => trivial); (case aO => exact HO2.out); (case aB => exact HB2.out); (case aS => exact HB2.out.size); (case aL => (have := HK.out; omega)); intro v3 w3 ho3 hb3 hg3 hat3; have HO3 := Lib.hid ho3; have HB3 := Lib.hid hb3; clear ho3 hb3 hg3 hat3))
      go_roundw
      case rel => exact ⟨k + 1, acc ++ [z], v2, hlt, by go_num, Lib.hid (by rw [List.length_append, HK.out]; rfl), Lib.hid (by rw [List.append_assoc]; exact HA.out), HV2, HO3, HB3⟩
      case measure => simp [intOf]; omega
    · have hk2 : k = l3.length := by omega
      subst hk2
      have hv : v = [] := by
       have := HV.out
       rw [List.drop_eq_nil_of_le (Nat.le_refl _)] at this
       exact (Option.some.inj this).symm
      have hau : acc = u := by
       have := HA.out
       rw [hv, List.append_nil] at this
       exact this
      subst hau
      obtain ⟨Ao, co, eo, hlc, hC2⟩ := Kd.R_reads HO.out
      subst eo
      have HC2 := Lib.hid hC2
      have hxr := box_belowR HB.out HX1.out
      have e1 := Lib.cell_of_heap hxr 1
      simp only [wayC, List.getElem?_toArray, List.getElem?_cons_zero, List.getElem?_cons_succ] at e1
      clear hC2 HV HA HO hxr
      go_wp2_with (go_at_call 51; refine (strings_Join.calls Ao co acc R.sep r _ HC2.out hlc HJ.out).mono ?_; rintro e w2 ⟨rfl, hb2⟩)
      go_ret
      exact ⟨rfl, below_step HB1.out (below_step HB.out hb2)⟩
def way_whole.f (k : Nat) (R : RuleS) (name : ByteArray) (kind : Int) (sv : ByteArray) (l2 : List ByteArray) (l3 : List S154) : Option ByteArray :=
 (value_Texts.f k kind sv l2 l3).bind fun l => (joinedO ⟨#[44]⟩ (fun s => pct_Encode.f s R.keep) l).bind fun s => if R.named = true then (if name.size ≤ 1099511627776 ∧ s.size ≤ 1099511627776 then some ((name ++ ⟨#[61]⟩) ++ s) else none) else some s
set_option maxHeartbeats 2000000 in
set_option maxRecDepth 10000 in
theorem way_whole.calls (k : Nat) (R : RuleS) (q : Nat) (name : ByteArray) (max : Int) (star : Bool) (kind : Int) (sv : ByteArray) (A2 : Option Addr) (c2 : Nat) (l2 : List ByteArray) (A3 : Option Addr) (c3 : Nat) (l3 : List S154) (r : ByteArray) (w : World) (hq : RuleAt w q R)
 (hr2 : Kd.C Kd.string w A2 l2.length l2) (hc2 : l2.length ≤ c2) (hr3 : Kd.C k154 w A3 l3.length l3) (hc3 : l3.length ≤ c3) (h : way_whole.f k R name kind sv l2 l3 = some r) :
 Calls Tryz.prog 112 #[wayV R q, .agg #[.string name, .int .i64 max, .bool star], .agg #[.int .i64 kind, .string sv, .slice A2 l2.length c2, .slice A3 l3.length c3]] w fun e w' => e = .returned (.string r) ∧ Below w.heap.size w w' := by
 unfold way_whole.f at h
 obtain ⟨l, hl, h⟩ := Option.bind_eq_some_iff.1 h
 obtain ⟨s, hs, h⟩ := Option.bind_eq_some_iff.1 h
 obtain ⟨wa, hwa⟩ : ∃ W, W = w.alloc (.cells (wayC R q) 162) := ⟨_, rfl⟩
 obtain ⟨wb, hwb⟩ : ∃ W, W = wa.alloc (.cells (specC name max star) 55) := ⟨_, rfl⟩
 obtain ⟨w1, hw1⟩ : ∃ W, W = wb.alloc (.cells #[.int .i64 kind, .string sv, .slice A2 l2.length c2, .slice A3 l3.length c3] 44) := ⟨_, rfl⟩
 have hba : Below w.heap.size w wa := by rw [hwa]; exact (Below.refl _ _).alloc (Nat.le_refl _) _
 have hbb : Below wa.heap.size wa wb := by rw [hwb]; exact (Below.refl _ _).alloc (Nat.le_refl _) _
 have hbc : Below wb.heap.size wb w1 := by rw [hw1]; exact (Below.refl _ _).alloc (Nat.le_refl _) _
 have hza : wa.heap.size = w.heap.size + 1 := by rw [hwa, World.size_alloc]
 have hzb : wb.heap.size = w.heap.size + 1 + 1 := by rw [hwb, World.size_alloc, hza]
 have hx : wa.heap[w.heap.size]? = some (.cells (wayC R q) 162 (0, 0)) := by rw [hwa]; exact box_newR w _ _
 have hy : wb.heap[wa.heap.size]? = some (.cells (specC name max star) 55 (0, 0)) := by rw [hwb]; exact box_newR wa _ _
 have hv : w1.heap[wb.heap.size]? = some (.cells #[.int .i64 kind, .string sv, .slice A2 l2.length c2, .slice A3 l3.length c3] 44 (0, 0)) := by rw [hw1]; exact box_newR wb _ _
 rw [hza] at hy
 rw [hzb] at hv
 have HX1 := Lib.hid (box_belowR hbc (box_belowR hbb hx))
 have HY1 := Lib.hid (box_belowR hbc hy)
 have HV1 := Lib.hid hv
 have HB1 := Lib.hid (below_step (below_step hba hbb) hbc)
 have HQ1 := Lib.hid (hq.below HB1.out)
 have H2 := Lib.hid (Kd.C_below hr2 HB1.out)
 have H3 := Lib.hid (Kd.C_below hr3 HB1.out)
 have K2 := Lib.hid hc2
 have K3 := Lib.hid hc3
 have hw : w1 = ((w.alloc (.cells (wayC R q) 162)).alloc (.cells (specC name max star) 55)).alloc (.cells #[.int .i64 kind, .string sv, .slice A2 l2.length c2, .slice A3 l3.length c3] 44) := by rw [hw1, hwb, hwa]
 unfold wayC specC at hw
 have HW := Lib.hid hw
 have HT := Lib.hid hl
 have HS := Lib.hid hs
 clear hw hwa hwb hw1 hba hbb hbc hza hzb hx hy hv hq hr2 hc2 hr3 hc3 hl hs
 unfold wayV
 go_enter Tryz.func112, Tryz.ntmps112
 go_wp2_with fail
 rw [← HW.out]
 obtain ⟨bw, hbw⟩ : ∃ b, b = w.heap.size := ⟨_, rfl⟩
 rw [← hbw] at HX1 HY1 HV1 ⊢
 have hbwz : w.heap.size ≤ bw := by omega
 clear hbw HW
 have e5 := Lib.cell_of_heap HX1.out 5
 have g0 := Lib.cell_of_heap HV1.out 0
 have g1 := Lib.cell_of_heap HV1.out 1
 have g2 := Lib.cell_of_heap HV1.out 2
 have g3 := Lib.cell_of_heap HV1.out 3
 simp only [wayC, encV, List.getElem?_toArray, List.getElem?_cons_zero, List.getElem?_cons_succ] at e5 g0 g1 g2 g3
 go_region_law (first
  | (refine goes_ Tryz.func134 (by kernel_rfl) rfl #[.agg #[.int .i64 kind, .string sv, .slice A2 l2.length c2, .slice A3 l3.length c3]] (by rfl) rfl rfl (by simp [Act.eval, Act.put]) ?_; refine (value_Texts.calls k kind sv A2 c2 l2 A3 c3 l3 l _ (Kd.C_below H2.out (below_drew (Below.refl _ w1))) K2.out (Kd.C_below H3.out (below_drew (Below.refl _ w1))) K3.out HT.out).mono ?_; rintro e w2 ⟨v0, rfl, hrow, hb⟩; obtain ⟨A, c, rfl, hlc, hC⟩ := Kd.R_reads hrow; refine ⟨_, rfl, ?_⟩; have HC2 := Lib.hid hC; have HL2 := Lib.hid hlc; have HB2 := Lib.hid (below_step (below_drew (Below.refl _ w1)) hb); clear hrow hC hlc hb; have e5b := Lib.cell_of_heap (box_belowR HB2.out HX1.out) 5; simp only [wayC, encV, List.getElem?_toArray, List.getElem?_cons_zero, List.getElem?_cons_succ] at e5b)
  | (refine goes_ Tryz.func140 (by kernel_rfl) rfl #[.string ⟨#[44]⟩, .func (.func 133) #[] #[.pointer (some ⟨q, 0, none⟩)], .slice A l.length c] (by rfl) rfl rfl (by simp [Act.eval, Act.put]) ?_; refine (joined_enc R q ⟨#[44]⟩ A c l s _ (HQ1.out.below HB2.out) HC2.out HL2.out HS.out).mono ?_; rintro e w3 ⟨rfl, hb⟩; refine ⟨_, rfl, ?_⟩; have HB3 := Lib.hid (below_step HB2.out hb); clear hb))
 all_goals
  have hx3 := box_belowR HB3.out HX1.out
  have hy3 := box_belowR HB3.out HY1.out
  have e2 := Lib.cell_of_heap hx3 2
  have d0 := Lib.cell_of_heap hy3 0
  simp only [wayC, specC, List.getElem?_toArray, List.getElem?_cons_zero, List.getElem?_cons_succ] at e2 d0
  clear hx3 hy3
  cases hn : R.named with
  | true =>
   rw [if_pos hn] at h
   split at h
   case isFalse => cases h
   rename_i hsz
   obtain ⟨s1, s2⟩ := hsz
   have e1 : (name ++ (⟨#[61]⟩ : ByteArray)).size = name.size + 1 := by rw [ByteArray.size_append]; rfl
   have HR := Lib.hid (Option.some.inj h)
   rw [hn] at e2
   clear h
   go_wp2
   go_ret
   exact ⟨by rw [← HR.out]; rfl, below_step HB1.out HB3.out⟩
  | false =>
   rw [if_neg (by rw [hn]; simp)] at h
   have HR := Lib.hid (Option.some.inj h)
   rw [hn] at e2
   clear h
   go_wp2
   go_ret
   exact ⟨by rw [← HR.out]; rfl, below_step HB1.out HB3.out⟩
def oneText (k : Nat) (R : RuleS) (name : ByteArray) (max : Int) (star : Bool) (kind : Int) (sv : ByteArray) (l2 : List ByteArray) (l3 : List S154) : Option ByteArray :=
 if kind = 1 then way_text.f R name max sv else if star = true then way_star.f R name kind l2 l3 else way_whole.f k R name kind sv l2 l3
def piece_One.f (k : Nat) (op : Int) (name : ByteArray) (max : Int) (star : Bool) (kind : Int) (sv : ByteArray) (l2 : List ByteArray) (l3 : List S154) : Option (ByteArray × Bool × Int) :=
 (piece_of.f op).bind fun p => if p.2 = false then some (⟨#[]⟩, false, 1) else (spec_May.f name max star).bind fun m => if m = false then some (⟨#[]⟩, false, 1) else
  (value_Defined.f k kind sv l2 l3).bind fun d => if d = false then some (⟨#[]⟩, false, 0) else if max > 0 ∧ kind ≠ 1 then some (⟨#[]⟩, false, 4) else
   (value_Valid.f k kind sv l2 l3).bind fun v => if v = false then some (⟨#[]⟩, false, 3) else (oneText k p.1 name max star kind sv l2 l3).map fun t => (t, true, 0)
def valC (kind : Int) (sv : ByteArray) (A2 : Option Addr) (n2 c2 : Nat) (A3 : Option Addr) (n3 c3 : Nat) : Array Value := #[.int .i64 kind, .string sv, .slice A2 n2 c2, .slice A3 n3 c3]
set_option maxHeartbeats 4000000 in
set_option maxRecDepth 10000 in
theorem piece_One.calls (k : Nat) (op : Int) (name : ByteArray) (max : Int) (star : Bool) (kind : Int) (sv : ByteArray) (A2 : Option Addr) (c2 : Nat) (l2 : List ByteArray) (A3 : Option Addr) (c3 : Nat) (l3 : List S154) (r1 : ByteArray) (r2 : Bool) (r3 : Int) (w : World)
 (hr2 : Kd.C Kd.string w A2 l2.length l2) (hc2 : l2.length ≤ c2) (hr3 : Kd.C k154 w A3 l3.length l3) (hc3 : l3.length ≤ c3) (h : piece_One.f k op name max star kind sv l2 l3 = some (r1, r2, r3)) :
 Calls Tryz.prog 81 #[.int .u8 op, .agg #[.string name, .int .i64 max, .bool star], .agg #[.int .i64 kind, .string sv, .slice A2 l2.length c2, .slice A3 l3.length c3]] w fun e w' => e = .returned (.tuple #[.string r1, .bool r2, .int .i64 r3]) ∧ Below w.heap.size w w' := by
 unfold piece_One.f at h
 obtain ⟨⟨R, ok⟩, hof, h⟩ := Option.bind_eq_some_iff.1 h
 obtain ⟨wa, hwa⟩ : ∃ W, W = w.alloc (.cells (specC name max star) 55) := ⟨_, rfl⟩
 obtain ⟨w0, hw0⟩ : ∃ W, W = wa.alloc (.cells (valC kind sv A2 l2.length c2 A3 l3.length c3) 44) := ⟨_, rfl⟩
 have hba : Below w.heap.size w wa := by rw [hwa]; exact (Below.refl _ _).alloc (Nat.le_refl _) _
 have hbb : Below wa.heap.size wa w0 := by rw [hw0]; exact (Below.refl _ _).alloc (Nat.le_refl _) _
 have hza : wa.heap.size = w.heap.size + 1 := by rw [hwa, World.size_alloc]
 have hx : wa.heap[w.heap.size]? = some (.cells (specC name max star) 55 (0, 0)) := by rw [hwa]; exact box_newR w _ _
 have hy : w0.heap[wa.heap.size]? = some (.cells (valC kind sv A2 l2.length c2 A3 l3.length c3) 44 (0, 0)) := by rw [hw0]; exact box_newR wa _ _
 rw [hza] at hy
 have HS0 := Lib.hid (box_belowR hbb hx)
 have HV0 := Lib.hid hy
 have HB0 := Lib.hid (below_step hba hbb)
 have HC2 := Lib.hid hr2
 have HC3 := Lib.hid hr3
 have K2 := Lib.hid hc2
 have K3 := Lib.hid hc3
 have hw : w0 = (w.alloc (.cells (specC name max star) 55)).alloc (.cells (valC kind sv A2 l2.length c2 A3 l3.length c3) 44) := by rw [hw0, hwa]
 unfold specC valC at hw
 have HW := Lib.hid hw
 have HOf := Lib.hid hof
 clear hw hwa hw0 hba hbb hza hx hy hr2 hc2 hr3 hc3 hof
 cases ok with
 | false =>
  rw [if_pos rfl] at h
  injection h with h
  simp only [Prod.mk.injEq] at h
  obtain ⟨rfl, rfl, rfl⟩ := h
  go_enter Tryz.func81, Tryz.ntmps81
  go_wp2_with (first
   | (go_at_call 107; rw [← HW.out]; refine (piece_of.calls op R false _ HOf.out).mono ?_; rintro e w1 ⟨q, rfl, hq, hqw, hb⟩; have HS1 := Lib.hid (box_belowR hb HS0.out); have HV1 := Lib.hid (box_belowR hb HV0.out); have HQ1 := Lib.hid hq; have HB1 := Lib.hid (below_step HB0.out hb); clear hq hqw hb; unfold wayV)
   | (refine wpList_store_box rfl 162 (.tmp 9) (.tmp 14) rfl w1.heap.size 162 #[.string ⟨#[]⟩, .string ⟨#[]⟩, .bool false, .string ⟨#[]⟩, .bool false, .nilFunc] (wayC R q) (by rfl) (by rfl) (box_newR w1 _ _) (by rfl) (by kernel_rfl) (by simp [Value.oneCell', encV, wayC]) ?_; intro w2 hyy hgr hsz; have hb : Below w1.heap.size w1 w2 := (below_grown ((Below.refl _ w1).alloc (Nat.le_refl _) _) (Nat.le_refl _) hgr (by rw [World.size_alloc]; exact Nat.lt_succ_self _)); obtain ⟨y, hy⟩ : ∃ y, y = w1.heap.size := ⟨_, rfl⟩; rw [← hy]; rw [← hy] at hyy; have HS2 := Lib.hid (box_belowR hb HS1.out); have HV2 := Lib.hid (box_belowR hb HV1.out); have HY2 := Lib.hid hyy; have HQ2 := Lib.hid (HQ1.out.below hb); have HB2 := Lib.hid (below_step HB1.out hb); clear hb hyy hy hgr hsz; have s0 := Lib.cell_of_heap HS2.out 0; have s1 := Lib.cell_of_heap HS2.out 1; have s2 := Lib.cell_of_heap HS2.out 2; have v0 := Lib.cell_of_heap HV2.out 0; have v1 := Lib.cell_of_heap HV2.out 1; have v2 := Lib.cell_of_heap HV2.out 2; have v3 := Lib.cell_of_heap HV2.out 3; have y0 := Lib.cell_of_heap HY2.out 0; have y1 := Lib.cell_of_heap HY2.out 1; have y2 := Lib.cell_of_heap HY2.out 2; have y3 := Lib.cell_of_heap HY2.out 3; have y4 := Lib.cell_of_heap HY2.out 4; have y5 := Lib.cell_of_heap HY2.out 5; simp only [specC, valC, wayC, encV, List.getElem?_toArray, List.getElem?_cons_zero, List.getElem?_cons_succ] at s0 s1 s2 v0 v1 v2 v3 y0 y1 y2 y3 y4 y5))
  go_ret3
  exact ⟨rfl, HB2.out⟩
 | true =>
  rw [if_neg (by simp)] at h
  obtain ⟨m, hm, h⟩ := Option.bind_eq_some_iff.1 h
  have HM := Lib.hid hm
  clear hm
  cases m with
  | false =>
   rw [if_pos rfl] at h
   injection h with h
   simp only [Prod.mk.injEq] at h
   obtain ⟨rfl, rfl, rfl⟩ := h
   go_enter Tryz.func81, Tryz.ntmps81
   go_wp2_with (first
    | (go_at_call 107; rw [← HW.out]; refine (piece_of.calls op R true _ HOf.out).mono ?_; rintro e w1 ⟨q, rfl, hq, hqw, hb⟩; have HS1 := Lib.hid (box_belowR hb HS0.out); have HV1 := Lib.hid (box_belowR hb HV0.out); have HQ1 := Lib.hid hq; have HB1 := Lib.hid (below_step HB0.out hb); clear hq hqw hb; unfold wayV)
    | (refine wpList_store_box rfl 162 (.tmp 9) (.tmp 14) rfl w1.heap.size 162 #[.string ⟨#[]⟩, .string ⟨#[]⟩, .bool false, .string ⟨#[]⟩, .bool false, .nilFunc] (wayC R q) (by rfl) (by rfl) (box_newR w1 _ _) (by rfl) (by kernel_rfl) (by simp [Value.oneCell', encV, wayC]) ?_; intro w2 hyy hgr hsz; have hb : Below w1.heap.size w1 w2 := (below_grown ((Below.refl _ w1).alloc (Nat.le_refl _) _) (Nat.le_refl _) hgr (by rw [World.size_alloc]; exact Nat.lt_succ_self _)); obtain ⟨y, hy⟩ : ∃ y, y = w1.heap.size := ⟨_, rfl⟩; rw [← hy]; rw [← hy] at hyy; have HS2 := Lib.hid (box_belowR hb HS1.out); have HV2 := Lib.hid (box_belowR hb HV1.out); have HY2 := Lib.hid hyy; have HQ2 := Lib.hid (HQ1.out.below hb); have HB2 := Lib.hid (below_step HB1.out hb); clear hb hyy hy hgr hsz; have s0 := Lib.cell_of_heap HS2.out 0; have s1 := Lib.cell_of_heap HS2.out 1; have s2 := Lib.cell_of_heap HS2.out 2; have v0 := Lib.cell_of_heap HV2.out 0; have v1 := Lib.cell_of_heap HV2.out 1; have v2 := Lib.cell_of_heap HV2.out 2; have v3 := Lib.cell_of_heap HV2.out 3; have y0 := Lib.cell_of_heap HY2.out 0; have y1 := Lib.cell_of_heap HY2.out 1; have y2 := Lib.cell_of_heap HY2.out 2; have y3 := Lib.cell_of_heap HY2.out 3; have y4 := Lib.cell_of_heap HY2.out 4; have y5 := Lib.cell_of_heap HY2.out 5; simp only [specC, valC, wayC, encV, List.getElem?_toArray, List.getElem?_cons_zero, List.getElem?_cons_succ] at s0 s1 s2 v0 v1 v2 v3 y0 y1 y2 y3 y4 y5)
    | (go_at_call 104; refine (spec_May.calls name max star _ _ HM.out).mono ?_; rintro e w3 ⟨rfl, hb⟩; have HS3 := Lib.hid (box_belowR hb HS2.out); have HV3 := Lib.hid (box_belowR hb HV2.out); have HY3 := Lib.hid (box_belowR hb HY2.out); have HQ3 := Lib.hid (HQ2.out.below hb); have HB3 := Lib.hid (below_step HB2.out hb); clear hb; clear s0 s1 s2 v0 v1 v2 v3 y0 y1 y2 y3 y4 y5; have s0 := Lib.cell_of_heap HS3.out 0; have s1 := Lib.cell_of_heap HS3.out 1; have s2 := Lib.cell_of_heap HS3.out 2; have v0 := Lib.cell_of_heap HV3.out 0; have v1 := Lib.cell_of_heap HV3.out 1; have v2 := Lib.cell_of_heap HV3.out 2; have v3 := Lib.cell_of_heap HV3.out 3; have y0 := Lib.cell_of_heap HY3.out 0; have y1 := Lib.cell_of_heap HY3.out 1; have y2 := Lib.cell_of_heap HY3.out 2; have y3 := Lib.cell_of_heap HY3.out 3; have y4 := Lib.cell_of_heap HY3.out 4; have y5 := Lib.cell_of_heap HY3.out 5; simp only [specC, valC, wayC, encV, List.getElem?_toArray, List.getElem?_cons_zero, List.getElem?_cons_succ] at s0 s1 s2 v0 v1 v2 v3 y0 y1 y2 y3 y4 y5))
   go_ret3
   exact ⟨rfl, HB3.out⟩
  | true =>
   rw [if_neg (by simp)] at h
   obtain ⟨d, hd, h⟩ := Option.bind_eq_some_iff.1 h
   have HD := Lib.hid hd
   clear hd
   cases d with
   | false =>
    rw [if_pos rfl] at h
    injection h with h
    simp only [Prod.mk.injEq] at h
    obtain ⟨rfl, rfl, rfl⟩ := h
    go_enter Tryz.func81, Tryz.ntmps81
    go_wp2_with (first
     | (go_at_call 107; rw [← HW.out]; refine (piece_of.calls op R true _ HOf.out).mono ?_; rintro e w1 ⟨q, rfl, hq, hqw, hb⟩; have HS1 := Lib.hid (box_belowR hb HS0.out); have HV1 := Lib.hid (box_belowR hb HV0.out); have HQ1 := Lib.hid hq; have HB1 := Lib.hid (below_step HB0.out hb); clear hq hqw hb; unfold wayV)
     | (refine wpList_store_box rfl 162 (.tmp 9) (.tmp 14) rfl w1.heap.size 162 #[.string ⟨#[]⟩, .string ⟨#[]⟩, .bool false, .string ⟨#[]⟩, .bool false, .nilFunc] (wayC R q) (by rfl) (by rfl) (box_newR w1 _ _) (by rfl) (by kernel_rfl) (by simp [Value.oneCell', encV, wayC]) ?_; intro w2 hyy hgr hsz; have hb : Below w1.heap.size w1 w2 := (below_grown ((Below.refl _ w1).alloc (Nat.le_refl _) _) (Nat.le_refl _) hgr (by rw [World.size_alloc]; exact Nat.lt_succ_self _)); obtain ⟨y, hy⟩ : ∃ y, y = w1.heap.size := ⟨_, rfl⟩; rw [← hy]; rw [← hy] at hyy; have HS2 := Lib.hid (box_belowR hb HS1.out); have HV2 := Lib.hid (box_belowR hb HV1.out); have HY2 := Lib.hid hyy; have HQ2 := Lib.hid (HQ1.out.below hb); have HB2 := Lib.hid (below_step HB1.out hb); clear hb hyy hy hgr hsz; have s0 := Lib.cell_of_heap HS2.out 0; have s1 := Lib.cell_of_heap HS2.out 1; have s2 := Lib.cell_of_heap HS2.out 2; have v0 := Lib.cell_of_heap HV2.out 0; have v1 := Lib.cell_of_heap HV2.out 1; have v2 := Lib.cell_of_heap HV2.out 2; have v3 := Lib.cell_of_heap HV2.out 3; have y0 := Lib.cell_of_heap HY2.out 0; have y1 := Lib.cell_of_heap HY2.out 1; have y2 := Lib.cell_of_heap HY2.out 2; have y3 := Lib.cell_of_heap HY2.out 3; have y4 := Lib.cell_of_heap HY2.out 4; have y5 := Lib.cell_of_heap HY2.out 5; simp only [specC, valC, wayC, encV, List.getElem?_toArray, List.getElem?_cons_zero, List.getElem?_cons_succ] at s0 s1 s2 v0 v1 v2 v3 y0 y1 y2 y3 y4 y5)
     | (go_at_call 104; refine (spec_May.calls name max star _ _ HM.out).mono ?_; rintro e w3 ⟨rfl, hb⟩; have HS3 := Lib.hid (box_belowR hb HS2.out); have HV3 := Lib.hid (box_belowR hb HV2.out); have HY3 := Lib.hid (box_belowR hb HY2.out); have HQ3 := Lib.hid (HQ2.out.below hb); have HB3 := Lib.hid (below_step HB2.out hb); clear hb; clear s0 s1 s2 v0 v1 v2 v3 y0 y1 y2 y3 y4 y5; have s0 := Lib.cell_of_heap HS3.out 0; have s1 := Lib.cell_of_heap HS3.out 1; have s2 := Lib.cell_of_heap HS3.out 2; have v0 := Lib.cell_of_heap HV3.out 0; have v1 := Lib.cell_of_heap HV3.out 1; have v2 := Lib.cell_of_heap HV3.out 2; have v3 := Lib.cell_of_heap HV3.out 3; have y0 := Lib.cell_of_heap HY3.out 0; have y1 := Lib.cell_of_heap HY3.out 1; have y2 := Lib.cell_of_heap HY3.out 2; have y3 := Lib.cell_of_heap HY3.out 3; have y4 := Lib.cell_of_heap HY3.out 4; have y5 := Lib.cell_of_heap HY3.out 5; simp only [specC, valC, wayC, encV, List.getElem?_toArray, List.getElem?_cons_zero, List.getElem?_cons_succ] at s0 s1 s2 v0 v1 v2 v3 y0 y1 y2 y3 y4 y5)
     | (go_at_call 108; refine (value_Defined.calls k _ sv A2 c2 l2 A3 c3 l3 _ _ (Kd.C_below HC2.out HB3.out) K2.out (Kd.C_below HC3.out HB3.out) K3.out HD.out).mono ?_; rintro e w4 ⟨rfl, hb⟩; have HS4 := Lib.hid (box_belowR hb HS3.out); have HV4 := Lib.hid (box_belowR hb HV3.out); have HY4 := Lib.hid (box_belowR hb HY3.out); have HQ4 := Lib.hid (HQ3.out.below hb); have HB4 := Lib.hid (below_step HB3.out hb); clear hb; clear s0 s1 s2 v0 v1 v2 v3 y0 y1 y2 y3 y4 y5; have s0 := Lib.cell_of_heap HS4.out 0; have s1 := Lib.cell_of_heap HS4.out 1; have s2 := Lib.cell_of_heap HS4.out 2; have v0 := Lib.cell_of_heap HV4.out 0; have v1 := Lib.cell_of_heap HV4.out 1; have v2 := Lib.cell_of_heap HV4.out 2; have v3 := Lib.cell_of_heap HV4.out 3; have y0 := Lib.cell_of_heap HY4.out 0; have y1 := Lib.cell_of_heap HY4.out 1; have y2 := Lib.cell_of_heap HY4.out 2; have y3 := Lib.cell_of_heap HY4.out 3; have y4 := Lib.cell_of_heap HY4.out 4; have y5 := Lib.cell_of_heap HY4.out 5; simp only [specC, valC, wayC, encV, List.getElem?_toArray, List.getElem?_cons_zero, List.getElem?_cons_succ] at s0 s1 s2 v0 v1 v2 v3 y0 y1 y2 y3 y4 y5))
    go_ret3
    exact ⟨rfl, HB4.out⟩
   | true =>
    rw [if_neg (by simp)] at h
    by_cases hc : max > 0 ∧ kind ≠ 1
    · rw [if_pos hc] at h
      injection h with h
      simp only [Prod.mk.injEq] at h
      obtain ⟨rfl, rfl, rfl⟩ := h
      obtain ⟨hc1, hc2⟩ := hc
      go_enter Tryz.func81, Tryz.ntmps81
      go_wp2_with (first
       | (go_at_call 107; rw [← HW.out]; refine (piece_of.calls op R true _ HOf.out).mono ?_; rintro e w1 ⟨q, rfl, hq, hqw, hb⟩; have HS1 := Lib.hid (box_belowR hb HS0.out); have HV1 := Lib.hid (box_belowR hb HV0.out); have HQ1 := Lib.hid hq; have HB1 := Lib.hid (below_step HB0.out hb); clear hq hqw hb; unfold wayV)
       | (refine wpList_store_box rfl 162 (.tmp 9) (.tmp 14) rfl w1.heap.size 162 #[.string ⟨#[]⟩, .string ⟨#[]⟩, .bool false, .string ⟨#[]⟩, .bool false, .nilFunc] (wayC R q) (by rfl) (by rfl) (box_newR w1 _ _) (by rfl) (by kernel_rfl) (by simp [Value.oneCell', encV, wayC]) ?_; intro w2 hyy hgr hsz; have hb : Below w1.heap.size w1 w2 := (below_grown ((Below.refl _ w1).alloc (Nat.le_refl _) _) (Nat.le_refl _) hgr (by rw [World.size_alloc]; exact Nat.lt_succ_self _)); obtain ⟨y, hy⟩ : ∃ y, y = w1.heap.size := ⟨_, rfl⟩; rw [← hy]; rw [← hy] at hyy; have HS2 := Lib.hid (box_belowR hb HS1.out); have HV2 := Lib.hid (box_belowR hb HV1.out); have HY2 := Lib.hid hyy; have HQ2 := Lib.hid (HQ1.out.below hb); have HB2 := Lib.hid (below_step HB1.out hb); clear hb hyy hy hgr hsz; have s0 := Lib.cell_of_heap HS2.out 0; have s1 := Lib.cell_of_heap HS2.out 1; have s2 := Lib.cell_of_heap HS2.out 2; have v0 := Lib.cell_of_heap HV2.out 0; have v1 := Lib.cell_of_heap HV2.out 1; have v2 := Lib.cell_of_heap HV2.out 2; have v3 := Lib.cell_of_heap HV2.out 3; have y0 := Lib.cell_of_heap HY2.out 0; have y1 := Lib.cell_of_heap HY2.out 1; have y2 := Lib.cell_of_heap HY2.out 2; have y3 := Lib.cell_of_heap HY2.out 3; have y4 := Lib.cell_of_heap HY2.out 4; have y5 := Lib.cell_of_heap HY2.out 5; simp only [specC, valC, wayC, encV, List.getElem?_toArray, List.getElem?_cons_zero, List.getElem?_cons_succ] at s0 s1 s2 v0 v1 v2 v3 y0 y1 y2 y3 y4 y5)
       | (go_at_call 104; refine (spec_May.calls name max star _ _ HM.out).mono ?_; rintro e w3 ⟨rfl, hb⟩; have HS3 := Lib.hid (box_belowR hb HS2.out); have HV3 := Lib.hid (box_belowR hb HV2.out); have HY3 := Lib.hid (box_belowR hb HY2.out); have HQ3 := Lib.hid (HQ2.out.below hb); have HB3 := Lib.hid (below_step HB2.out hb); clear hb; clear s0 s1 s2 v0 v1 v2 v3 y0 y1 y2 y3 y4 y5; have s0 := Lib.cell_of_heap HS3.out 0; have s1 := Lib.cell_of_heap HS3.out 1; have s2 := Lib.cell_of_heap HS3.out 2; have v0 := Lib.cell_of_heap HV3.out 0; have v1 := Lib.cell_of_heap HV3.out 1; have v2 := Lib.cell_of_heap HV3.out 2; have v3 := Lib.cell_of_heap HV3.out 3; have y0 := Lib.cell_of_heap HY3.out 0; have y1 := Lib.cell_of_heap HY3.out 1; have y2 := Lib.cell_of_heap HY3.out 2; have y3 := Lib.cell_of_heap HY3.out 3; have y4 := Lib.cell_of_heap HY3.out 4; have y5 := Lib.cell_of_heap HY3.out 5; simp only [specC, valC, wayC, encV, List.getElem?_toArray, List.getElem?_cons_zero, List.getElem?_cons_succ] at s0 s1 s2 v0 v1 v2 v3 y0 y1 y2 y3 y4 y5)
       | (go_at_call 108; refine (value_Defined.calls k _ sv A2 c2 l2 A3 c3 l3 _ _ (Kd.C_below HC2.out HB3.out) K2.out (Kd.C_below HC3.out HB3.out) K3.out HD.out).mono ?_; rintro e w4 ⟨rfl, hb⟩; have HS4 := Lib.hid (box_belowR hb HS3.out); have HV4 := Lib.hid (box_belowR hb HV3.out); have HY4 := Lib.hid (box_belowR hb HY3.out); have HQ4 := Lib.hid (HQ3.out.below hb); have HB4 := Lib.hid (below_step HB3.out hb); clear hb; clear s0 s1 s2 v0 v1 v2 v3 y0 y1 y2 y3 y4 y5; have s0 := Lib.cell_of_heap HS4.out 0; have s1 := Lib.cell_of_heap HS4.out 1; have s2 := Lib.cell_of_heap HS4.out 2; have v0 := Lib.cell_of_heap HV4.out 0; have v1 := Lib.cell_of_heap HV4.out 1; have v2 := Lib.cell_of_heap HV4.out 2; have v3 := Lib.cell_of_heap HV4.out 3; have y0 := Lib.cell_of_heap HY4.out 0; have y1 := Lib.cell_of_heap HY4.out 1; have y2 := Lib.cell_of_heap HY4.out 2; have y3 := Lib.cell_of_heap HY4.out 3; have y4 := Lib.cell_of_heap HY4.out 4; have y5 := Lib.cell_of_heap HY4.out 5; simp only [specC, valC, wayC, encV, List.getElem?_toArray, List.getElem?_cons_zero, List.getElem?_cons_succ] at s0 s1 s2 v0 v1 v2 v3 y0 y1 y2 y3 y4 y5))
      go_ret3
      exact ⟨rfl, HB4.out⟩
    · rw [if_neg hc] at h
      obtain ⟨va, hva, h⟩ := Option.bind_eq_some_iff.1 h
      have HVa := Lib.hid hva
      clear hva
      have hcc : (max > 0 ∧ kind = 1) ∨ ¬ max > 0 := by
       by_cases h1 : max > 0
       · by_cases h2 : kind = 1
         · exact .inl ⟨h1, h2⟩
         · exact absurd ⟨h1, h2⟩ hc
       · exact .inr h1
      clear hc
      cases va with
      | false =>
       rw [if_pos rfl] at h
       injection h with h
       simp only [Prod.mk.injEq] at h
       obtain ⟨rfl, rfl, rfl⟩ := h
       rcases hcc with ⟨hc1, hc2⟩ | hc1
       · subst hc2
         go_enter Tryz.func81, Tryz.ntmps81
         go_wp2_with (first
          | (go_at_call 107; rw [← HW.out]; refine (piece_of.calls op R true _ HOf.out).mono ?_; rintro e w1 ⟨q, rfl, hq, hqw, hb⟩; have HS1 := Lib.hid (box_belowR hb HS0.out); have HV1 := Lib.hid (box_belowR hb HV0.out); have HQ1 := Lib.hid hq; have HB1 := Lib.hid (below_step HB0.out hb); clear hq hqw hb; unfold wayV)
          | (refine wpList_store_box rfl 162 (.tmp 9) (.tmp 14) rfl w1.heap.size 162 #[.string ⟨#[]⟩, .string ⟨#[]⟩, .bool false, .string ⟨#[]⟩, .bool false, .nilFunc] (wayC R q) (by rfl) (by rfl) (box_newR w1 _ _) (by rfl) (by kernel_rfl) (by simp [Value.oneCell', encV, wayC]) ?_; intro w2 hyy hgr hsz; have hb : Below w1.heap.size w1 w2 := (below_grown ((Below.refl _ w1).alloc (Nat.le_refl _) _) (Nat.le_refl _) hgr (by rw [World.size_alloc]; exact Nat.lt_succ_self _)); obtain ⟨y, hy⟩ : ∃ y, y = w1.heap.size := ⟨_, rfl⟩; rw [← hy]; rw [← hy] at hyy; have HS2 := Lib.hid (box_belowR hb HS1.out); have HV2 := Lib.hid (box_belowR hb HV1.out); have HY2 := Lib.hid hyy; have HQ2 := Lib.hid (HQ1.out.below hb); have HB2 := Lib.hid (below_step HB1.out hb); clear hb hyy hy hgr hsz; have s0 := Lib.cell_of_heap HS2.out 0; have s1 := Lib.cell_of_heap HS2.out 1; have s2 := Lib.cell_of_heap HS2.out 2; have v0 := Lib.cell_of_heap HV2.out 0; have v1 := Lib.cell_of_heap HV2.out 1; have v2 := Lib.cell_of_heap HV2.out 2; have v3 := Lib.cell_of_heap HV2.out 3; have y0 := Lib.cell_of_heap HY2.out 0; have y1 := Lib.cell_of_heap HY2.out 1; have y2 := Lib.cell_of_heap HY2.out 2; have y3 := Lib.cell_of_heap HY2.out 3; have y4 := Lib.cell_of_heap HY2.out 4; have y5 := Lib.cell_of_heap HY2.out 5; simp only [specC, valC, wayC, encV, List.getElem?_toArray, List.getElem?_cons_zero, List.getElem?_cons_succ] at s0 s1 s2 v0 v1 v2 v3 y0 y1 y2 y3 y4 y5)
          | (go_at_call 104; refine (spec_May.calls name max star _ _ HM.out).mono ?_; rintro e w3 ⟨rfl, hb⟩; have HS3 := Lib.hid (box_belowR hb HS2.out); have HV3 := Lib.hid (box_belowR hb HV2.out); have HY3 := Lib.hid (box_belowR hb HY2.out); have HQ3 := Lib.hid (HQ2.out.below hb); have HB3 := Lib.hid (below_step HB2.out hb); clear hb; clear s0 s1 s2 v0 v1 v2 v3 y0 y1 y2 y3 y4 y5; have s0 := Lib.cell_of_heap HS3.out 0; have s1 := Lib.cell_of_heap HS3.out 1; have s2 := Lib.cell_of_heap HS3.out 2; have v0 := Lib.cell_of_heap HV3.out 0; have v1 := Lib.cell_of_heap HV3.out 1; have v2 := Lib.cell_of_heap HV3.out 2; have v3 := Lib.cell_of_heap HV3.out 3; have y0 := Lib.cell_of_heap HY3.out 0; have y1 := Lib.cell_of_heap HY3.out 1; have y2 := Lib.cell_of_heap HY3.out 2; have y3 := Lib.cell_of_heap HY3.out 3; have y4 := Lib.cell_of_heap HY3.out 4; have y5 := Lib.cell_of_heap HY3.out 5; simp only [specC, valC, wayC, encV, List.getElem?_toArray, List.getElem?_cons_zero, List.getElem?_cons_succ] at s0 s1 s2 v0 v1 v2 v3 y0 y1 y2 y3 y4 y5)
          | (go_at_call 108; refine (value_Defined.calls k _ sv A2 c2 l2 A3 c3 l3 _ _ (Kd.C_below HC2.out HB3.out) K2.out (Kd.C_below HC3.out HB3.out) K3.out HD.out).mono ?_; rintro e w4 ⟨rfl, hb⟩; have HS4 := Lib.hid (box_belowR hb HS3.out); have HV4 := Lib.hid (box_belowR hb HV3.out); have HY4 := Lib.hid (box_belowR hb HY3.out); have HQ4 := Lib.hid (HQ3.out.below hb); have HB4 := Lib.hid (below_step HB3.out hb); clear hb; clear s0 s1 s2 v0 v1 v2 v3 y0 y1 y2 y3 y4 y5; have s0 := Lib.cell_of_heap HS4.out 0; have s1 := Lib.cell_of_heap HS4.out 1; have s2 := Lib.cell_of_heap HS4.out 2; have v0 := Lib.cell_of_heap HV4.out 0; have v1 := Lib.cell_of_heap HV4.out 1; have v2 := Lib.cell_of_heap HV4.out 2; have v3 := Lib.cell_of_heap HV4.out 3; have y0 := Lib.cell_of_heap HY4.out 0; have y1 := Lib.cell_of_heap HY4.out 1; have y2 := Lib.cell_of_heap HY4.out 2; have y3 := Lib.cell_of_heap HY4.out 3; have y4 := Lib.cell_of_heap HY4.out 4; have y5 := Lib.cell_of_heap HY4.out 5; simp only [specC, valC, wayC, encV, List.getElem?_toArray, List.getElem?_cons_zero, List.getElem?_cons_succ] at s0 s1 s2 v0 v1 v2 v3 y0 y1 y2 y3 y4 y5)
          | (go_at_call 109; refine (value_Valid.calls k _ sv A2 c2 l2 A3 c3 l3 _ _ (Kd.C_below HC2.out HB4.out) K2.out (Kd.C_below HC3.out HB4.out) K3.out HVa.out).mono ?_; rintro e w5 ⟨rfl, hb⟩; have HS5 := Lib.hid (box_belowR hb HS4.out); have HV5 := Lib.hid (box_belowR hb HV4.out); have HY5 := Lib.hid (box_belowR hb HY4.out); have HQ5 := Lib.hid (HQ4.out.below hb); have HB5 := Lib.hid (below_step HB4.out hb); clear hb; clear s0 s1 s2 v0 v1 v2 v3 y0 y1 y2 y3 y4 y5; have s0 := Lib.cell_of_heap HS5.out 0; have s1 := Lib.cell_of_heap HS5.out 1; have s2 := Lib.cell_of_heap HS5.out 2; have v0 := Lib.cell_of_heap HV5.out 0; have v1 := Lib.cell_of_heap HV5.out 1; have v2 := Lib.cell_of_heap HV5.out 2; have v3 := Lib.cell_of_heap HV5.out 3; have y0 := Lib.cell_of_heap HY5.out 0; have y1 := Lib.cell_of_heap HY5.out 1; have y2 := Lib.cell_of_heap HY5.out 2; have y3 := Lib.cell_of_heap HY5.out 3; have y4 := Lib.cell_of_heap HY5.out 4; have y5 := Lib.cell_of_heap HY5.out 5; simp only [specC, valC, wayC, encV, List.getElem?_toArray, List.getElem?_cons_zero, List.getElem?_cons_succ] at s0 s1 s2 v0 v1 v2 v3 y0 y1 y2 y3 y4 y5))
         go_ret3
         exact ⟨rfl, HB5.out⟩
       ·
        go_enter Tryz.func81, Tryz.ntmps81
        go_wp2_with (first
         | (go_at_call 107; rw [← HW.out]; refine (piece_of.calls op R true _ HOf.out).mono ?_; rintro e w1 ⟨q, rfl, hq, hqw, hb⟩; have HS1 := Lib.hid (box_belowR hb HS0.out); have HV1 := Lib.hid (box_belowR hb HV0.out); have HQ1 := Lib.hid hq; have HB1 := Lib.hid (below_step HB0.out hb); clear hq hqw hb; unfold wayV)
         | (refine wpList_store_box rfl 162 (.tmp 9) (.tmp 14) rfl w1.heap.size 162 #[.string ⟨#[]⟩, .string ⟨#[]⟩, .bool false, .string ⟨#[]⟩, .bool false, .nilFunc] (wayC R q) (by rfl) (by rfl) (box_newR w1 _ _) (by rfl) (by kernel_rfl) (by simp [Value.oneCell', encV, wayC]) ?_; intro w2 hyy hgr hsz; have hb : Below w1.heap.size w1 w2 := (below_grown ((Below.refl _ w1).alloc (Nat.le_refl _) _) (Nat.le_refl _) hgr (by rw [World.size_alloc]; exact Nat.lt_succ_self _)); obtain ⟨y, hy⟩ : ∃ y, y = w1.heap.size := ⟨_, rfl⟩; rw [← hy]; rw [← hy] at hyy; have HS2 := Lib.hid (box_belowR hb HS1.out); have HV2 := Lib.hid (box_belowR hb HV1.out); have HY2 := Lib.hid hyy; have HQ2 := Lib.hid (HQ1.out.below hb); have HB2 := Lib.hid (below_step HB1.out hb); clear hb hyy hy hgr hsz; have s0 := Lib.cell_of_heap HS2.out 0; have s1 := Lib.cell_of_heap HS2.out 1; have s2 := Lib.cell_of_heap HS2.out 2; have v0 := Lib.cell_of_heap HV2.out 0; have v1 := Lib.cell_of_heap HV2.out 1; have v2 := Lib.cell_of_heap HV2.out 2; have v3 := Lib.cell_of_heap HV2.out 3; have y0 := Lib.cell_of_heap HY2.out 0; have y1 := Lib.cell_of_heap HY2.out 1; have y2 := Lib.cell_of_heap HY2.out 2; have y3 := Lib.cell_of_heap HY2.out 3; have y4 := Lib.cell_of_heap HY2.out 4; have y5 := Lib.cell_of_heap HY2.out 5; simp only [specC, valC, wayC, encV, List.getElem?_toArray, List.getElem?_cons_zero, List.getElem?_cons_succ] at s0 s1 s2 v0 v1 v2 v3 y0 y1 y2 y3 y4 y5)
         | (go_at_call 104; refine (spec_May.calls name max star _ _ HM.out).mono ?_; rintro e w3 ⟨rfl, hb⟩; have HS3 := Lib.hid (box_belowR hb HS2.out); have HV3 := Lib.hid (box_belowR hb HV2.out); have HY3 := Lib.hid (box_belowR hb HY2.out); have HQ3 := Lib.hid (HQ2.out.below hb); have HB3 := Lib.hid (below_step HB2.out hb); clear hb; clear s0 s1 s2 v0 v1 v2 v3 y0 y1 y2 y3 y4 y5; have s0 := Lib.cell_of_heap HS3.out 0; have s1 := Lib.cell_of_heap HS3.out 1; have s2 := Lib.cell_of_heap HS3.out 2; have v0 := Lib.cell_of_heap HV3.out 0; have v1 := Lib.cell_of_heap HV3.out 1; have v2 := Lib.cell_of_heap HV3.out 2; have v3 := Lib.cell_of_heap HV3.out 3; have y0 := Lib.cell_of_heap HY3.out 0; have y1 := Lib.cell_of_heap HY3.out 1; have y2 := Lib.cell_of_heap HY3.out 2; have y3 := Lib.cell_of_heap HY3.out 3; have y4 := Lib.cell_of_heap HY3.out 4; have y5 := Lib.cell_of_heap HY3.out 5; simp only [specC, valC, wayC, encV, List.getElem?_toArray, List.getElem?_cons_zero, List.getElem?_cons_succ] at s0 s1 s2 v0 v1 v2 v3 y0 y1 y2 y3 y4 y5)
         | (go_at_call 108; refine (value_Defined.calls k _ sv A2 c2 l2 A3 c3 l3 _ _ (Kd.C_below HC2.out HB3.out) K2.out (Kd.C_below HC3.out HB3.out) K3.out HD.out).mono ?_; rintro e w4 ⟨rfl, hb⟩; have HS4 := Lib.hid (box_belowR hb HS3.out); have HV4 := Lib.hid (box_belowR hb HV3.out); have HY4 := Lib.hid (box_belowR hb HY3.out); have HQ4 := Lib.hid (HQ3.out.below hb); have HB4 := Lib.hid (below_step HB3.out hb); clear hb; clear s0 s1 s2 v0 v1 v2 v3 y0 y1 y2 y3 y4 y5; have s0 := Lib.cell_of_heap HS4.out 0; have s1 := Lib.cell_of_heap HS4.out 1; have s2 := Lib.cell_of_heap HS4.out 2; have v0 := Lib.cell_of_heap HV4.out 0; have v1 := Lib.cell_of_heap HV4.out 1; have v2 := Lib.cell_of_heap HV4.out 2; have v3 := Lib.cell_of_heap HV4.out 3; have y0 := Lib.cell_of_heap HY4.out 0; have y1 := Lib.cell_of_heap HY4.out 1; have y2 := Lib.cell_of_heap HY4.out 2; have y3 := Lib.cell_of_heap HY4.out 3; have y4 := Lib.cell_of_heap HY4.out 4; have y5 := Lib.cell_of_heap HY4.out 5; simp only [specC, valC, wayC, encV, List.getElem?_toArray, List.getElem?_cons_zero, List.getElem?_cons_succ] at s0 s1 s2 v0 v1 v2 v3 y0 y1 y2 y3 y4 y5)
         | (go_at_call 109; refine (value_Valid.calls k _ sv A2 c2 l2 A3 c3 l3 _ _ (Kd.C_below HC2.out HB4.out) K2.out (Kd.C_below HC3.out HB4.out) K3.out HVa.out).mono ?_; rintro e w5 ⟨rfl, hb⟩; have HS5 := Lib.hid (box_belowR hb HS4.out); have HV5 := Lib.hid (box_belowR hb HV4.out); have HY5 := Lib.hid (box_belowR hb HY4.out); have HQ5 := Lib.hid (HQ4.out.below hb); have HB5 := Lib.hid (below_step HB4.out hb); clear hb; clear s0 s1 s2 v0 v1 v2 v3 y0 y1 y2 y3 y4 y5; have s0 := Lib.cell_of_heap HS5.out 0; have s1 := Lib.cell_of_heap HS5.out 1; have s2 := Lib.cell_of_heap HS5.out 2; have v0 := Lib.cell_of_heap HV5.out 0; have v1 := Lib.cell_of_heap HV5.out 1; have v2 := Lib.cell_of_heap HV5.out 2; have v3 := Lib.cell_of_heap HV5.out 3; have y0 := Lib.cell_of_heap HY5.out 0; have y1 := Lib.cell_of_heap HY5.out 1; have y2 := Lib.cell_of_heap HY5.out 2; have y3 := Lib.cell_of_heap HY5.out 3; have y4 := Lib.cell_of_heap HY5.out 4; have y5 := Lib.cell_of_heap HY5.out 5; simp only [specC, valC, wayC, encV, List.getElem?_toArray, List.getElem?_cons_zero, List.getElem?_cons_succ] at s0 s1 s2 v0 v1 v2 v3 y0 y1 y2 y3 y4 y5))
        go_ret3
        exact ⟨rfl, HB5.out⟩
      | true =>
       rw [if_neg (by simp)] at h
       obtain ⟨t, ht, h⟩ := Option.map_eq_some_iff.1 h
       simp only [Prod.mk.injEq] at h
       obtain ⟨rfl, rfl, rfl⟩ := h
       unfold oneText at ht
       by_cases hk : kind = 1
       · rw [if_pos hk] at ht
         subst hk
         have HT := Lib.hid ht
         clear ht
         have hm : max > 0 ∨ ¬ max > 0 := by omega
         clear hcc
         rcases hm with hm | hm
         all_goals
          go_enter Tryz.func81, Tryz.ntmps81
          go_wp2_with (first
           | (go_at_call 107; rw [← HW.out]; refine (piece_of.calls op R true _ HOf.out).mono ?_; rintro e w1 ⟨q, rfl, hq, hqw, hb⟩; have HS1 := Lib.hid (box_belowR hb HS0.out); have HV1 := Lib.hid (box_belowR hb HV0.out); have HQ1 := Lib.hid hq; have HB1 := Lib.hid (below_step HB0.out hb); clear hq hqw hb; unfold wayV)
           | (refine wpList_store_box rfl 162 (.tmp 9) (.tmp 14) rfl w1.heap.size 162 #[.string ⟨#[]⟩, .string ⟨#[]⟩, .bool false, .string ⟨#[]⟩, .bool false, .nilFunc] (wayC R q) (by rfl) (by rfl) (box_newR w1 _ _) (by rfl) (by kernel_rfl) (by simp [Value.oneCell', encV, wayC]) ?_; intro w2 hyy hgr hsz; have hb : Below w1.heap.size w1 w2 := (below_grown ((Below.refl _ w1).alloc (Nat.le_refl _) _) (Nat.le_refl _) hgr (by rw [World.size_alloc]; exact Nat.lt_succ_self _)); obtain ⟨y, hy⟩ : ∃ y, y = w1.heap.size := ⟨_, rfl⟩; rw [← hy]; rw [← hy] at hyy; have HS2 := Lib.hid (box_belowR hb HS1.out); have HV2 := Lib.hid (box_belowR hb HV1.out); have HY2 := Lib.hid hyy; have HQ2 := Lib.hid (HQ1.out.below hb); have HB2 := Lib.hid (below_step HB1.out hb); clear hb hyy hy hgr hsz; have s0 := Lib.cell_of_heap HS2.out 0; have s1 := Lib.cell_of_heap HS2.out 1; have s2 := Lib.cell_of_heap HS2.out 2; have v0 := Lib.cell_of_heap HV2.out 0; have v1 := Lib.cell_of_heap HV2.out 1; have v2 := Lib.cell_of_heap HV2.out 2; have v3 := Lib.cell_of_heap HV2.out 3; have y0 := Lib.cell_of_heap HY2.out 0; have y1 := Lib.cell_of_heap HY2.out 1; have y2 := Lib.cell_of_heap HY2.out 2; have y3 := Lib.cell_of_heap HY2.out 3; have y4 := Lib.cell_of_heap HY2.out 4; have y5 := Lib.cell_of_heap HY2.out 5; simp only [specC, valC, wayC, encV, List.getElem?_toArray, List.getElem?_cons_zero, List.getElem?_cons_succ] at s0 s1 s2 v0 v1 v2 v3 y0 y1 y2 y3 y4 y5)
           | (go_at_call 104; refine (spec_May.calls name max star _ _ HM.out).mono ?_; rintro e w3 ⟨rfl, hb⟩; have HS3 := Lib.hid (box_belowR hb HS2.out); have HV3 := Lib.hid (box_belowR hb HV2.out); have HY3 := Lib.hid (box_belowR hb HY2.out); have HQ3 := Lib.hid (HQ2.out.below hb); have HB3 := Lib.hid (below_step HB2.out hb); clear hb; clear s0 s1 s2 v0 v1 v2 v3 y0 y1 y2 y3 y4 y5; have s0 := Lib.cell_of_heap HS3.out 0; have s1 := Lib.cell_of_heap HS3.out 1; have s2 := Lib.cell_of_heap HS3.out 2; have v0 := Lib.cell_of_heap HV3.out 0; have v1 := Lib.cell_of_heap HV3.out 1; have v2 := Lib.cell_of_heap HV3.out 2; have v3 := Lib.cell_of_heap HV3.out 3; have y0 := Lib.cell_of_heap HY3.out 0; have y1 := Lib.cell_of_heap HY3.out 1; have y2 := Lib.cell_of_heap HY3.out 2; have y3 := Lib.cell_of_heap HY3.out 3; have y4 := Lib.cell_of_heap HY3.out 4; have y5 := Lib.cell_of_heap HY3.out 5; simp only [specC, valC, wayC, encV, List.getElem?_toArray, List.getElem?_cons_zero, List.getElem?_cons_succ] at s0 s1 s2 v0 v1 v2 v3 y0 y1 y2 y3 y4 y5)
           | (go_at_call 108; refine (value_Defined.calls k _ sv A2 c2 l2 A3 c3 l3 _ _ (Kd.C_below HC2.out HB3.out) K2.out (Kd.C_below HC3.out HB3.out) K3.out HD.out).mono ?_; rintro e w4 ⟨rfl, hb⟩; have HS4 := Lib.hid (box_belowR hb HS3.out); have HV4 := Lib.hid (box_belowR hb HV3.out); have HY4 := Lib.hid (box_belowR hb HY3.out); have HQ4 := Lib.hid (HQ3.out.below hb); have HB4 := Lib.hid (below_step HB3.out hb); clear hb; clear s0 s1 s2 v0 v1 v2 v3 y0 y1 y2 y3 y4 y5; have s0 := Lib.cell_of_heap HS4.out 0; have s1 := Lib.cell_of_heap HS4.out 1; have s2 := Lib.cell_of_heap HS4.out 2; have v0 := Lib.cell_of_heap HV4.out 0; have v1 := Lib.cell_of_heap HV4.out 1; have v2 := Lib.cell_of_heap HV4.out 2; have v3 := Lib.cell_of_heap HV4.out 3; have y0 := Lib.cell_of_heap HY4.out 0; have y1 := Lib.cell_of_heap HY4.out 1; have y2 := Lib.cell_of_heap HY4.out 2; have y3 := Lib.cell_of_heap HY4.out 3; have y4 := Lib.cell_of_heap HY4.out 4; have y5 := Lib.cell_of_heap HY4.out 5; simp only [specC, valC, wayC, encV, List.getElem?_toArray, List.getElem?_cons_zero, List.getElem?_cons_succ] at s0 s1 s2 v0 v1 v2 v3 y0 y1 y2 y3 y4 y5)
           | (go_at_call 109; refine (value_Valid.calls k _ sv A2 c2 l2 A3 c3 l3 _ _ (Kd.C_below HC2.out HB4.out) K2.out (Kd.C_below HC3.out HB4.out) K3.out HVa.out).mono ?_; rintro e w5 ⟨rfl, hb⟩; have HS5 := Lib.hid (box_belowR hb HS4.out); have HV5 := Lib.hid (box_belowR hb HV4.out); have HY5 := Lib.hid (box_belowR hb HY4.out); have HQ5 := Lib.hid (HQ4.out.below hb); have HB5 := Lib.hid (below_step HB4.out hb); clear hb; clear s0 s1 s2 v0 v1 v2 v3 y0 y1 y2 y3 y4 y5; have s0 := Lib.cell_of_heap HS5.out 0; have s1 := Lib.cell_of_heap HS5.out 1; have s2 := Lib.cell_of_heap HS5.out 2; have v0 := Lib.cell_of_heap HV5.out 0; have v1 := Lib.cell_of_heap HV5.out 1; have v2 := Lib.cell_of_heap HV5.out 2; have v3 := Lib.cell_of_heap HV5.out 3; have y0 := Lib.cell_of_heap HY5.out 0; have y1 := Lib.cell_of_heap HY5.out 1; have y2 := Lib.cell_of_heap HY5.out 2; have y3 := Lib.cell_of_heap HY5.out 3; have y4 := Lib.cell_of_heap HY5.out 4; have y5 := Lib.cell_of_heap HY5.out 5; simp only [specC, valC, wayC, encV, List.getElem?_toArray, List.getElem?_cons_zero, List.getElem?_cons_succ] at s0 s1 s2 v0 v1 v2 v3 y0 y1 y2 y3 y4 y5)
           | (go_at_call 110; refine (way_text.calls R q name max star sv t _ HQ5.out HT.out).mono ?_; rintro e w6 ⟨rfl, hb⟩; have HB6 := Lib.hid (below_step HB5.out hb); clear hb))
          go_ret3
          exact ⟨rfl, HB6.out⟩
       · rw [if_neg hk] at ht
         have hm : ¬ max > 0 := by
          rcases hcc with ⟨-, hc⟩ | hc
          · exact absurd hc hk
          · exact hc
         clear hcc
         cases star with
         | true =>
          rw [if_pos rfl] at ht
          have HT := Lib.hid ht
          clear ht
          go_enter Tryz.func81, Tryz.ntmps81
          go_wp2_with (first
           | (go_at_call 107; rw [← HW.out]; refine (piece_of.calls op R true _ HOf.out).mono ?_; rintro e w1 ⟨q, rfl, hq, hqw, hb⟩; have HS1 := Lib.hid (box_belowR hb HS0.out); have HV1 := Lib.hid (box_belowR hb HV0.out); have HQ1 := Lib.hid hq; have HB1 := Lib.hid (below_step HB0.out hb); clear hq hqw hb; unfold wayV)
           | (refine wpList_store_box rfl 162 (.tmp 9) (.tmp 14) rfl w1.heap.size 162 #[.string ⟨#[]⟩, .string ⟨#[]⟩, .bool false, .string ⟨#[]⟩, .bool false, .nilFunc] (wayC R q) (by rfl) (by rfl) (box_newR w1 _ _) (by rfl) (by kernel_rfl) (by simp [Value.oneCell', encV, wayC]) ?_; intro w2 hyy hgr hsz; have hb : Below w1.heap.size w1 w2 := (below_grown ((Below.refl _ w1).alloc (Nat.le_refl _) _) (Nat.le_refl _) hgr (by rw [World.size_alloc]; exact Nat.lt_succ_self _)); obtain ⟨y, hy⟩ : ∃ y, y = w1.heap.size := ⟨_, rfl⟩; rw [← hy]; rw [← hy] at hyy; have HS2 := Lib.hid (box_belowR hb HS1.out); have HV2 := Lib.hid (box_belowR hb HV1.out); have HY2 := Lib.hid hyy; have HQ2 := Lib.hid (HQ1.out.below hb); have HB2 := Lib.hid (below_step HB1.out hb); clear hb hyy hy hgr hsz; have s0 := Lib.cell_of_heap HS2.out 0; have s1 := Lib.cell_of_heap HS2.out 1; have s2 := Lib.cell_of_heap HS2.out 2; have v0 := Lib.cell_of_heap HV2.out 0; have v1 := Lib.cell_of_heap HV2.out 1; have v2 := Lib.cell_of_heap HV2.out 2; have v3 := Lib.cell_of_heap HV2.out 3; have y0 := Lib.cell_of_heap HY2.out 0; have y1 := Lib.cell_of_heap HY2.out 1; have y2 := Lib.cell_of_heap HY2.out 2; have y3 := Lib.cell_of_heap HY2.out 3; have y4 := Lib.cell_of_heap HY2.out 4; have y5 := Lib.cell_of_heap HY2.out 5; simp only [specC, valC, wayC, encV, List.getElem?_toArray, List.getElem?_cons_zero, List.getElem?_cons_succ] at s0 s1 s2 v0 v1 v2 v3 y0 y1 y2 y3 y4 y5)
           | (go_at_call 104; refine (spec_May.calls name max true _ _ HM.out).mono ?_; rintro e w3 ⟨rfl, hb⟩; have HS3 := Lib.hid (box_belowR hb HS2.out); have HV3 := Lib.hid (box_belowR hb HV2.out); have HY3 := Lib.hid (box_belowR hb HY2.out); have HQ3 := Lib.hid (HQ2.out.below hb); have HB3 := Lib.hid (below_step HB2.out hb); clear hb; clear s0 s1 s2 v0 v1 v2 v3 y0 y1 y2 y3 y4 y5; have s0 := Lib.cell_of_heap HS3.out 0; have s1 := Lib.cell_of_heap HS3.out 1; have s2 := Lib.cell_of_heap HS3.out 2; have v0 := Lib.cell_of_heap HV3.out 0; have v1 := Lib.cell_of_heap HV3.out 1; have v2 := Lib.cell_of_heap HV3.out 2; have v3 := Lib.cell_of_heap HV3.out 3; have y0 := Lib.cell_of_heap HY3.out 0; have y1 := Lib.cell_of_heap HY3.out 1; have y2 := Lib.cell_of_heap HY3.out 2; have y3 := Lib.cell_of_heap HY3.out 3; have y4 := Lib.cell_of_heap HY3.out 4; have y5 := Lib.cell_of_heap HY3.out 5; simp only [specC, valC, wayC, encV, List.getElem?_toArray, List.getElem?_cons_zero, List.getElem?_cons_succ] at s0 s1 s2 v0 v1 v2 v3 y0 y1 y2 y3 y4 y5)
           | (go_at_call 108; refine (value_Defined.calls k _ sv A2 c2 l2 A3 c3 l3 _ _ (Kd.C_below HC2.out HB3.out) K2.out (Kd.C_below HC3.out HB3.out) K3.out HD.out).mono ?_; rintro e w4 ⟨rfl, hb⟩; have HS4 := Lib.hid (box_belowR hb HS3.out); have HV4 := Lib.hid (box_belowR hb HV3.out); have HY4 := Lib.hid (box_belowR hb HY3.out); have HQ4 := Lib.hid (HQ3.out.below hb); have HB4 := Lib.hid (below_step HB3.out hb); clear hb; clear s0 s1 s2 v0 v1 v2 v3 y0 y1 y2 y3 y4 y5; have s0 := Lib.cell_of_heap HS4.out 0; have s1 := Lib.cell_of_heap HS4.out 1; have s2 := Lib.cell_of_heap HS4.out 2; have v0 := Lib.cell_of_heap HV4.out 0; have v1 := Lib.cell_of_heap HV4.out 1; have v2 := Lib.cell_of_heap HV4.out 2; have v3 := Lib.cell_of_heap HV4.out 3; have y0 := Lib.cell_of_heap HY4.out 0; have y1 := Lib.cell_of_heap HY4.out 1; have y2 := Lib.cell_of_heap HY4.out 2; have y3 := Lib.cell_of_heap HY4.out 3; have y4 := Lib.cell_of_heap HY4.out 4; have y5 := Lib.cell_of_heap HY4.out 5; simp only [specC, valC, wayC, encV, List.getElem?_toArray, List.getElem?_cons_zero, List.getElem?_cons_succ] at s0 s1 s2 v0 v1 v2 v3 y0 y1 y2 y3 y4 y5)
           | (go_at_call 109; refine (value_Valid.calls k _ sv A2 c2 l2 A3 c3 l3 _ _ (Kd.C_below HC2.out HB4.out) K2.out (Kd.C_below HC3.out HB4.out) K3.out HVa.out).mono ?_; rintro e w5 ⟨rfl, hb⟩; have HS5 := Lib.hid (box_belowR hb HS4.out); have HV5 := Lib.hid (box_belowR hb HV4.out); have HY5 := Lib.hid (box_belowR hb HY4.out); have HQ5 := Lib.hid (HQ4.out.below hb); have HB5 := Lib.hid (below_step HB4.out hb); clear hb; clear s0 s1 s2 v0 v1 v2 v3 y0 y1 y2 y3 y4 y5; have s0 := Lib.cell_of_heap HS5.out 0; have s1 := Lib.cell_of_heap HS5.out 1; have s2 := Lib.cell_of_heap HS5.out 2; have v0 := Lib.cell_of_heap HV5.out 0; have v1 := Lib.cell_of_heap HV5.out 1; have v2 := Lib.cell_of_heap HV5.out 2; have v3 := Lib.cell_of_heap HV5.out 3; have y0 := Lib.cell_of_heap HY5.out 0; have y1 := Lib.cell_of_heap HY5.out 1; have y2 := Lib.cell_of_heap HY5.out 2; have y3 := Lib.cell_of_heap HY5.out 3; have y4 := Lib.cell_of_heap HY5.out 4; have y5 := Lib.cell_of_heap HY5.out 5; simp only [specC, valC, wayC, encV, List.getElem?_toArray, List.getElem?_cons_zero, List.getElem?_cons_succ] at s0 s1 s2 v0 v1 v2 v3 y0 y1 y2 y3 y4 y5)
           | (go_at_call 111; refine (way_star.calls R q name max true _ sv A2 c2 l2 A3 c3 l3 t _ HQ5.out (Kd.C_below HC2.out HB5.out) K2.out (Kd.C_below HC3.out HB5.out) K3.out HT.out).mono ?_; rintro e w6 ⟨rfl, hb⟩; have HB6 := Lib.hid (below_step HB5.out hb); clear hb))
          go_ret3
          exact ⟨rfl, HB6.out⟩
         | false =>
          rw [if_neg (by simp)] at ht
          have HT := Lib.hid ht
          clear ht
          go_enter Tryz.func81, Tryz.ntmps81
          go_wp2_with (first
           | (go_at_call 107; rw [← HW.out]; refine (piece_of.calls op R true _ HOf.out).mono ?_; rintro e w1 ⟨q, rfl, hq, hqw, hb⟩; have HS1 := Lib.hid (box_belowR hb HS0.out); have HV1 := Lib.hid (box_belowR hb HV0.out); have HQ1 := Lib.hid hq; have HB1 := Lib.hid (below_step HB0.out hb); clear hq hqw hb; unfold wayV)
           | (refine wpList_store_box rfl 162 (.tmp 9) (.tmp 14) rfl w1.heap.size 162 #[.string ⟨#[]⟩, .string ⟨#[]⟩, .bool false, .string ⟨#[]⟩, .bool false, .nilFunc] (wayC R q) (by rfl) (by rfl) (box_newR w1 _ _) (by rfl) (by kernel_rfl) (by simp [Value.oneCell', encV, wayC]) ?_; intro w2 hyy hgr hsz; have hb : Below w1.heap.size w1 w2 := (below_grown ((Below.refl _ w1).alloc (Nat.le_refl _) _) (Nat.le_refl _) hgr (by rw [World.size_alloc]; exact Nat.lt_succ_self _)); obtain ⟨y, hy⟩ : ∃ y, y = w1.heap.size := ⟨_, rfl⟩; rw [← hy]; rw [← hy] at hyy; have HS2 := Lib.hid (box_belowR hb HS1.out); have HV2 := Lib.hid (box_belowR hb HV1.out); have HY2 := Lib.hid hyy; have HQ2 := Lib.hid (HQ1.out.below hb); have HB2 := Lib.hid (below_step HB1.out hb); clear hb hyy hy hgr hsz; have s0 := Lib.cell_of_heap HS2.out 0; have s1 := Lib.cell_of_heap HS2.out 1; have s2 := Lib.cell_of_heap HS2.out 2; have v0 := Lib.cell_of_heap HV2.out 0; have v1 := Lib.cell_of_heap HV2.out 1; have v2 := Lib.cell_of_heap HV2.out 2; have v3 := Lib.cell_of_heap HV2.out 3; have y0 := Lib.cell_of_heap HY2.out 0; have y1 := Lib.cell_of_heap HY2.out 1; have y2 := Lib.cell_of_heap HY2.out 2; have y3 := Lib.cell_of_heap HY2.out 3; have y4 := Lib.cell_of_heap HY2.out 4; have y5 := Lib.cell_of_heap HY2.out 5; simp only [specC, valC, wayC, encV, List.getElem?_toArray, List.getElem?_cons_zero, List.getElem?_cons_succ] at s0 s1 s2 v0 v1 v2 v3 y0 y1 y2 y3 y4 y5)
           | (go_at_call 104; refine (spec_May.calls name max false _ _ HM.out).mono ?_; rintro e w3 ⟨rfl, hb⟩; have HS3 := Lib.hid (box_belowR hb HS2.out); have HV3 := Lib.hid (box_belowR hb HV2.out); have HY3 := Lib.hid (box_belowR hb HY2.out); have HQ3 := Lib.hid (HQ2.out.below hb); have HB3 := Lib.hid (below_step HB2.out hb); clear hb; clear s0 s1 s2 v0 v1 v2 v3 y0 y1 y2 y3 y4 y5; have s0 := Lib.cell_of_heap HS3.out 0; have s1 := Lib.cell_of_heap HS3.out 1; have s2 := Lib.cell_of_heap HS3.out 2; have v0 := Lib.cell_of_heap HV3.out 0; have v1 := Lib.cell_of_heap HV3.out 1; have v2 := Lib.cell_of_heap HV3.out 2; have v3 := Lib.cell_of_heap HV3.out 3; have y0 := Lib.cell_of_heap HY3.out 0; have y1 := Lib.cell_of_heap HY3.out 1; have y2 := Lib.cell_of_heap HY3.out 2; have y3 := Lib.cell_of_heap HY3.out 3; have y4 := Lib.cell_of_heap HY3.out 4; have y5 := Lib.cell_of_heap HY3.out 5; simp only [specC, valC, wayC, encV, List.getElem?_toArray, List.getElem?_cons_zero, List.getElem?_cons_succ] at s0 s1 s2 v0 v1 v2 v3 y0 y1 y2 y3 y4 y5)
           | (go_at_call 108; refine (value_Defined.calls k _ sv A2 c2 l2 A3 c3 l3 _ _ (Kd.C_below HC2.out HB3.out) K2.out (Kd.C_below HC3.out HB3.out) K3.out HD.out).mono ?_; rintro e w4 ⟨rfl, hb⟩; have HS4 := Lib.hid (box_belowR hb HS3.out); have HV4 := Lib.hid (box_belowR hb HV3.out); have HY4 := Lib.hid (box_belowR hb HY3.out); have HQ4 := Lib.hid (HQ3.out.below hb); have HB4 := Lib.hid (below_step HB3.out hb); clear hb; clear s0 s1 s2 v0 v1 v2 v3 y0 y1 y2 y3 y4 y5; have s0 := Lib.cell_of_heap HS4.out 0; have s1 := Lib.cell_of_heap HS4.out 1; have s2 := Lib.cell_of_heap HS4.out 2; have v0 := Lib.cell_of_heap HV4.out 0; have v1 := Lib.cell_of_heap HV4.out 1; have v2 := Lib.cell_of_heap HV4.out 2; have v3 := Lib.cell_of_heap HV4.out 3; have y0 := Lib.cell_of_heap HY4.out 0; have y1 := Lib.cell_of_heap HY4.out 1; have y2 := Lib.cell_of_heap HY4.out 2; have y3 := Lib.cell_of_heap HY4.out 3; have y4 := Lib.cell_of_heap HY4.out 4; have y5 := Lib.cell_of_heap HY4.out 5; simp only [specC, valC, wayC, encV, List.getElem?_toArray, List.getElem?_cons_zero, List.getElem?_cons_succ] at s0 s1 s2 v0 v1 v2 v3 y0 y1 y2 y3 y4 y5)
           | (go_at_call 109; refine (value_Valid.calls k _ sv A2 c2 l2 A3 c3 l3 _ _ (Kd.C_below HC2.out HB4.out) K2.out (Kd.C_below HC3.out HB4.out) K3.out HVa.out).mono ?_; rintro e w5 ⟨rfl, hb⟩; have HS5 := Lib.hid (box_belowR hb HS4.out); have HV5 := Lib.hid (box_belowR hb HV4.out); have HY5 := Lib.hid (box_belowR hb HY4.out); have HQ5 := Lib.hid (HQ4.out.below hb); have HB5 := Lib.hid (below_step HB4.out hb); clear hb; clear s0 s1 s2 v0 v1 v2 v3 y0 y1 y2 y3 y4 y5; have s0 := Lib.cell_of_heap HS5.out 0; have s1 := Lib.cell_of_heap HS5.out 1; have s2 := Lib.cell_of_heap HS5.out 2; have v0 := Lib.cell_of_heap HV5.out 0; have v1 := Lib.cell_of_heap HV5.out 1; have v2 := Lib.cell_of_heap HV5.out 2; have v3 := Lib.cell_of_heap HV5.out 3; have y0 := Lib.cell_of_heap HY5.out 0; have y1 := Lib.cell_of_heap HY5.out 1; have y2 := Lib.cell_of_heap HY5.out 2; have y3 := Lib.cell_of_heap HY5.out 3; have y4 := Lib.cell_of_heap HY5.out 4; have y5 := Lib.cell_of_heap HY5.out 5; simp only [specC, valC, wayC, encV, List.getElem?_toArray, List.getElem?_cons_zero, List.getElem?_cons_succ] at s0 s1 s2 v0 v1 v2 v3 y0 y1 y2 y3 y4 y5)
           | (go_at_call 112; refine (way_whole.calls k R q name max false _ sv A2 c2 l2 A3 c3 l3 t _ HQ5.out (Kd.C_below HC2.out HB5.out) K2.out (Kd.C_below HC3.out HB5.out) K3.out HT.out).mono ?_; rintro e w6 ⟨rfl, hb⟩; have HB6 := Lib.hid (below_step HB5.out hb); clear hb))
          go_ret3
          exact ⟨rfl, HB6.out⟩
end Go.Proofs.YtlocbpaikdgmbaaGreatDoor.P
end
section
namespace Go.Proofs.YtlocbpaikdgmbaaGreatDoor.P
open Go Go.RowKit Go.Shelf Go.Proofs.YtlocbpaikdgmbaaGreatDoorW.PrintWords Go.Proofs.YtlocbpaikdgmbaaGreatDoorW.PrintLast Go.Proofs.YtlocbpaikdgmbaaGreatDoorW.PrintMore
set_option linter.unusedVariables false
set_option linter.unusedSimpArgs false
attribute [local go_sem] Oper.semAt_some
theorem grown_of_below {A B : World} (hb : Below A.heap.size A B) : A.grownBy B none := ⟨hb.os, hb.tape, hb.output, hb.size, fun k hk _ => hb.block k hk⟩
theorem abides_below {β : Type} {n : Nat} {J : β → World → Prop} (hJ : AbidesFrom n J) {s : β} {A B : World} (h : J s A) (hb : Below A.heap.size A B) : J s B := hJ s A B none h (grown_of_below hb) (fun r e => by cases e)
def pieceR (k : Nat) (op : Int) (a : List S46) (x : S55) : Option (ByteArray × Bool × Int) := (bind_Get.f k a x.f0).bind fun v => piece_One.f k op x.f0 x.f1 x.f2 v.1.f0 v.1.f1 v.1.f2 v.1.f3
def textsO (k : Nat) (op : Int) (a : List S46) : List S55 → Option (List (ByteArray × Int))
 | [] => some []
 | x :: r => (pieceR k op a x).bind fun p => (textsO k op a r).map fun l => if p.2.1 = true ∨ p.2.2 ≠ 0 then (p.1, p.2.2) :: l else l
theorem textsO_cons {k : Nat} {op : Int} {a : List S46} {x : S55} {r : List S55} {l : List (ByteArray × Int)} (h : textsO k op a (x :: r) = some l) :
 ∃ v d s b e l', bind_Get.f k a x.f0 = some (v, d) ∧ piece_One.f k op x.f0 x.f1 x.f2 v.f0 v.f1 v.f2 v.f3 = some (s, b, e) ∧ textsO k op a r = some l' ∧ l = if b = true ∨ e ≠ 0 then (s, e) :: l' else l' := by
 unfold textsO at h
 obtain ⟨p, hp, h⟩ := Option.bind_eq_some_iff.1 h
 obtain ⟨l', hl, h⟩ := Option.map_eq_some_iff.1 h
 unfold pieceR at hp
 obtain ⟨⟨v, d⟩, hv, hp⟩ := Option.bind_eq_some_iff.1 hp
 exact ⟨v, d, p.1, p.2.1, p.2.2, l', hv, hp, hl, h.symm⟩
theorem spec_at (l : List S55) (i : Nat) (h : i < l.length) : ∃ y, rd_T55 l (i : Int) = y ∧ l.drop i = y :: l.drop (i + 1) := by
 refine ⟨l[i], ?_, (List.drop_eq_getElem_cons h)⟩
 simp [rd_T55, h]
set_option maxRecDepth 100000 in
set_option maxHeartbeats 2000000 in
theorem texts1 (k n l Bp Ba : Nat) (S : Nat → Prop) (op : Int) (lit : ByteArray) (A : Option Addr) (c : Nat) (sp : List S55) (Aa : Option Addr) (ca : Nat) (a : List S46) (xs : List (ByteArray × Int)) (w0 W : World) (J Jx : List (ByteArray × Int) → World → Prop) (hn : 1 ≤ n) (hlen : sp.length < 8796093022208)
 (hJ : AbidesFrom W.heap.size J)
 (hY : ∀ pre x W, J pre W → pre.length < xs.length → YieldAt Fence.wide (n - 1) Tryz.prog l #[.string x.1, .int .i64 x.2] W fun e W' =>
  (e = .returned (.bool true) ∧ J (pre ++ [x]) W' ∧ KeepB S W W') ∨ (e = .returned (.bool false) ∧ Jx (pre ++ [x]) W'))
 (hb : Below w0.heap.size w0 W) (hS : ∀ k, k < w0.heap.size → S k) (hSp : S Bp) (hSa : S Ba) (hC : Kd.C k55 w0 A sp.length sp) (hCa : Kd.C k46 w0 Aa a.length a) (hca : a.length ≤ ca)
 (hBp : W.heap[Bp]? = some (.cells #[.string lit, .int .u8 op, .slice A sp.length c] 31 (0, 0))) (hBa : W.heap[Ba]? = some (.cells #[.slice Aa a.length ca] 23 (0, 0))) (h0 : J [] W) (ht : textsO k op a sp = some xs) :
 CallsIn Fence.wide n Tryz.prog 79 #[.func (.yield l) #[] #[], .pointer (some ⟨Bp, 0, none⟩), .pointer (some ⟨Ba, 0, none⟩)] W fun e W' => (∃ v, e = .returned v) ∧
  ((∃ ys, ys = xs ∧ J ys W') ∨ (∃ pre, pre <+: xs ∧ Jx pre W')) := by
 refine callsIn_of_wp Tryz.func79 rfl trivial ?_ rfl
 simp only [Tryz.ntmps79, List.size_toArray, List.length_cons, List.length_nil, Nat.reduceAdd, Nat.reduceSub, Array.replicate_succ, Array.replicate_zero, List.push_toArray, List.append_toArray, List.nil_append, List.cons_append]
 have b0 := Lib.cell_of_heap hBp 0
 have b1 := Lib.cell_of_heap hBp 1
 have b2 := Lib.cell_of_heap hBp 2
 have b3 := Lib.cell_of_heap hBa 0
 simp only [List.getElem?_toArray, List.getElem?_cons_zero, List.getElem?_cons_succ] at b0 b1 b2 b3
 have HC := Lib.hid hC
 have HCa := Lib.hid hCa
 have HKa := Lib.hid hca
 have HL := Lib.hid hlen
 have HP := Lib.hid hBp
 have HA := Lib.hid hBa
 have HT := Lib.hid ht
 clear hC hCa hca hBp hBa ht
 gi_wp2
 gi_loopw [14] (fun i wr => ∃ (m : Nat) (pre rest : List (ByteArray × Int)), m ≤ sp.length ∧ i = .int .i64 (m : Int) ∧ Hid (xs = pre ++ rest) ∧ Hid (textsO k op a (sp.drop m) = some rest) ∧ Hid (J pre wr) ∧ Hid (KeepB S W wr))
  (fun i _ => sp.length - (intOf i).toNat)
 case atStart => exact ⟨0, [], xs, Nat.zero_le _, rfl, Lib.hid rfl, Lib.hid HT.out, Lib.hid h0, Lib.hid (KeepB.refl _ _)⟩
 case round =>
  obtain ⟨m, pre, rest, hm, rfl, HX, HTm, HJ, HK⟩ := hrel
  have HPr := Lib.hid ((HK.out.block Bp hSp (Array.getElem?_eq_some_iff.1 HP.out).1).trans HP.out)
  have HAr := Lib.hid ((HK.out.block Ba hSa (Array.getElem?_eq_some_iff.1 HA.out).1).trans HA.out)
  have hmx := HL.out
  by_cases hlt : m < sp.length
  · have HBW := Lib.hid (hb.trans (HK.out.below hS hb.size))
    obtain ⟨y, hy, hd⟩ := spec_at sp m hlt
    have ht := HTm.out
    rw [hd] at ht
    obtain ⟨v, d, s, b, e, l', hg, ho, htl, hxs⟩ := textsO_cons ht
    obtain ⟨ad, rfl, x0, x1, x2⟩ := at_T55 HC.out (m : Int) (by omega) (by omega)
    rw [hy] at x0 x1 x2
    simp only [Int.toNat_natCast] at x0 x1 x2
    have hblk : (ad.add (m * 3)).block < w0.heap.size := World.block_lt_of_cell? w0 _ x0
    have r0 := below_cell HBW.out x0 hblk
    have r1 := below_cell HBW.out x1 hblk
    have r2 := below_cell HBW.out x2 hblk
    have q3 := Lib.cell_of_heap (alloc_old (o := .cells #[.string y.f0, .int .i64 y.f1, .bool y.f2] 55) HAr.out) 0
    simp only [List.getElem?_toArray, List.getElem?_cons_zero, List.getElem?_cons_succ] at q3
    have HG := Lib.hid hg
    have HO := Lib.hid ho
    have HTl := Lib.hid htl
    have HXs := Lib.hid hxs
    clear x0 x1 x2 hy hd ht hg ho htl hxs
    cases b with
    | true =>
     have HXy : Hid (rest = (s, e) :: l') := Lib.hid (by rw [HXs.out, if_pos (Or.inl rfl)])
     have HLN : Hid (pre.length < xs.length) := Lib.hid (by rw [HX.out, HXy.out, List.length_append, List.length_cons]; omega)
     gi_wp2_with (first | (refine ⟨trivial, ?_⟩; gi_at_call 80; refine (callsIn_wide.2 (bind_Get.calls k Aa ca a y.f0 v d _ (Kd.C_below HCa.out (below_alloc HBW.out _)) HKa.out HG.out)).mono ?_; rintro e1 w1 ⟨A2, c2, A3, c3, rfl, hV, hb1⟩; have hbA : Below wr.heap.size wr w1 := below_step ((Below.refl wr.heap.size wr).alloc (Nat.le_refl _) (.cells #[.string y.f0, .int .i64 y.f1, .bool y.f2] 55)) hb1; have HX1 := Lib.hid (alloc_old (o := .cells #[.int .i64 v.f0, .string v.f1, .slice A2 v.f2.length c2, .slice A3 v.f3.length c3] 44) ((hb1.block _ (by simp)).trans (alloc_at (o := .cells #[.string y.f0, .int .i64 y.f1, .bool y.f2] 55) (w := wr) rfl))); have HU := Lib.hid (alloc_at (o := .cells #[.int .i64 v.f0, .string v.f1, .slice A2 v.f2.length c2, .slice A3 v.f3.length c3] 44) (w := w1) rfl); have HP1 := Lib.hid (alloc_old (o := .cells #[.int .i64 v.f0, .string v.f1, .slice A2 v.f2.length c2, .slice A3 v.f3.length c3] 44) ((hbA.block _ (Array.getElem?_eq_some_iff.1 HPr.out).1).trans HPr.out)); have HV := Lib.hid (hV.below ((Below.refl w1.heap.size w1).alloc (Nat.le_refl _) (.cells #[.int .i64 v.f0, .string v.f1, .slice A2 v.f2.length c2, .slice A3 v.f3.length c3] 44))); have HbA := Lib.hid (hbA.alloc hbA.size (.cells #[.int .i64 v.f0, .string v.f1, .slice A2 v.f2.length c2, .slice A3 v.f3.length c3] 44)); clear hV hb1 hbA q3 r0 r1 r2; have p0 := Lib.cell_of_heap HP1.out 0; have p1 := Lib.cell_of_heap HP1.out 1; have p2 := Lib.cell_of_heap HP1.out 2; have x0 := Lib.cell_of_heap HX1.out 0; have x1 := Lib.cell_of_heap HX1.out 1; have x2 := Lib.cell_of_heap HX1.out 2; have u0 := Lib.cell_of_heap HU.out 0; have u1 := Lib.cell_of_heap HU.out 1; have u2 := Lib.cell_of_heap HU.out 2; have u3 := Lib.cell_of_heap HU.out 3; simp only [List.getElem?_toArray, List.getElem?_cons_zero, List.getElem?_cons_succ] at p0 p1 p2 x0 x1 x2 u0 u1 u2 u3) | (refine ⟨trivial, ?_⟩; gi_at_call 81; obtain ⟨V2, V3, eV, hR2, hR3⟩ := HV.out; cases eV; refine (callsIn_wide.2 (piece_One.calls k op y.f0 y.f1 y.f2 v.f0 v.f1 A2 c2 v.f2 A3 c3 v.f3 _ _ _ _ (Kd.R_reads' hR2).2.2 (Kd.R_reads' hR2).2.1 (Kd.R_reads' hR3).2.2 (Kd.R_reads' hR3).2.1 HO.out)).mono ?_; rintro e2 w3 ⟨rfl, hb3⟩; have HbB := Lib.hid (below_step HbA.out hb3); clear hb3 hR2 hR3 p0 p1 p2 x0 x1 x2 u0 u1 u2 u3; obtain ⟨fn, tmps, assign, body, hyl, hR⟩ := hY pre (s, e) w3 (abides_below hJ HJ.out HbB.out) HLN.out; dsimp only at hyl))
     refine hR.mono ?_
     rintro e' W3 (⟨rfl, hJ3, hk3⟩ | ⟨rfl, hJx3⟩)
     · gi_wp2
       go_roundw
       case rel => exact ⟨m + 1, pre ++ [(s, e)], l', by omega, by go_num, Lib.hid (by rw [HX.out, HXy.out, List.append_assoc]; rfl), Lib.hid HTl.out, Lib.hid hJ3, Lib.hid ((HK.out.trans (.of_new HbB.out)).trans hk3)⟩
       case measure => simp [intOf]; omega
     · gi_wp2
       refine bodyPost_ret (results_none rfl _ _ _) rfl ?_
       exact ⟨⟨_, rfl⟩, .inr ⟨pre ++ [(s, e)], ⟨l', by rw [HX.out, HXy.out, List.append_assoc]; rfl⟩, hJx3⟩⟩
    | false =>
     by_cases he : e = 0
     · subst he
       have HXn : Hid (rest = l') := Lib.hid (by rw [HXs.out, if_neg (by simp)])
       gi_wp2_with (first | (refine ⟨trivial, ?_⟩; gi_at_call 80; refine (callsIn_wide.2 (bind_Get.calls k Aa ca a y.f0 v d _ (Kd.C_below HCa.out (below_alloc HBW.out _)) HKa.out HG.out)).mono ?_; rintro e1 w1 ⟨A2, c2, A3, c3, rfl, hV, hb1⟩; have hbA : Below wr.heap.size wr w1 := below_step ((Below.refl wr.heap.size wr).alloc (Nat.le_refl _) (.cells #[.string y.f0, .int .i64 y.f1, .bool y.f2] 55)) hb1; have HX1 := Lib.hid (alloc_old (o := .cells #[.int .i64 v.f0, .string v.f1, .slice A2 v.f2.length c2, .slice A3 v.f3.length c3] 44) ((hb1.block _ (by simp)).trans (alloc_at (o := .cells #[.string y.f0, .int .i64 y.f1, .bool y.f2] 55) (w := wr) rfl))); have HU := Lib.hid (alloc_at (o := .cells #[.int .i64 v.f0, .string v.f1, .slice A2 v.f2.length c2, .slice A3 v.f3.length c3] 44) (w := w1) rfl); have HP1 := Lib.hid (alloc_old (o := .cells #[.int .i64 v.f0, .string v.f1, .slice A2 v.f2.length c2, .slice A3 v.f3.length c3] 44) ((hbA.block _ (Array.getElem?_eq_some_iff.1 HPr.out).1).trans HPr.out)); have HV := Lib.hid (hV.below ((Below.refl w1.heap.size w1).alloc (Nat.le_refl _) (.cells #[.int .i64 v.f0, .string v.f1, .slice A2 v.f2.length c2, .slice A3 v.f3.length c3] 44))); have HbA := Lib.hid (hbA.alloc hbA.size (.cells #[.int .i64 v.f0, .string v.f1, .slice A2 v.f2.length c2, .slice A3 v.f3.length c3] 44)); clear hV hb1 hbA q3 r0 r1 r2; have p0 := Lib.cell_of_heap HP1.out 0; have p1 := Lib.cell_of_heap HP1.out 1; have p2 := Lib.cell_of_heap HP1.out 2; have x0 := Lib.cell_of_heap HX1.out 0; have x1 := Lib.cell_of_heap HX1.out 1; have x2 := Lib.cell_of_heap HX1.out 2; have u0 := Lib.cell_of_heap HU.out 0; have u1 := Lib.cell_of_heap HU.out 1; have u2 := Lib.cell_of_heap HU.out 2; have u3 := Lib.cell_of_heap HU.out 3; simp only [List.getElem?_toArray, List.getElem?_cons_zero, List.getElem?_cons_succ] at p0 p1 p2 x0 x1 x2 u0 u1 u2 u3) | (refine ⟨trivial, ?_⟩; gi_at_call 81; obtain ⟨V2, V3, eV, hR2, hR3⟩ := HV.out; cases eV; refine (callsIn_wide.2 (piece_One.calls k op y.f0 y.f1 y.f2 v.f0 v.f1 A2 c2 v.f2 A3 c3 v.f3 _ _ _ _ (Kd.R_reads' hR2).2.2 (Kd.R_reads' hR2).2.1 (Kd.R_reads' hR3).2.2 (Kd.R_reads' hR3).2.1 HO.out)).mono ?_; rintro e2 w3 ⟨rfl, hb3⟩; have HbB := Lib.hid (below_step HbA.out hb3); clear hb3 hR2 hR3 p0 p1 p2 x0 x1 x2 u0 u1 u2 u3))
       refine ⟨fun _ h => (by cases h), ?_⟩
       gi_wp2
       go_roundw
       case rel => exact ⟨m + 1, pre, l', by omega, by go_num, Lib.hid (by rw [HX.out, HXn.out]), Lib.hid HTl.out, Lib.hid (abides_below hJ HJ.out HbB.out), Lib.hid (HK.out.trans (.of_new HbB.out))⟩
       case measure => simp [intOf]; omega
     · have HXy : Hid (rest = (s, e) :: l') := Lib.hid (by rw [HXs.out, if_pos (Or.inr he)])
       have HLN : Hid (pre.length < xs.length) := Lib.hid (by rw [HX.out, HXy.out, List.length_append, List.length_cons]; omega)
       gi_wp2_with (first | (refine ⟨trivial, ?_⟩; gi_at_call 80; refine (callsIn_wide.2 (bind_Get.calls k Aa ca a y.f0 v d _ (Kd.C_below HCa.out (below_alloc HBW.out _)) HKa.out HG.out)).mono ?_; rintro e1 w1 ⟨A2, c2, A3, c3, rfl, hV, hb1⟩; have hbA : Below wr.heap.size wr w1 := below_step ((Below.refl wr.heap.size wr).alloc (Nat.le_refl _) (.cells #[.string y.f0, .int .i64 y.f1, .bool y.f2] 55)) hb1; have HX1 := Lib.hid (alloc_old (o := .cells #[.int .i64 v.f0, .string v.f1, .slice A2 v.f2.length c2, .slice A3 v.f3.length c3] 44) ((hb1.block _ (by simp)).trans (alloc_at (o := .cells #[.string y.f0, .int .i64 y.f1, .bool y.f2] 55) (w := wr) rfl))); have HU := Lib.hid (alloc_at (o := .cells #[.int .i64 v.f0, .string v.f1, .slice A2 v.f2.length c2, .slice A3 v.f3.length c3] 44) (w := w1) rfl); have HP1 := Lib.hid (alloc_old (o := .cells #[.int .i64 v.f0, .string v.f1, .slice A2 v.f2.length c2, .slice A3 v.f3.length c3] 44) ((hbA.block _ (Array.getElem?_eq_some_iff.1 HPr.out).1).trans HPr.out)); have HV := Lib.hid (hV.below ((Below.refl w1.heap.size w1).alloc (Nat.le_refl _) (.cells #[.int .i64 v.f0, .string v.f1, .slice A2 v.f2.length c2, .slice A3 v.f3.length c3] 44))); have HbA := Lib.hid (hbA.alloc hbA.size (.cells #[.int .i64 v.f0, .string v.f1, .slice A2 v.f2.length c2, .slice A3 v.f3.length c3] 44)); clear hV hb1 hbA q3 r0 r1 r2; have p0 := Lib.cell_of_heap HP1.out 0; have p1 := Lib.cell_of_heap HP1.out 1; have p2 := Lib.cell_of_heap HP1.out 2; have x0 := Lib.cell_of_heap HX1.out 0; have x1 := Lib.cell_of_heap HX1.out 1; have x2 := Lib.cell_of_heap HX1.out 2; have u0 := Lib.cell_of_heap HU.out 0; have u1 := Lib.cell_of_heap HU.out 1; have u2 := Lib.cell_of_heap HU.out 2; have u3 := Lib.cell_of_heap HU.out 3; simp only [List.getElem?_toArray, List.getElem?_cons_zero, List.getElem?_cons_succ] at p0 p1 p2 x0 x1 x2 u0 u1 u2 u3) | (refine ⟨trivial, ?_⟩; gi_at_call 81; obtain ⟨V2, V3, eV, hR2, hR3⟩ := HV.out; cases eV; refine (callsIn_wide.2 (piece_One.calls k op y.f0 y.f1 y.f2 v.f0 v.f1 A2 c2 v.f2 A3 c3 v.f3 _ _ _ _ (Kd.R_reads' hR2).2.2 (Kd.R_reads' hR2).2.1 (Kd.R_reads' hR3).2.2 (Kd.R_reads' hR3).2.1 HO.out)).mono ?_; rintro e2 w3 ⟨rfl, hb3⟩; have HbB := Lib.hid (below_step HbA.out hb3); clear hb3 hR2 hR3 p0 p1 p2 x0 x1 x2 u0 u1 u2 u3; obtain ⟨fn, tmps, assign, body, hyl, hR⟩ := hY pre (s, e) w3 (abides_below hJ HJ.out HbB.out) HLN.out; dsimp only at hyl))
       refine hR.mono ?_
       rintro e' W3 (⟨rfl, hJ3, hk3⟩ | ⟨rfl, hJx3⟩)
       · gi_wp2
         go_roundw
         case rel => exact ⟨m + 1, pre ++ [(s, e)], l', by omega, by go_num, Lib.hid (by rw [HX.out, HXy.out, List.append_assoc]; rfl), Lib.hid HTl.out, Lib.hid hJ3, Lib.hid ((HK.out.trans (.of_new HbB.out)).trans hk3)⟩
         case measure => simp [intOf]; omega
       · gi_wp2
         refine bodyPost_ret (results_none rfl _ _ _) rfl ?_
         exact ⟨⟨_, rfl⟩, .inr ⟨pre ++ [(s, e)], ⟨l', by rw [HX.out, HXy.out, List.append_assoc]; rfl⟩, hJx3⟩⟩
  · gi_wp2
    go_end0
    refine ⟨⟨_, rfl⟩, .inl ⟨pre, ?_, HJ.out⟩⟩
    have ht := HTm.out
    rw [List.drop_eq_nil_of_le (by omega)] at ht
    have hr : rest = [] := by injection ht with ht; exact ht.symm
    rw [HX.out, hr, List.append_nil]
theorem texts_in (op : Int) (lit : ByteArray) (A : Option Addr) (n c : Nat) (Aa : Option Addr) (na ca : Nat) (w : World) :
 Calls Tryz.prog 50 #[.agg #[.string lit, .int .u8 op, .slice A n c], .slice Aa na ca] w fun e w' => e = .returned (.func (.func 79) #[] #[.pointer (some ⟨w.heap.size, 0, none⟩), .pointer (some ⟨w.heap.size + 1, 0, none⟩)]) ∧
  w' = (w.alloc (.cells #[.string lit, .int .u8 op, .slice A n c] 31)).alloc (.cells #[.slice Aa na ca] 23) := by
 go_enter Tryz.func50, Tryz.ntmps50
 go_wp2
 go_ret
 exact ⟨rfl, rfl⟩
theorem texts_stops (k n Bp Ba : Nat) (S : Nat → Prop) (op : Int) (lit : ByteArray) (A : Option Addr) (c : Nat) (sp : List S55) (Aa : Option Addr) (ca : Nat) (a : List S46) (xs : List (ByteArray × Int)) (w0 w : World) (hn : 1 ≤ n) (hlen : sp.length < 8796093022208)
 (hb : Below w0.heap.size w0 w) (hS : ∀ k, k < w0.heap.size → S k) (hSp : S Bp) (hSa : S Ba) (hC : Kd.C k55 w0 A sp.length sp) (hCa : Kd.C k46 w0 Aa a.length a) (hca : a.length ≤ ca)
 (hBp : w.heap[Bp]? = some (.cells #[.string lit, .int .u8 op, .slice A sp.length c] 31 (0, 0))) (hBa : w.heap[Ba]? = some (.cells #[.slice Aa a.length ca] 23 (0, 0))) (ht : textsO k op a sp = some xs) :
 SeqStopsK Fence.wide n Tryz.prog 79 #[.pointer (some ⟨Bp, 0, none⟩), .pointer (some ⟨Ba, 0, none⟩)] (fun x : ByteArray × Int => #[.string x.1, .int .i64 x.2]) (KeepB S) (fun ys => ys = xs) (fun pre => pre <+: xs) xs.length w := fun l J Jx W hW hJ _ hY h0 =>
 texts1 k n l Bp Ba S op lit A c sp Aa ca a xs w0 W J Jx hn hlen hJ hY (hb.trans (hW.mono hb.size)) hS hSp hSa hC hCa hca ((hW.block _ (Array.getElem?_eq_some_iff.1 hBp).1).trans hBp) ((hW.block _ (Array.getElem?_eq_some_iff.1 hBa).1).trans hBa) h0 ht
end Go.Proofs.YtlocbpaikdgmbaaGreatDoor.P
end
section
namespace Go.Proofs.YtlocbpaikdgmbaaGreatDoor.P
open Go.RowKit Go.Proofs.YtlocbpaikdgmbaaGreatDoorW.PrintWords Go.Proofs.YtlocbpaikdgmbaaGreatDoorW.PrintLast Go.Proofs.YtlocbpaikdgmbaaGreatDoorW.PrintMore
set_option linter.unusedVariables false
set_option linter.unusedSimpArgs false
def spec_behind.f (s : ByteArray) : Option (Int × Bool × Int × Bool) :=
 if s.toList = [] then some (0, true, 0, false)
 else if bt s 0 = 42 then some (1, (s.size : Int) == 1, 0, true)
 else if bt s 0 = 58 then
  (spec_figures.f (s.extract 1 s.size)).bind fun n =>
   (strconv_Atoi.f (s.extract 1 (n + 1).toNat)).bind fun m => some (n + 1, if n > 0 then n + 1 == (s.size : Int) else false, m, false)
 else some (0, false, 0, false)
def SpecCells (w : World) (g : Nat) (nm : ByteArray) (m : Int) (st : Bool) : Prop := w.heap[g]? = some (.cells #[.string nm, .int .i64 m, .bool st] 55 (0, 0))
theorem SpecCells.cell0 {w : World} {g : Nat} {nm : ByteArray} {m : Int} {st : Bool} (h : SpecCells w g nm m st) : w.cell? ⟨g, 0, none⟩ = some (.string nm) := by unfold SpecCells at h; rw [Lib.cell_of_heap h]; rfl
theorem SpecCells.cell1 {w : World} {g : Nat} {nm : ByteArray} {m : Int} {st : Bool} (h : SpecCells w g nm m st) : w.cell? ⟨g, 1, none⟩ = some (.int .i64 m) := by unfold SpecCells at h; rw [Lib.cell_of_heap h]; rfl
theorem SpecCells.cell2 {w : World} {g : Nat} {nm : ByteArray} {m : Int} {st : Bool} (h : SpecCells w g nm m st) : w.cell? ⟨g, 2, none⟩ = some (.bool st) := by unfold SpecCells at h; rw [Lib.cell_of_heap h]; rfl
theorem SpecCells.free {w : World} {g : Nat} {nm : ByteArray} {m : Int} {st : Bool} (h : SpecCells w g nm m st) (j : Nat) : w.frozen? ⟨g, j, none⟩ = false := Lib.frozen_of_heap h j
theorem SpecCells.lt {w : World} {g : Nat} {nm : ByteArray} {m : Int} {st : Bool} (h : SpecCells w g nm m st) : g < w.heap.size := (Array.getElem?_eq_some_iff.1 h).1
theorem SpecCells.keep {w w' : World} {g : Nat} {nm : ByteArray} {m : Int} {st : Bool} (h : SpecCells w g nm m st) (hb : Below w.heap.size w w') : SpecCells w' g nm m st := (hb.block g h.lt).trans h
theorem SpecCells.setMax {w : World} {g : Nat} {nm : ByteArray} {m : Int} {st : Bool} (h : SpecCells w g nm m st) (k : Int) : SpecCells (w.setCell ⟨g, 1, none⟩ (.int .i64 k)) g nm k st := heap_setCell_same _ _ 1 _ _ _ h
theorem SpecCells.setStar {w : World} {g : Nat} {nm : ByteArray} {m : Int} {st : Bool} (h : SpecCells w g nm m st) (b : Bool) : SpecCells (w.setCell ⟨g, 2, none⟩ (.bool b)) g nm m b := heap_setCell_same _ _ 2 _ _ _ h
theorem SpecCells.setName {w : World} {g : Nat} {nm : ByteArray} {m : Int} {st : Bool} (h : SpecCells w g nm m st) (s : ByteArray) : SpecCells (w.setCell ⟨g, 0, none⟩ (.string s)) g s m st := heap_setCell_same _ _ 0 _ _ _ h
theorem toList_nil_iff (s : ByteArray) : s.toList = [] ↔ s.size = 0 := by
 rw [ByteArray.toList_eq]
 constructor
 · intro h
   have : s.data.toList.length = 0 := by rw [h]; rfl
   simpa using this
 · intro h
   exact List.eq_nil_of_length_eq_zero (by simpa using h)
set_option maxRecDepth 100000 in
set_option maxHeartbeats 1000000 in
theorem spec_behind.calls (s : ByteArray) (hs : s.size ≤ 1099511627776) (n : Int) (whole : Bool) (m : Int) (st : Bool) (B g : Nat) (nm : ByteArray) (w : World) (hG : Gl w) (hB : B ≤ g) (hg : SpecCells w g nm 0 false) (h : spec_behind.f s = some (n, whole, m, st)) :
 Calls Tryz.prog 164 #[.string s, .pointer (some ⟨g, 0, none⟩)] w fun e w' => e = .returned (.tuple #[.int .i64 n, .bool whole]) ∧ SpecCells w' g nm m st ∧ Below B w w' := by
 have HG := Lib.hid hG
 have HC := Lib.hid hg
 have hglt := hg.lt
 have f1 := hg.free 1
 have f2 := hg.free 2
 have d1 := hg.cell1
 have d2 := hg.cell2
 unfold spec_behind.f at h
 clear hG hg
 by_cases h0 : s.toList = []
 · rw [if_pos h0] at h
   have h0b : (s.toList == ([] : List UInt8)) = true := beq_iff_eq.2 h0
   have HR := Lib.hid (Option.some.inj h)
   clear h h0
   go_enter Tryz.func164, Tryz.ntmps164
   go_wp2
   go_ret2
   have := HR.out
   simp only [Prod.mk.injEq] at this
   obtain ⟨rfl, rfl, rfl, rfl⟩ := this
   exact ⟨rfl, HC.out, Below.refl _ _⟩
 · rw [if_neg h0] at h
   have h0b : (s.toList == ([] : List UInt8)) = false := beq_eq_false_iff_ne.2 h0
   have hpos : 0 < s.size := Nat.pos_of_ne_zero (fun e => h0 ((toList_nil_iff s).2 e))
   have hix : ∀ h : 0 < s.size, ((s[0]'h).toNat : Int) = bt s 0 := fun h => bt_at s 0 h
   obtain ⟨c, hc⟩ : ∃ c, c = bt s 0 := ⟨_, rfl⟩
   rw [← hc] at h hix
   clear hc h0
   by_cases h1 : c = 42
   · rw [if_pos h1] at h
     have q1 : (c == 42) = true := beq_iff_eq.2 h1
     have HR := Lib.hid (Option.some.inj h)
     clear h h1
     go_enter Tryz.func164, Tryz.ntmps164
     go_wp2
     go_ret2
     have := HR.out
     simp only [Prod.mk.injEq] at this
     obtain ⟨rfl, rfl, rfl, rfl⟩ := this
     exact ⟨rfl, HC.out.setStar true, (Below.refl _ _).setCell (p := ⟨g, 2, none⟩) hB _⟩
   · rw [if_neg h1] at h
     have q1 : (c == 42) = false := beq_eq_false_iff_ne.2 h1
     by_cases h2 : c = 58
     · rw [if_pos h2] at h
       have q2 : (c == 58) = true := beq_iff_eq.2 h2
       obtain ⟨k, hk, h⟩ := Option.bind_eq_some_iff.1 h
       obtain ⟨a, ha, h⟩ := Option.bind_eq_some_iff.1 h
       have hk0 : 0 ≤ k ∧ k + 1 ≤ s.size ∧ k ≤ 4 := by
        unfold spec_figures.f at hk
        split at hk
        · injection hk with hk
          have := figsFrom_le (s.extract 1 s.size) (min (s.extract 1 s.size).size 4) 0
          have h3 : (s.extract 1 s.size).size = s.size - 1 := by rw [ByteArray.size_extract]; omega
          omega
        · cases hk
       obtain ⟨hk0, hk1, hk2⟩ := hk0
       have HK := Lib.hid hk
       have HA := Lib.hid ha
       have HR := Lib.hid (Option.some.inj h)
       have hsl : ∀ W : World, (Instr.slice 9 (.string s) (some (.int .i64 1)) none none).run Tryz.prog W = .ok (.string (s.extract 1 s.size)) W := fun W => run_slice_string_l W 9 s Tryz.underlying9 .i64 1 (by omega) (by omega)
       have hsm : ∀ W : World, (Instr.slice 9 (.string s) (some (.int .i64 1)) (some (.int .i64 (1 + k))) none).run Tryz.prog W = .ok (.string (s.extract 1 (k + 1).toNat)) W := fun W => by
        rw [run_slice_string (P := Tryz.prog) W 9 s .i64 .i64 1 (1 + k) Tryz.underlying9 (by omega) (by omega) (by omega), show 1 + k = k + 1 by omega]
        rfl
       clear h h1 h2 hk ha
       by_cases h5 : 0 < k
       · have q5 : decide (1 < 1 + k) = true := decide_eq_true (by omega)
         go_enter Tryz.func164, Tryz.ntmps164
         go_wp2_with fail
         refine (spec_figures.calls _ _ _ HK.out).mono ?_
         rintro e w1 ⟨rfl, hb1⟩
         have HB1 := Lib.hid hb1
         have HC1 := Lib.hid (HC.out.keep hb1)
         clear hb1
         go_wp2_with fail
         refine (strconv_Atoi.calls _ _ _ (HG.out.keep HB1.out) HA.out).mono ?_
         rintro e w2 ⟨⟨v, rfl⟩, hb2⟩
         have HB2 := Lib.hid (below_then HB1.out HB1.out.size hb2)
         have hc2 := HC1.out.keep hb2
         have e1 := hc2.cell1
         have g1 := hc2.free 1
         have HC2 := Lib.hid hc2
         clear hb2 hc2
         go_wp2
         go_ret2
         have := HR.out
         simp only [Prod.mk.injEq] at this
         obtain ⟨rfl, rfl, rfl, rfl⟩ := this
         refine ⟨?_, HC2.out.setMax a, (HB2.out.mono (Nat.le_of_lt (Nat.lt_of_le_of_lt hB hglt))).setCell (p := ⟨g, 1, none⟩) hB _⟩
         show Ending.returned (.tuple #[.int .i64 (1 + k), .bool (1 + k == (s.size : Int))]) = _
         rw [if_pos h5, show 1 + k = k + 1 by omega]
       · have q5 : decide (1 < 1 + k) = false := decide_eq_false (by omega)
         go_enter Tryz.func164, Tryz.ntmps164
         go_wp2_with fail
         refine (spec_figures.calls _ _ _ HK.out).mono ?_
         rintro e w1 ⟨rfl, hb1⟩
         have HB1 := Lib.hid hb1
         have HC1 := Lib.hid (HC.out.keep hb1)
         clear hb1
         go_wp2_with fail
         refine (strconv_Atoi.calls _ _ _ (HG.out.keep HB1.out) HA.out).mono ?_
         rintro e w2 ⟨⟨v, rfl⟩, hb2⟩
         have HB2 := Lib.hid (below_then HB1.out HB1.out.size hb2)
         have hc2 := HC1.out.keep hb2
         have e1 := hc2.cell1
         have g1 := hc2.free 1
         have HC2 := Lib.hid hc2
         clear hb2 hc2
         go_wp2
         go_ret2
         have := HR.out
         simp only [Prod.mk.injEq] at this
         obtain ⟨rfl, rfl, rfl, rfl⟩ := this
         refine ⟨?_, HC2.out.setMax a, (HB2.out.mono (Nat.le_of_lt (Nat.lt_of_le_of_lt hB hglt))).setCell (p := ⟨g, 1, none⟩) hB _⟩
         show Ending.returned (.tuple #[.int .i64 (1 + k), .bool false]) = _
         rw [if_neg (show ¬ k > 0 by omega), show 1 + k = k + 1 by omega]
     · rw [if_neg h2] at h
       have q2 : (c == 58) = false := beq_eq_false_iff_ne.2 h2
       have HR := Lib.hid (Option.some.inj h)
       clear h h1 h2
       go_enter Tryz.func164, Tryz.ntmps164
       go_wp2
       go_ret2
       have := HR.out
       simp only [Prod.mk.injEq] at this
       obtain ⟨rfl, rfl, rfl, rfl⟩ := this
       exact ⟨rfl, HC.out, Below.refl _ _⟩
theorem endsFrom_bounds (s : ByteArray) : ∀ (k : Nat) (x y : Int), 0 ≤ y → y ≤ x → x ≤ s.size → 0 ≤ (endsFrom s k x y).2 ∧ (endsFrom s k x y).2 ≤ (endsFrom s k x y).1 ∧ (endsFrom s k x y).1 ≤ s.size
 | 0, x, y, h0, h1, h2 => ⟨h0, h1, h2⟩
 | k + 1, x, y, h0, h1, h2 => by
  rw [endsFrom]
  split
  · split
    · exact endsFrom_bounds s k _ _ (by omega) (by omega) (by omega)
    · split
      · exact endsFrom_bounds s k _ _ (by omega) (by omega) (by omega)
      · split
        · rename_i ht
          have h3 : 3 ≤ (s.extract x.toNat s.size).size := by
           unfold isTriplet at ht
           simp only [Bool.and_eq_true, decide_eq_true_eq] at ht
           exact ht.1
          rw [ByteArray.size_extract] at h3
          exact endsFrom_bounds s k _ _ (by omega) (by omega) (by omega)
        · split
          · split
            · exact ⟨h0, by simp; omega, by simp; omega⟩
            · exact ⟨h0, by simp; omega, by simp; omega⟩
          · exact ⟨h0, h1, h2⟩
  · exact ⟨h0, h1, h2⟩
theorem vname_End_bounds {s : ByteArray} {n : Int} (h : vname_End.f s = some n) : 0 ≤ n ∧ n ≤ s.size := by
 unfold vname_End.f vname_ends.f at h
 split at h
 · simp only [Option.bind_some, Option.some.injEq] at h
   have := endsFrom_bounds s (s.size + 1) 0 0 (by omega) (by omega) (by omega)
   omega
 · simp at h
def takeStop (a b : Int) : Int := max a b
theorem figures_bounds {s : ByteArray} {k : Int} (h : spec_figures.f s = some k) : 0 ≤ k ∧ k ≤ s.size ∧ k ≤ 4 := by
 unfold spec_figures.f at h
 split at h
 · injection h with h
   have := figsFrom_le s (min s.size 4) 0
   omega
 · cases h
theorem behind_bounds {s : ByteArray} {n : Int} {wh : Bool} {m : Int} {st : Bool} (h : spec_behind.f s = some (n, wh, m, st)) : 0 ≤ n ∧ n ≤ s.size := by
 unfold spec_behind.f at h
 have h9 : (0 : Int) ≤ s.size := by omega
 by_cases h0 : s.toList = []
 · rw [if_pos h0] at h
   simp only [Option.some.injEq, Prod.mk.injEq] at h
   omega
 · rw [if_neg h0] at h
   have hp : 0 < s.size := Nat.pos_of_ne_zero (fun e => h0 ((toList_nil_iff s).2 e))
   by_cases h1 : bt s 0 = 42
   · rw [if_pos h1] at h
     simp only [Option.some.injEq, Prod.mk.injEq] at h
     omega
   · rw [if_neg h1] at h
     by_cases h2 : bt s 0 = 58
     · rw [if_pos h2] at h
       obtain ⟨k, hk, h⟩ := Option.bind_eq_some_iff.1 h
       obtain ⟨a, ha, h⟩ := Option.bind_eq_some_iff.1 h
       simp only [Option.some.injEq, Prod.mk.injEq] at h
       have := figures_bounds hk
       rw [ByteArray.size_extract] at this
       omega
     · rw [if_neg h2] at h
       simp only [Option.some.injEq, Prod.mk.injEq] at h
       omega
def spec_Take.f (s : ByteArray) : Option (ByteArray × Int × Bool × Int × Int) :=
 (vname_End.f s).bind fun en => (spec_behind.f (s.extract en.toNat s.size)).bind fun b => (vname_Bad.f s).bind fun bd =>
  if en > 0 ∧ b.2.1 = true then some (s.extract 0 en.toNat, b.2.2.1, b.2.2.2, s.size, 0)
  else some (⟨#[]⟩, 0, false, takeStop bd (if en = 0 then 0 else en + b.1), 2)
theorem takeEnd {w W : World} (hx : SpecCells W w.heap.size ⟨#[]⟩ 0 false) (hb : Below w.heap.size w W) (nm : ByteArray) (m : Int) (st : Bool) : SpecCells (((W.setCell ⟨w.heap.size, 0, none⟩ (.string nm)).setCell ⟨w.heap.size, 1, none⟩ (.int .i64 m)).setCell ⟨w.heap.size, 2, none⟩ (.bool st)) w.heap.size nm m st ∧ Below w.heap.size w (((W.setCell ⟨w.heap.size, 0, none⟩ (.string nm)).setCell ⟨w.heap.size, 1, none⟩ (.int .i64 m)).setCell ⟨w.heap.size, 2, none⟩ (.bool st)) :=
 ⟨((SpecCells.setName hx nm).setMax m).setStar st, ((hb.setCell (p := ⟨w.heap.size, 0, none⟩) (Nat.le_refl _) _).setCell (p := ⟨w.heap.size, 1, none⟩) (Nat.le_refl _) _).setCell (p := ⟨w.heap.size, 2, none⟩) (Nat.le_refl _) _⟩
set_option maxRecDepth 100000 in
set_option maxHeartbeats 1000000 in
theorem spec_Take.calls (s : ByteArray) (r1 : ByteArray) (r2 : Int) (r3 : Bool) (r4 r5 : Int) (w : World) (hs : s.size ≤ 1099511627776) (hG : Gl w) (h : spec_Take.f s = some (r1, r2, r3, r4, r5)) :
 Calls Tryz.prog 151 #[.string s] w fun e w' => e = .returned (.tuple #[.agg #[.string r1, .int .i64 r2, .bool r3], .int .i64 r4, .int .i64 r5]) ∧ Below w.heap.size w w' := by
 unfold spec_Take.f at h
 obtain ⟨en, hen, h⟩ := Option.bind_eq_some_iff.1 h
 obtain ⟨⟨n, whole, m, st⟩, hbe, h⟩ := Option.bind_eq_some_iff.1 h
 obtain ⟨bd, hbd, h⟩ := Option.bind_eq_some_iff.1 h
 obtain ⟨he0, he1⟩ := vname_End_bounds hen
 have HE := Lib.hid hen
 have HBe := Lib.hid hbe
 have HBd := Lib.hid hbd
 have HG := Lib.hid hG
 have hnb := behind_bounds hbe
 rw [ByteArray.size_extract] at hnb
 obtain ⟨hn0, hn1⟩ := hnb
 simp only at h
 have hsl : ∀ W : World, (Instr.slice 9 (.string s) (some (.int .i64 en)) none none).run Tryz.prog W = .ok (.string (s.extract en.toNat s.size)) W := fun W => run_slice_string_l W 9 s Tryz.underlying9 .i64 en (by omega) (by omega)
 have hsh : ∀ W : World, (Instr.slice 9 (.string s) none (some (.int .i64 en)) none).run Tryz.prog W = .ok (.string (s.extract 0 en.toNat)) W := fun W => run_slice_string_h W 9 s Tryz.underlying9 .i64 en (by omega) (by omega)
 clear hen hbe hbd hG
 have HR := Lib.hid h
 clear h
 go_enter Tryz.func151, Tryz.ntmps151
 go_wp2_with fail
 refine (vname_End.calls _ _ _ HE.out).mono ?_
 rintro e w1 ⟨rfl, hb1⟩
 have HB1 := Lib.hid hb1
 clear hb1
 go_wp2_with fail
 have hgw1 : Gl w1 := (HG.out.keep ((Below.refl _ _).alloc (Nat.le_refl _) (.cells #[.string ⟨#[]⟩, .int .i64 0, .bool false] 55))).keep HB1.out
 have hsz : (s.extract en.toNat s.size).size ≤ 1099511627776 := by rw [ByteArray.size_extract]; omega
 refine (spec_behind.calls _ hsz n whole m st w1.heap.size w1.heap.size (s.extract 0 en.toNat) _ (hgw1.keep ((Below.refl _ _).alloc (Nat.le_refl _) _)) (Nat.le_refl _) (heap_alloc_new w1 _) HBe.out).mono ?_
 rintro e w2 ⟨rfl, hc2, hb2⟩
 have hbox : w1.heap[w.heap.size]? = some (.cells #[.string ⟨#[]⟩, .int .i64 0, .bool false] 55 (0, 0)) := (HB1.out.block _ (by simp)).trans (heap_alloc_new w _)
 have hlt1 : w.heap.size < w1.heap.size := (Array.getElem?_eq_some_iff.1 hbox).1
 have hbox2 : w2.heap[w.heap.size]? = some (.cells #[.string ⟨#[]⟩, .int .i64 0, .bool false] 55 (0, 0)) := (hb2.block _ hlt1).trans ((heap_alloc_old w1 _ hlt1).trans hbox)
 have HBw : Hid (Below w.heap.size w w2) := Lib.hid (((((Below.refl _ _).alloc (Nat.le_refl _) _).trans (HB1.out.mono (by simp))).alloc (Nat.le_of_lt hlt1) _).trans (hb2.mono (Nat.le_of_lt hlt1)))
 have HX := Lib.hid hbox2
 have g0 := hc2.cell0
 have g1 := hc2.cell1
 have g2 := hc2.cell2
 have x0 : w2.cell? ⟨w.heap.size, 0, none⟩ = some (.string ⟨#[]⟩) := by rw [Lib.cell_of_heap hbox2]; rfl
 have x1 : w2.cell? ⟨w.heap.size, 1, none⟩ = some (.int .i64 0) := by rw [Lib.cell_of_heap hbox2]; rfl
 have x2 : w2.cell? ⟨w.heap.size, 2, none⟩ = some (.bool false) := by rw [Lib.cell_of_heap hbox2]; rfl
 have y0 : w2.frozen? ⟨w.heap.size, 0, none⟩ = false := Lib.frozen_of_heap hbox2 0
 have y1 : w2.frozen? ⟨w.heap.size, 1, none⟩ = false := Lib.frozen_of_heap hbox2 1
 have y2 : w2.frozen? ⟨w.heap.size, 2, none⟩ = false := Lib.frozen_of_heap hbox2 2
 clear hgw1 hc2 hb2 hbox hlt1 hbox2 hsz
 by_cases h1 : 0 < en
 · have q1 : decide (0 < en) = true := decide_eq_true h1
   have q2 : (en == 0) = false := beq_eq_false_iff_ne.2 (by omega)
   cases whole with
   | true =>
    have hr := HR.out
    rw [if_pos ⟨h1, rfl⟩] at hr
    have HRR := Lib.hid (Option.some.inj hr)
    clear hr HR
    go_wp2
    obtain ⟨hf, hfb⟩ := takeEnd HX.out HBw.out (s.extract 0 en.toNat) m st
    obtain ⟨W, hW⟩ : ∃ W, W = (((w2.setCell ⟨w.heap.size, 0, none⟩ (.string (s.extract 0 en.toNat))).setCell ⟨w.heap.size, 1, none⟩ (.int .i64 m)).setCell ⟨w.heap.size, 2, none⟩ (.bool st)) := ⟨_, rfl⟩
    rw [← hW] at hf hfb ⊢
    have f0 := hf.cell0
    have f1 := hf.cell1
    have f2 := hf.cell2
    refine bodyPost_ret (v := .tuple #[.agg #[.string (s.extract 0 en.toNat), .int .i64 m, .bool st], .int .i64 s.size, .int .i64 0]) (by simp [results, Tryz.results151, go_sem, f0, f1, f2]) rfl ⟨?_, hfb⟩
    have := HRR.out
    simp only [Prod.mk.injEq] at this
    obtain ⟨rfl, rfl, rfl, rfl, rfl⟩ := this
    rfl
   | false =>
    have hr := HR.out
    rw [if_neg (fun h => absurd h.2 (by simp)), if_neg (by omega)] at hr
    have HRR := Lib.hid (Option.some.inj hr)
    clear hr HR
    go_wp2_with fail
    refine (vname_Bad.calls _ _ _ HBd.out).mono ?_
    rintro e w3 ⟨rfl, hb3⟩
    have hx3 := SpecCells.keep HX.out hb3
    have HX3 := Lib.hid hx3
    have HB3 := Lib.hid (below_then HBw.out HBw.out.size hb3)
    have z0 := hx3.cell0
    have z1 := hx3.cell1
    have z2 := hx3.cell2
    have v0 := hx3.free 0
    have v1 := hx3.free 1
    have v2 := hx3.free 2
    clear hx3 hb3 x0 x1 x2 y0 y1 y2 g0 g1 g2
    go_wp2
    obtain ⟨hf, hfb⟩ := takeEnd HX3.out HB3.out ⟨#[]⟩ 0 false
    obtain ⟨W, hW⟩ : ∃ W, W = (((w3.setCell ⟨w.heap.size, 0, none⟩ (.string ⟨#[]⟩)).setCell ⟨w.heap.size, 1, none⟩ (.int .i64 0)).setCell ⟨w.heap.size, 2, none⟩ (.bool false)) := ⟨_, rfl⟩
    rw [← hW] at hf hfb ⊢
    have f0 := hf.cell0
    have f1 := hf.cell1
    have f2 := hf.cell2
    refine bodyPost_ret (v := .tuple #[.agg #[.string ⟨#[]⟩, .int .i64 0, .bool false], .int .i64 (takeStop bd (en + n)), .int .i64 2]) (by simp [results, Tryz.results151, go_sem, takeStop, f0, f1, f2]) rfl ⟨?_, hfb⟩
    have := HRR.out
    simp only [Prod.mk.injEq] at this
    obtain ⟨rfl, rfl, rfl, rfl, rfl⟩ := this
    rfl
 · have q1 : decide (0 < en) = false := decide_eq_false h1
   have q2 : (en == 0) = true := beq_iff_eq.2 (by omega)
   have hr := HR.out
   rw [if_neg (fun h => h1 h.1), if_pos (by omega)] at hr
   have HRR := Lib.hid (Option.some.inj hr)
   clear hr HR
   obtain rfl : en = 0 := by omega
   go_wp2_with fail
   refine (vname_Bad.calls _ _ _ HBd.out).mono ?_
   rintro e w3 ⟨rfl, hb3⟩
   have hx3 := SpecCells.keep HX.out hb3
   have HX3 := Lib.hid hx3
   have HB3 := Lib.hid (below_then HBw.out HBw.out.size hb3)
   have z0 := hx3.cell0
   have z1 := hx3.cell1
   have z2 := hx3.cell2
   have v0 := hx3.free 0
   have v1 := hx3.free 1
   have v2 := hx3.free 2
   clear hx3 hb3 x0 x1 x2 y0 y1 y2 g0 g1 g2
   go_wp2
   obtain ⟨hf, hfb⟩ := takeEnd HX3.out HB3.out ⟨#[]⟩ 0 false
   obtain ⟨W, hW⟩ : ∃ W, W = (((w3.setCell ⟨w.heap.size, 0, none⟩ (.string ⟨#[]⟩)).setCell ⟨w.heap.size, 1, none⟩ (.int .i64 0)).setCell ⟨w.heap.size, 2, none⟩ (.bool false)) := ⟨_, rfl⟩
   rw [← hW] at hf hfb ⊢
   have f0 := hf.cell0
   have f1 := hf.cell1
   have f2 := hf.cell2
   refine bodyPost_ret (v := .tuple #[.agg #[.string ⟨#[]⟩, .int .i64 0, .bool false], .int .i64 (takeStop bd (0)), .int .i64 2]) (by simp [results, Tryz.results151, go_sem, takeStop, f0, f1, f2]) rfl ⟨?_, hfb⟩
   have := HRR.out
   simp only [Prod.mk.injEq] at this
   obtain ⟨rfl, rfl, rfl, rfl, rfl⟩ := this
   rfl
structure But (g : Nat) (w w' : World) : Prop where
 os : w'.os = w.os
 tape : w'.tape = w.tape
 output : w'.output = w.output
 size : w.heap.size ≤ w'.heap.size
 block : ∀ k, k < w.heap.size → k ≠ g → w'.heap[k]? = w.heap[k]?
theorem But.refl (g : Nat) (w : World) : But g w w := ⟨rfl, rfl, rfl, Nat.le_refl _, fun _ _ _ => rfl⟩
theorem But.trans {g : Nat} {w w1 w2 : World} (h : But g w w1) (k : But g w1 w2) : But g w w2 :=
 ⟨k.os.trans h.os, k.tape.trans h.tape, k.output.trans h.output, Nat.le_trans h.size k.size, fun i hi hg => (k.block i (Nat.lt_of_lt_of_le hi h.size) hg).trans (h.block i hi hg)⟩
theorem But.of {g : Nat} {w w1 : World} (h : Below w.heap.size w w1) : But g w w1 := ⟨h.os, h.tape, h.output, h.size, fun i hi _ => h.block i hi⟩
theorem But.then_ {g : Nat} {w w1 w2 : World} (h : But g w w1) (k : Below w1.heap.size w1 w2) : But g w w2 := h.trans (But.of k)
theorem But.set {g : Nat} {w w1 : World} (h : But g w w1) (j : Nat) (u : Value) : But g w (w1.setCell ⟨g, j, none⟩ u) :=
 ⟨h.os, h.tape, h.output, by simpa [World.setCell] using h.size, fun i hi hg => (Below.heap_setCell w1 ⟨g, j, none⟩ u i hg).trans (h.block i hi hg)⟩
theorem But.far {g : Nat} {w w1 : World} (h : But g w w1) {p : Addr} (hp : w.heap.size ≤ p.block) (u : Value) : But g w (w1.setCell p u) :=
 ⟨h.os, h.tape, h.output, by simpa [World.setCell] using h.size, fun i hi hg => (Below.heap_setCell w1 p u i (by omega)).trans (h.block i hi hg)⟩
theorem But.alloc {g : Nat} {w w1 : World} (h : But g w w1) (o : Obj) : But g w (w1.alloc o) := h.then_ ((Below.refl _ _).alloc (Nat.le_refl _) o)
theorem But.below {g B : Nat} {w0 w w1 : World} (h : But g w w1) (hb : Below B w0 w) (hg : B ≤ g) (hB : B ≤ w.heap.size) : Below B w0 w1 :=
 ⟨h.os.trans hb.os, h.tape.trans hb.tape, h.output.trans hb.output, Nat.le_trans hb.size h.size, fun k hk => (h.block k (by omega) (by omega)).trans (hb.block k hk)⟩
theorem But.gl {g : Nat} {w w1 : World} (h : But g w w1) (hG : Gl w) (h1 : g ≠ 3) (h2 : g ≠ 1) : Gl w1 := by
 have hh : ∀ k cs, k ≠ g → heldAt w k = some cs → heldAt w1 k = some cs := fun k cs hk hc => by
  have hlt : k < w.heap.size := by
   rcases Nat.lt_or_ge k w.heap.size with h' | h'
   · exact h'
   · simp [heldAt, Array.getElem?_eq_none h'] at hc
  unfold heldAt at hc ⊢
  rw [h.block k hlt hk]
  exact hc
 obtain ⟨te, pe, he⟩ := hG.err
 exact ⟨hh _ _ h1.symm hG.tab, te, pe, hh _ _ h2.symm he⟩
def Rd (w : World) (g : Nat) (s : ByteArray) (a : Int) (v : Value) : Prop := w.heap[g]? = some (.cells #[.string s, .int .i64 a, v] 129 (0, 0))
theorem Rd.cell0 {w : World} {g : Nat} {s : ByteArray} {a : Int} {v : Value} (h : Rd w g s a v) : w.cell? ⟨g, 0, none⟩ = some (.string s) := by unfold Rd at h; rw [Lib.cell_of_heap h]; rfl
theorem Rd.cell1 {w : World} {g : Nat} {s : ByteArray} {a : Int} {v : Value} (h : Rd w g s a v) : w.cell? ⟨g, 1, none⟩ = some (.int .i64 a) := by unfold Rd at h; rw [Lib.cell_of_heap h]; rfl
theorem Rd.cell2 {w : World} {g : Nat} {s : ByteArray} {a : Int} {v : Value} (h : Rd w g s a v) : w.cell? ⟨g, 2, none⟩ = some v := by unfold Rd at h; rw [Lib.cell_of_heap h]; rfl
theorem Rd.free {w : World} {g : Nat} {s : ByteArray} {a : Int} {v : Value} (h : Rd w g s a v) (j : Nat) : w.frozen? ⟨g, j, none⟩ = false := Lib.frozen_of_heap h j
theorem Rd.lt {w : World} {g : Nat} {s : ByteArray} {a : Int} {v : Value} (h : Rd w g s a v) : g < w.heap.size := (Array.getElem?_eq_some_iff.1 h).1
theorem Rd.keep {w w' : World} {g : Nat} {s : ByteArray} {a : Int} {v : Value} (h : Rd w g s a v) (hb : Below w.heap.size w w') : Rd w' g s a v := (hb.block g h.lt).trans h
theorem Rd.setAt {w : World} {g : Nat} {s : ByteArray} {a : Int} {v : Value} (h : Rd w g s a v) (k : Int) : Rd (w.setCell ⟨g, 1, none⟩ (.int .i64 k)) g s k v := heap_setCell_same _ _ 1 _ _ _ h
theorem Rd.setParts {w : World} {g : Nat} {s : ByteArray} {a : Int} {v : Value} (h : Rd w g s a v) (u : Value) : Rd (w.setCell ⟨g, 2, none⟩ u) g s a u := heap_setCell_same _ _ 2 _ _ _ h
theorem Rd.far {w : World} {g : Nat} {s : ByteArray} {a : Int} {v : Value} (h : Rd w g s a v) {p : Addr} (hp : g ≠ p.block) (u : Value) : Rd (w.setCell p u) g s a v := (Below.heap_setCell w p u g hp).trans h
theorem Rd.drew {w : World} {g : Nat} {s : ByteArray} {a : Int} {v : Value} (h : Rd w g s a v) : Rd w.drew g s a v := h
set_option maxRecDepth 100000 in
set_option maxHeartbeats 800000 in
theorem text_rest.calls (w : World) (g : Nat) (s : ByteArray) (a : Int) (v : Value) (hr : Rd w g s a v) (h0 : 0 ≤ a) (h1 : a ≤ s.size) (hs : s.size ≤ 1099511627776) :
 Calls Tryz.prog 74 #[.pointer (some ⟨g, 0, none⟩)] w fun e w' => e = .returned (.string (s.extract a.toNat s.size)) ∧ Drawn0 w w' := by
 have c0 := hr.cell0
 have c1 := hr.cell1
 have hsl : ∀ W : World, (Instr.slice 9 (.string s) (some (.int .i64 a)) none none).run Tryz.prog W = .ok (.string (s.extract a.toNat s.size)) W := fun W => run_slice_string_l W 9 s Tryz.underlying9 .i64 a (by omega) (by omega)
 clear hr
 go_enter Tryz.func74, Tryz.ntmps74
 go_wp2
 go_quiet (fail)
 go_wp2
 go_ret
 exact ⟨rfl, ⟨_, rfl⟩⟩
theorem anyFrom_spec (s : ByteArray) : ∀ (k p : Nat), anyFrom s k p = -1 ∨ ((p : Int) ≤ anyFrom s k p ∧ anyFrom s k p < s.size ∧ (bt s (anyFrom s k p) = 44 ∨ bt s (anyFrom s k p) = 125))
 | 0, p => .inl rfl
 | k + 1, p => by
  rw [anyFrom]
  split
  · rename_i hlt
    split
    · rename_i hc
      right
      refine ⟨Int.le_refl _, by omega, ?_⟩
      have hb := bt_at s p (by simpa using hlt)
      by_cases ha : (s[p]'hlt).toNat < 128
      · have hd := decode_ascii s p hlt ha
        rw [hd] at hc
        rw [← hb]
        exact hc
      · have hd := (decode_high s p hlt (by omega)).1
        omega
    · have hp := decode_pos s p hlt
      rcases anyFrom_spec s k (p + (Utf8.decode s p).2) with h | ⟨h1, h2, h3⟩
      · exact .inl h
      · exact .inr ⟨by omega, h2, h3⟩
  · exact .inl rfl
theorem take_bounds {s : ByteArray} {r1 : ByteArray} {r2 : Int} {r3 : Bool} {r4 r5 : Int} (h : spec_Take.f s = some (r1, r2, r3, r4, r5)) : 0 ≤ r4 ∧ r4 ≤ s.size ∧ (r5 = 0 → r4 = s.size) ∧ (r5 = 0 ∨ r5 = 2) := by
 unfold spec_Take.f at h
 obtain ⟨en, hen, h⟩ := Option.bind_eq_some_iff.1 h
 obtain ⟨⟨n, whole, m, st⟩, hbe, h⟩ := Option.bind_eq_some_iff.1 h
 obtain ⟨bd, hbd, h⟩ := Option.bind_eq_some_iff.1 h
 obtain ⟨he0, he1⟩ := vname_End_bounds hen
 have hnb := behind_bounds hbe
 rw [ByteArray.size_extract] at hnb
 have hb : 0 ≤ bd ∧ bd ≤ s.size := by
  unfold vname_Bad.f vname_ends.f at hbd
  split at hbd
  · simp only [Option.bind_some, Option.some.injEq] at hbd
    have := endsFrom_bounds s (s.size + 1) 0 0 (by omega) (by omega) (by omega)
    omega
  · simp at hbd
 simp only at h
 split at h
 · simp only [Option.some.injEq, Prod.mk.injEq] at h
   omega
 · simp only [Option.some.injEq, Prod.mk.injEq, takeStop] at h
   obtain ⟨_, _, _, h4, h5⟩ := h
   split at h4 <;> omega
def reader_spec.f (s : ByteArray) (a : Int) : Option (Bool × (ByteArray × Int × Bool) × Int × Int) :=
 let one := s.extract a.toNat s.size
 let i := anyFrom one one.size 0
 (spec_Take.f (if i ≥ 0 then one.extract 0 i.toNat else one)).bind fun t =>
  if t.2.2.2.2 = 0 ∧ i ≥ 0 then some (true, (t.1, t.2.1, t.2.2.1), bt one i, a + t.2.2.2.1 + 1) else some (false, (⟨#[]⟩, 0, false), 0, a + t.2.2.2.1)
def wrongAt (n : Int) : Ending := .panicked [{ v := .iface 130 (.int .i64 n), recovered := false }]
theorem reads_two (w : World) (a b : Int) : ReadsInt (w.alloc (.cells #[.int .u8 a, .int .u8 b] 5)) .u8 (some ⟨w.heap.size, 0, none⟩) 2 [a, b] := by
 refine ⟨rfl, by omega, fun _ => ⟨_, rfl, fun j hj => ?_⟩⟩
 have hadd : (⟨w.heap.size, 0, none⟩ : Addr).add j = ⟨w.heap.size, j, none⟩ := by unfold Addr.add; split <;> simp_all
 rw [hadd]
 have : j = 0 ∨ j = 1 := by omega
 rcases this with rfl | rfl <;> simp
theorem SpecCells.far {w : World} {g : Nat} {nm : ByteArray} {m : Int} {st : Bool} (h : SpecCells w g nm m st) {p : Addr} (hp : g ≠ p.block) (u : Value) : SpecCells (w.setCell p u) g nm m st := (Below.heap_setCell w p u g hp).trans h
theorem specDone {w W : World} {g b : Nat} {s : ByteArray} {a : Int} {v : Value} (hr : Rd W g s a v) (hx : SpecCells W b ⟨#[]⟩ 0 false) (hb : But g w W) (hne : g ≠ b) (hwb : w.heap.size ≤ b) (a1 a2 : Int) (nm : ByteArray) (m : Int) (st : Bool) (o : Obj) :
 Rd ((((((W.setCell ⟨g, 1, none⟩ (.int .i64 a1)).setCell ⟨g, 1, none⟩ (.int .i64 a2)).setCell ⟨b, 0, none⟩ (.string nm)).setCell ⟨b, 1, none⟩ (.int .i64 m)).setCell ⟨b, 2, none⟩ (.bool st)).alloc o) g s a2 v ∧
 SpecCells ((((((W.setCell ⟨g, 1, none⟩ (.int .i64 a1)).setCell ⟨g, 1, none⟩ (.int .i64 a2)).setCell ⟨b, 0, none⟩ (.string nm)).setCell ⟨b, 1, none⟩ (.int .i64 m)).setCell ⟨b, 2, none⟩ (.bool st)).alloc o) b nm m st ∧
 But g w ((((((W.setCell ⟨g, 1, none⟩ (.int .i64 a1)).setCell ⟨g, 1, none⟩ (.int .i64 a2)).setCell ⟨b, 0, none⟩ (.string nm)).setCell ⟨b, 1, none⟩ (.int .i64 m)).setCell ⟨b, 2, none⟩ (.bool st)).alloc o) :=
 ⟨(((((hr.setAt a1).setAt a2).far hne _).far hne _).far hne _).keep ((Below.refl _ _).alloc (Nat.le_refl _) _),
  (((((hx.far (Ne.symm hne) _).far (Ne.symm hne) _).setName nm).setMax m).setStar st).keep ((Below.refl _ _).alloc (Nat.le_refl _) _),
  (((((hb.set 1 _).set 1 _).far (p := ⟨b, 0, none⟩) hwb _).far (p := ⟨b, 1, none⟩) hwb _).far (p := ⟨b, 2, none⟩) hwb _).alloc _⟩
set_option maxRecDepth 100000 in
set_option maxHeartbeats 2000000 in
theorem reader_spec.calls (w : World) (g : Nat) (s : ByteArray) (a : Int) (v : Value) (ok : Bool) (nm : ByteArray) (m : Int) (st : Bool) (c a' : Int) (hr : Rd w g s a v) (h0 : 0 ≤ a) (h1 : a ≤ s.size) (hs : s.size ≤ 1099511627776) (hG : Gl w)
 (h : reader_spec.f s a = some (ok, (nm, m, st), c, a')) :
 Calls Tryz.prog 124 #[.pointer (some ⟨g, 0, none⟩)] w fun e w' =>
  (if ok = true then e = .returned (.tuple #[.agg #[.string nm, .int .i64 m, .bool st], .int .u8 c]) else e = wrongAt a') ∧ Rd w' g s a' v ∧ But g w w' := by
 unfold reader_spec.f at h
 obtain ⟨one, hone⟩ : ∃ one, one = s.extract a.toNat s.size := ⟨_, rfl⟩
 have hosz : one.size = s.size - a.toNat := by rw [hone, ByteArray.size_extract]; omega
 rw [← hone] at h
 simp only at h
 obtain ⟨i, hi⟩ : ∃ i, i = anyFrom one one.size 0 := ⟨_, rfl⟩
 have hsp := anyFrom_spec one one.size 0
 rw [← hi] at h hsp
 obtain ⟨⟨nm1, m1, st1, n, bad⟩, hta, h⟩ := Option.bind_eq_some_iff.1 h
 have htb := take_bounds hta
 have HONE := Lib.hid hone
 have HI := Lib.hid hi
 have HTA := Lib.hid hta
 have HG := Lib.hid hG
 have HRd := Lib.hid hr
 have HOS := Lib.hid hosz
 have hglt := hr.lt
 have HR := Lib.hid h
 clear hone hi hta hG hr h hosz
 go_enter Tryz.func124, Tryz.ntmps124
 go_wp2_with fail
 refine (text_rest.calls _ g s a v (HRd.out.keep ((Below.refl _ _).alloc (Nat.le_refl _) _)) h0 h1 hs).mono ?_
 rintro e w1 ⟨rfl, hb1⟩
 have HB1 := Lib.hid (((Below.refl _ _).alloc (Nat.le_refl _) _).trans (hb1.below.mono (by simp)))
 rw [← HONE.out]
 have hx1 : SpecCells w1 w.heap.size ⟨#[]⟩ 0 false := (hb1.below.block _ (by simp)).trans (heap_alloc_new w _)
 have HX1 := Lib.hid hx1
 clear hb1 hx1
 have hcv : ∀ W : World, (convert 98 9 (.slice (some ⟨W.heap.size, 0, none⟩) 2 2)).run Tryz.prog (W.alloc (.cells #[.int .u8 44, .int .u8 125] 5)) = .ok (.string twoEnds) (W.alloc (.cells #[.int .u8 44, .int .u8 125] 5)) := fun W => string_of_reads (c := 2) Tryz.underlying98 Tryz.underlying5 Tryz.underlying9 (reads_two W 44 125)
 have hsz1 : one.size ≤ 1099511627776 := by have := HOS.out; omega
 go_wp2_with fail
 refine (tmpl_anyAt.calls one hsz1 _).mono ?_
 rintro e w2 ⟨rfl, hb2⟩
 have HB2 := Lib.hid ((HB1.out.alloc HB1.out.size _).trans (hb2.mono (by simp; have := HB1.out.size; omega)))
 rw [← HI.out]
 have HX2 := Lib.hid ((HX1.out.keep ((Below.refl _ _).alloc (Nat.le_refl _) _)).keep hb2)
 clear hb2 hcv
 by_cases h2 : 0 ≤ i
 · have q1 : decide (0 ≤ i) = true := decide_eq_true h2
   rcases hsp with hsp | ⟨_, hi1, hi2⟩
   · omega
   have hsh : ∀ W : World, (Instr.slice 9 (.string one) none (some (.int .i64 i)) none).run Tryz.prog W = .ok (.string (one.extract 0 i.toNat)) W := fun W => run_slice_string_h W 9 one Tryz.underlying9 .i64 i h2 (by omega)
   have hix := bt_at one i
   obtain ⟨b, hb⟩ : ∃ b, b = bt one i := ⟨_, rfl⟩
   rw [← hb] at hi2 hix
   have HBt := Lib.hid hb
   have hlt : i.toNat < one.size := by omega
   have hta := HTA.out
   rw [if_pos h2] at hta htb
   have hn0 := htb.1
   have hn1 : n ≤ one.size := by have := htb.2.1; rw [ByteArray.size_extract] at this; omega
   have hn2 : bad = 0 ∨ bad = 2 := htb.2.2.2
   have HN := Lib.hid htb.2.2.1
   clear htb
   have HTA1 := Lib.hid hta
   clear hb hta HTA
   go_wp2_with fail
   go_quiet (fail)
   go_wp2_with fail
   refine (spec_Take.calls _ nm1 m1 st1 n bad _ (by rw [ByteArray.size_extract]; omega) (HG.out.keep (pw_below_drewN HB2.out nq)) HTA1.out).mono ?_
   rintro e w3 ⟨rfl, hb3⟩
   have HB3 := Lib.hid (below_then (pw_below_drewN HB2.out nq) (pw_below_drewN HB2.out nq).size hb3)
   have HX3 := Lib.hid (HX2.out.keep ((pw_below_drewN (Below.refl _ _) nq).trans hb3))
   have hrd3 := HRd.out.keep HB3.out
   have HRd3 := Lib.hid hrd3
   have r1 := hrd3.cell1
   have z1 := hrd3.free 1
   have hg3 := hrd3.lt
   have hne : ¬ g = w.heap.size := by omega
   have hlw := HX3.out.lt
   have x0 := HX3.out.cell0
   have x1 := HX3.out.cell1
   have x2 := HX3.out.cell2
   have y0 := HX3.out.free 0
   have y1 := HX3.out.free 1
   have y2 := HX3.out.free 2
   have hsum : a + n ≤ s.size := by have := HOS.out; omega
   clear hb3 hrd3
   by_cases hbad : bad = 0
   · have q2 : (bad == 0) = true := beq_iff_eq.2 hbad
     have q3 : (bad != 0) = false := by simp [hbad]
     have q4 : (b == 0) = false := beq_eq_false_iff_ne.2 (by omega)
     have hr := HR.out
     rw [if_pos ⟨hbad, h2⟩] at hr
     simp only [Option.some.injEq, Prod.mk.injEq] at hr
     obtain ⟨rfl, ⟨rfl, rfl, rfl⟩, rfl, rfl⟩ := hr
     clear HR hbad
     go_wp2
     obtain ⟨hf1, hf2, hf3⟩ := specDone HRd3.out HX3.out (But.of HB3.out) hne (Nat.le_refl _) (a + n) (a + n + 1) nm1 m1 st1 (.cells #[.string nm1, .int .i64 m1, .bool st1] 55)
     obtain ⟨W, hW⟩ : ∃ W, W = ((((((w3.setCell ⟨g, 1, none⟩ (.int .i64 (a + n))).setCell ⟨g, 1, none⟩ (.int .i64 (a + n + 1))).setCell ⟨w.heap.size, 0, none⟩ (.string nm1)).setCell ⟨w.heap.size, 1, none⟩ (.int .i64 m1)).setCell ⟨w.heap.size, 2, none⟩ (.bool st1)).alloc (.cells #[.string nm1, .int .i64 m1, .bool st1] 55)) := ⟨_, rfl⟩
     rw [← hW] at hf1 hf2 hf3 ⊢
     have f0 := hf2.cell0
     have f1 := hf2.cell1
     have f2 := hf2.cell2
     refine bodyPost_ret (v := .tuple #[.agg #[.string nm1, .int .i64 m1, .bool st1], .int .u8 b]) (by simp [results, Tryz.results124, go_sem, f0, f1, f2]) rfl ⟨?_, hf1, hf3⟩
     rw [HBt.out]
   · have q2 : (bad == 0) = false := beq_eq_false_iff_ne.2 hbad
     have q3 : (bad != 0) = true := bne_iff_ne.2 hbad
     have hr := HR.out
     rw [if_neg (fun h => hbad h.1)] at hr
     simp only [Option.some.injEq, Prod.mk.injEq] at hr
     obtain ⟨rfl, ⟨rfl, rfl, rfl⟩, rfl, rfl⟩ := hr
     clear HR
     go_wp2
     exact ⟨rfl, rfl, (HRd3.out.setAt _).keep ((Below.refl _ _).alloc (Nat.le_refl _) _), ((But.of HB3.out).set 1 _).alloc _⟩
 · have q1 : decide (0 ≤ i) = false := decide_eq_false h2
   have hta := HTA.out
   rw [if_neg h2] at hta htb
   have hn0 := htb.1
   have hn1 : n ≤ one.size := htb.2.1
   have hn2 : bad = 0 ∨ bad = 2 := htb.2.2.2
   clear htb hsp
   have HTA1 := Lib.hid hta
   clear hta HTA
   have hr := HR.out
   rw [if_neg (fun h => h2 h.2)] at hr
   simp only [Option.some.injEq, Prod.mk.injEq] at hr
   obtain ⟨rfl, ⟨rfl, rfl, rfl⟩, rfl, rfl⟩ := hr
   clear HR
   go_wp2_with fail
   refine (spec_Take.calls _ nm1 m1 st1 n bad _ hsz1 (HG.out.keep (HB2.out)) HTA1.out).mono ?_
   rintro e w3 ⟨rfl, hb3⟩
   have HB3 := Lib.hid (below_then (HB2.out) HB2.out.size hb3)
   have HX3 := Lib.hid (HX2.out.keep hb3)
   have hrd3 := HRd.out.keep HB3.out
   have HRd3 := Lib.hid hrd3
   have r1 := hrd3.cell1
   have z1 := hrd3.free 1
   have hg3 := hrd3.lt
   have hne : ¬ g = w.heap.size := by omega
   have hlw := HX3.out.lt
   have x0 := HX3.out.cell0
   have x1 := HX3.out.cell1
   have x2 := HX3.out.cell2
   have y0 := HX3.out.free 0
   have y1 := HX3.out.free 1
   have y2 := HX3.out.free 2
   have hsum : a + n ≤ s.size := by have := HOS.out; omega
   clear hb3 hrd3
   rcases hn2 with rfl | rfl
   · go_wp2
     exact ⟨rfl, rfl, (HRd3.out.setAt _).keep ((Below.refl _ _).alloc (Nat.le_refl _) _), ((But.of HB3.out).set 1 _).alloc _⟩
   · go_wp2
     exact ⟨rfl, rfl, (HRd3.out.setAt _).keep ((Below.refl _ _).alloc (Nat.le_refl _) _), ((But.of HB3.out).set 1 _).alloc _⟩
def stopFrom (k : Nat) (r : ByteArray) : Nat → Int → Option Int
 | 0, _ => none
 | d + 1, n => if n < r.size then (ucs_Fits.f k (r.extract 0 (n + 1).toNat)).bind fun b => if b = true then stopFrom k r d (n + 1) else some n else some n
def stopOf (k : Nat) (r : ByteArray) : Option Int :=
 if bt r 0 = 37 then some (if 1 < (r.size : Int) ∧ isHex (bt r 1).toNat = true then 2 else 1) else stopFrom k r (r.size + 1) 0
def reader_stop.f (k : Nat) (s : ByteArray) (a : Int) : Option Int := (stopOf k (s.extract a.toNat s.size)).map fun n => a + n
set_option maxRecDepth 100000 in
set_option maxHeartbeats 2000000 in
theorem reader_stop.calls (k : Nat) (w : World) (g : Nat) (s : ByteArray) (a : Int) (v : Value) (q : Int) (hr : Rd w g s a v) (h0 : 0 ≤ a) (h1 : a < s.size) (hs : s.size ≤ 1099511627776) (h : reader_stop.f k s a = some q) :
 Calls Tryz.prog 101 #[.pointer (some ⟨g, 0, none⟩)] w fun e w' => e = .returned (.int .i64 q) ∧ Below w.heap.size w w' := by
 unfold reader_stop.f at h
 obtain ⟨r, hr'⟩ : ∃ r, r = s.extract a.toNat s.size := ⟨_, rfl⟩
 have hrsz : r.size = s.size - a.toNat := by rw [hr', ByteArray.size_extract]; omega
 rw [← hr'] at h
 obtain ⟨p, hp, rfl⟩ := Option.map_eq_some_iff.1 h
 have HR := Lib.hid hr'
 have HS := Lib.hid hrsz
 have HRd := Lib.hid hr
 have hrp : 0 < r.size := by omega
 have hrs : r.size ≤ 1099511627776 := by omega
 clear h hr' hr hrsz
 unfold stopOf at hp
 have hix := bt_at r 0
 obtain ⟨c, hc⟩ : ∃ c, c = bt r 0 := ⟨_, rfl⟩
 rw [← hc] at hp hix
 have hix0 : ∀ h : 0 < r.size, ((r[0]'h).toNat : Int) = c := hix
 clear hc hix
 by_cases hc : c = 37
 · have q1 : (c == 37) = true := beq_iff_eq.2 hc
   rw [if_pos hc] at hp
   by_cases hn : (1 : Int) < r.size
   · have q2 : decide (1 < (r.size : Int)) = true := decide_eq_true hn
     have hix1 : ∀ h : 1 < r.size, ((r[1]'h).toNat : Int) = bt r 1 := bt_at r 1
     have hcr := bt_range r 1
     obtain ⟨c1, hc1⟩ : ∃ c, c = bt r 1 := ⟨_, rfl⟩
     rw [← hc1] at hix1 hcr hp
     obtain ⟨hcr0, hcr1⟩ := hcr
     have hn1 : 1 < r.size := by omega
     clear hc1 hc
     cases hb : isHex c1.toNat with
     | true =>
      rw [if_pos ⟨hn, hb⟩] at hp
      have HB := Lib.hid hb
      have HP := Lib.hid (Option.some.inj hp)
      clear hp hb
      go_enter Tryz.func101, Tryz.ntmps101
      go_wp2_with fail
      refine (text_rest.calls _ g s a v HRd.out h0 (by omega) hs).mono ?_
      rintro e w1 ⟨rfl, hb1⟩
      rw [← HR.out]
      have HB1 := Lib.hid hb1.below
      have hrd1 := HRd.out.keep hb1.below
      have c1 := hrd1.cell1
      have HRd1 := Lib.hid hrd1
      clear hb1 hrd1
      go_wp2_with fail
      have k1 := cell_regrown c1
      refine wp_region_quiet_below (by kernel_rfl) (by kernel_rfl) ?_
      repeat (go_big_quiet_step (first | (go_at_call 126; exact Calls.regrown_of (chars_Hex.calls _ _ rfl)) | exact Calls.regrown_of (chars_Set_Has.calls isHex _ true _ (by rw [chars_Set_Has.f, if_pos ⟨hcr0, hcr1⟩, HB.out]))))
      refine wpQuiet_nil ?_
      rintro _ ⟨⟨dq, osq⟩, rfl⟩
      have HBq := Lib.hid (HB1.out.trans ((below_regrown w1 dq osq).mono HB1.out.size))
      have c2 := k1 dq osq
      clear k1
      go_wp2
      go_ret
      rw [← HP.out]
      exact ⟨rfl, HBq.out⟩
     | false =>
      rw [if_neg (fun h => by rw [hb] at h; exact absurd h.2 (by simp))] at hp
      have HB := Lib.hid hb
      have HP := Lib.hid (Option.some.inj hp)
      clear hp hb
      go_enter Tryz.func101, Tryz.ntmps101
      go_wp2_with fail
      refine (text_rest.calls _ g s a v HRd.out h0 (by omega) hs).mono ?_
      rintro e w1 ⟨rfl, hb1⟩
      rw [← HR.out]
      have HB1 := Lib.hid hb1.below
      have hrd1 := HRd.out.keep hb1.below
      have c1 := hrd1.cell1
      have HRd1 := Lib.hid hrd1
      clear hb1 hrd1
      go_wp2_with fail
      have k1 := cell_regrown c1
      refine wp_region_quiet_below (by kernel_rfl) (by kernel_rfl) ?_
      repeat (go_big_quiet_step (first | (go_at_call 126; exact Calls.regrown_of (chars_Hex.calls _ _ rfl)) | exact Calls.regrown_of (chars_Set_Has.calls isHex _ false _ (by rw [chars_Set_Has.f, if_pos ⟨hcr0, hcr1⟩, HB.out]))))
      refine wpQuiet_nil ?_
      rintro _ ⟨⟨dq, osq⟩, rfl⟩
      have HBq := Lib.hid (HB1.out.trans ((below_regrown w1 dq osq).mono HB1.out.size))
      have c2 := k1 dq osq
      clear k1
      go_wp2
      go_ret
      rw [← HP.out]
      exact ⟨rfl, HBq.out⟩
   · have q2 : decide (1 < (r.size : Int)) = false := decide_eq_false hn
     rw [if_neg (fun h => hn h.1)] at hp
     have HP := Lib.hid (Option.some.inj hp)
     clear hp hc
     go_enter Tryz.func101, Tryz.ntmps101
     go_wp2_with fail
     refine (text_rest.calls _ g s a v HRd.out h0 (by omega) hs).mono ?_
     rintro e w1 ⟨rfl, hb1⟩
     rw [← HR.out]
     have HB1 := Lib.hid hb1.below
     have hrd1 := HRd.out.keep hb1.below
     have c1 := hrd1.cell1
     have HRd1 := Lib.hid hrd1
     clear hb1 hrd1
     go_wp2_with fail
     have k1 := cell_regrown c1
     refine wp_region_quiet_below (by kernel_rfl) (by kernel_rfl) ?_
     repeat (go_big_quiet_step (fail))
     refine wpQuiet_nil ?_
     rintro _ ⟨⟨dq, osq⟩, rfl⟩
     have HBq := Lib.hid (HB1.out.trans ((below_regrown w1 dq osq).mono HB1.out.size))
     have c2 := k1 dq osq
     clear k1
     go_wp2
     go_ret
     rw [← HP.out]
     exact ⟨rfl, HBq.out⟩
 · have q1 : (c == 37) = false := beq_eq_false_iff_ne.2 hc
   rw [if_neg hc] at hp
   have HP := Lib.hid hp
   clear hp hc
   go_enter Tryz.func101, Tryz.ntmps101
   go_wp2_with fail
   refine (text_rest.calls _ g s a v HRd.out h0 (by omega) hs).mono ?_
   rintro e w1 ⟨rfl, hb1⟩
   rw [← HR.out]
   have HB1 := Lib.hid hb1.below
   have hrd1 := HRd.out.keep hb1.below
   have c1 := hrd1.cell1
   have HRd1 := Lib.hid hrd1
   clear hb1 hrd1
   go_wp2
   go_loopw [5] (fun x wr => ∃ (d : Nat) (n : Int), x = .int .i64 n ∧ 0 ≤ n ∧ n ≤ r.size ∧ (r.size : Int) < n + d ∧ Hid (stopFrom k r d n = some p) ∧ Hid (Below w.heap.size w wr)) (fun x wr => r.size - (intOf x).toNat)
   case atStart => exact ⟨r.size + 1, 0, rfl, by omega, by omega, by omega, HP, HB1⟩
   case round =>
    obtain ⟨d, n, rfl, hn0, hn1, hd, HE, HBw⟩ := hrel
    cases d with
    | zero => omega
    | succ d =>
     have hE := HE.out
     rw [stopFrom] at hE
     by_cases hlt : n < r.size
     · rw [if_pos hlt] at hE
       obtain ⟨b, hb, hE⟩ := Option.bind_eq_some_iff.1 hE
       have HF := Lib.hid hb
       have q3 : decide (n < (r.size : Int)) = true := decide_eq_true hlt
       have hsl : ∀ W : World, (Instr.slice 9 (.string r) none (some (.int .i64 (n + 1))) none).run Tryz.prog W = .ok (.string (r.extract 0 (n + 1).toNat)) W := fun W => run_slice_string_h W 9 r Tryz.underlying9 .i64 (n + 1) (by omega) (by omega)
       clear hb
       cases b with
       | true =>
        rw [if_pos rfl] at hE
        have HE1 := Lib.hid hE
        clear hE HE
        go_wp2_with fail
        refine (ucs_Fits.calls k _ _ _ HF.out).mono ?_
        rintro e w2 ⟨rfl, hb2⟩
        have HB2 := Lib.hid (below_then HBw.out HBw.out.size hb2)
        clear hb2
        go_wp2
        go_roundw
        case rel => exact ⟨d, n + 1, by go_num, by omega, by omega, by omega, HE1, HB2⟩
        case measure => simp [intOf]; omega
       | false =>
        rw [if_neg (by simp)] at hE
        have HE1 := Lib.hid (Option.some.inj hE)
        clear hE HE
        go_wp2_with fail
        refine (ucs_Fits.calls k _ _ _ HF.out).mono ?_
        rintro e w2 ⟨rfl, hb2⟩
        have HB2 := Lib.hid (below_then HBw.out HBw.out.size hb2)
        have d1 := (HRd.out.keep HB2.out).cell1
        clear hb2
        go_wp2
        go_ret
        exact ⟨by show Ending.returned (.int .i64 (a + n)) = _; rw [HE1.out], HB2.out⟩
     · rw [if_neg hlt] at hE
       have q3 : decide (n < (r.size : Int)) = false := decide_eq_false hlt
       have HE1 := Lib.hid (Option.some.inj hE)
       clear hE HE
       have d1 := (HRd.out.keep HBw.out).cell1
       go_wp2
       go_ret
       exact ⟨by show Ending.returned (.int .i64 (a + n)) = _; rw [HE1.out], HBw.out⟩
theorem get_bs (s : ByteArray) (i : Nat) : (s.get! i).toNat = (bs s).getD i 0 := by
 by_cases h : i < s.size
 · obtain ⟨b, hb, he⟩ := bt_get s i h
   rw [List.getD_eq_getElem?_getD, hb, Option.getD_some]
   have h2 := bt_at s (i : Int) (by simpa using h)
   rw [he] at h2
   have e : s.get! i = s[i]'h := by
    cases s with
    | mk d =>
     show d[i]! = _
     rw [getElem!_pos d i h]
     rfl
   rw [e]
   have : ((s[i]'h).toNat : Int) = (b : Int) := h2
   omega
 · rw [List.getD_eq_getElem?_getD, List.getElem?_eq_none (by rw [bs_length]; omega)]
   cases s with
   | mk d =>
    show (d[i]!).toNat = 0
    rw [getElem!_neg d i h]
    rfl
def dec (l : List Nat) : Nat × Nat := Lib.decodeN l.length (l.getD 0 0) (l.getD 1 0) (l.getD 2 0) (l.getD 3 0)
theorem decode_bs (s : ByteArray) (p : Nat) : Utf8.decode s p = dec ((bs s).drop p) := by
 rw [Lib.decode_at, get_bs, get_bs, get_bs, get_bs, dec, List.length_drop, bs_length]
 simp only [List.getD_eq_getElem?_getD, List.getElem?_drop, Nat.add_zero]
def Fffd (l : List Nat) : Prop := ∃ r, l = 239 :: 191 :: 189 :: r
theorem dec_uAt (l : List Nat) (hl : ∀ b ∈ l, b < 256) (h0 : l ≠ []) : ((uAt l).2 ≠ 0 → dec l = uAt l ∧ ((uAt l).1 = 65533 → Fffd l)) ∧ ((uAt l).2 = 0 → dec l = (65533, 1) ∧ ¬ Fffd l) := by
 match l, hl, h0 with
 | [], _, h0 => exact absurd rfl h0
 | [b0], hl, _ =>
  have hb0 := hl b0 (by simp)
  simp only [uAt, dec, Lib.decodeN, List.length_cons, List.length_nil, List.getD_cons_zero]
  by_cases h : b0 < 128
  · rw [if_pos h, if_pos h]
    exact ⟨fun _ => ⟨rfl, fun g => by simp only at g; omega⟩, fun g => by cases g⟩
  · rw [if_neg h, if_neg h, if_neg (by omega), if_neg (by omega), if_neg (by omega)]
    exact ⟨fun g => absurd rfl g, fun _ => ⟨rfl, fun ⟨r, g⟩ => by cases g⟩⟩
 | b0 :: b1 :: r, hl, _ =>
  have hb0 := hl b0 (by simp)
  have hb1 := hl b1 (by simp)
  by_cases h : b0 < 128
  · simp only [uAt, dec, Lib.decodeN, List.getD_cons_zero]
    rw [if_pos h, if_pos h]
    exact ⟨fun _ => ⟨rfl, fun g => by simp only at g; omega⟩, fun g => by cases g⟩
  by_cases h2 : b0 / 32 = 6
  · rw [uAt2 h2]
    unfold u2
    have e : dec (b0 :: b1 :: r) = if b1 / 64 = 2 then (if b0 % 32 * 64 + b1 % 64 ≥ 128 then (b0 % 32 * 64 + b1 % 64, 2) else (65533, 1)) else (65533, 1) := by
     simp only [dec, Lib.decodeN, List.length_cons, List.getD_cons_zero, List.getD_cons_succ]
     rw [if_neg h]
     by_cases g : b1 / 64 = 2
     · rw [if_pos ⟨h2, by omega, g⟩, if_pos g]
     · rw [if_neg fun k => g k.2.2, if_neg g, if_neg (by omega), if_neg (by omega)]
    rw [e]
    have hnf : ¬ Fffd (b0 :: b1 :: r) := fun ⟨r', g⟩ => by have := (List.cons.inj g).1; omega
    by_cases g : b1 / 64 = 2
    · rw [if_pos g]
      by_cases g2 : 128 ≤ b0 % 32 * 64 + b1 % 64
      · rw [if_pos ⟨g, g2⟩, if_pos g2]
        exact ⟨fun _ => ⟨rfl, fun k => by simp only at k; omega⟩, fun k => by cases k⟩
      · rw [if_neg fun k => g2 k.2, if_neg g2]
        exact ⟨fun k => absurd rfl k, fun _ => ⟨rfl, hnf⟩⟩
    · rw [if_neg g, if_neg fun k => g k.1]
      exact ⟨fun k => absurd rfl k, fun _ => ⟨rfl, hnf⟩⟩
  match r, hl with
  | [], _ =>
   simp only [uAt, dec, Lib.decodeN, List.length_cons, List.length_nil, List.getD_cons_zero, List.getD_cons_succ]
   rw [if_neg h, if_neg h2, if_neg h, if_neg (by omega), if_neg (by omega), if_neg (by omega)]
   exact ⟨fun g => absurd rfl g, fun _ => ⟨rfl, fun ⟨r, g⟩ => by cases g⟩⟩
  | b2 :: r, hl =>
   have hb2 := hl b2 (by simp)
   by_cases h3 : b0 / 16 = 14
   · rw [uAt3 h3]
     unfold u3 MayR
     have e : dec (b0 :: b1 :: b2 :: r) = if b1 / 64 = 2 ∧ b2 / 64 = 2 then (if b0 % 16 * 4096 + b1 % 64 * 64 + b2 % 64 ≥ 2048 ∧ (b0 % 16 * 4096 + b1 % 64 * 64 + b2 % 64 < 55296 ∨ (57344 ≤ b0 % 16 * 4096 + b1 % 64 * 64 + b2 % 64 ∧ b0 % 16 * 4096 + b1 % 64 * 64 + b2 % 64 ≤ 1114111)) then (b0 % 16 * 4096 + b1 % 64 * 64 + b2 % 64, 3) else (65533, 1)) else (65533, 1) := by
      simp only [dec, Lib.decodeN, List.length_cons, List.getD_cons_zero, List.getD_cons_succ]
      rw [if_neg h, if_neg (by omega)]
      by_cases g : b1 / 64 = 2 ∧ b2 / 64 = 2
      · rw [if_pos ⟨h3, ⟨by omega, g.1⟩, by omega, g.2⟩, if_pos g]
      · rw [if_neg fun k => g ⟨k.2.1.2, k.2.2.2⟩, if_neg g, if_neg (by omega)]
     rw [e]
     have hff : Fffd (b0 :: b1 :: b2 :: r) → b0 % 16 * 4096 + b1 % 64 * 64 + b2 % 64 = 65533 ∧ b1 / 64 = 2 ∧ b2 / 64 = 2 := by
      rintro ⟨r', g⟩
      simp only [List.cons.injEq] at g
      omega
     have hff2 : b0 % 16 * 4096 + b1 % 64 * 64 + b2 % 64 = 65533 → b1 / 64 = 2 → b2 / 64 = 2 → Fffd (b0 :: b1 :: b2 :: r) := by
      intro g1 g2 g3
      refine ⟨r, ?_⟩
      simp only [List.cons.injEq, and_true]
      omega
     by_cases g : b1 / 64 = 2 ∧ b2 / 64 = 2
     · rw [if_pos g]
       by_cases g2 : b0 % 16 * 4096 + b1 % 64 * 64 + b2 % 64 ≥ 2048 ∧ (b0 % 16 * 4096 + b1 % 64 * 64 + b2 % 64 < 55296 ∨ (57344 ≤ b0 % 16 * 4096 + b1 % 64 * 64 + b2 % 64 ∧ b0 % 16 * 4096 + b1 % 64 * 64 + b2 % 64 ≤ 1114111))
       · rw [if_pos g2, if_pos ⟨g.1, g.2, g2.1, by omega, by omega⟩]
         exact ⟨fun _ => ⟨rfl, fun k => hff2 k g.1 g.2⟩, fun k => by cases k⟩
       · rw [if_neg g2, if_neg fun k => g2 ⟨k.2.2.1, by omega⟩]
         exact ⟨fun k => absurd rfl k, fun _ => ⟨rfl, fun k => by have := hff k; omega⟩⟩
     · rw [if_neg g, if_neg fun k => g ⟨k.1, k.2.1⟩]
       exact ⟨fun k => absurd rfl k, fun _ => ⟨rfl, fun k => g (hff k).2⟩⟩
   have hnf : ¬ Fffd (b0 :: b1 :: b2 :: r) := fun ⟨r', g⟩ => by have := (List.cons.inj g).1; omega
   match r, hl with
   | [], _ =>
    simp only [uAt, dec, Lib.decodeN, List.length_cons, List.length_nil, List.getD_cons_zero, List.getD_cons_succ]
    rw [if_neg h, if_neg h2, if_neg h3, if_neg h, if_neg (by omega), if_neg (by omega), if_neg (by omega)]
    exact ⟨fun g => absurd rfl g, fun _ => ⟨rfl, hnf⟩⟩
   | b3 :: r, hl =>
    have hb3 := hl b3 (by simp)
    by_cases h4 : b0 / 8 = 30
    · rw [uAt4 h4]
      unfold u4 MayR
      have e : dec (b0 :: b1 :: b2 :: b3 :: r) = if b1 / 64 = 2 ∧ b2 / 64 = 2 ∧ b3 / 64 = 2 then (if b0 % 8 * 262144 + b1 % 64 * 4096 + b2 % 64 * 64 + b3 % 64 ≥ 65536 ∧ (b0 % 8 * 262144 + b1 % 64 * 4096 + b2 % 64 * 64 + b3 % 64 < 55296 ∨ (57344 ≤ b0 % 8 * 262144 + b1 % 64 * 4096 + b2 % 64 * 64 + b3 % 64 ∧ b0 % 8 * 262144 + b1 % 64 * 4096 + b2 % 64 * 64 + b3 % 64 ≤ 1114111)) then (b0 % 8 * 262144 + b1 % 64 * 4096 + b2 % 64 * 64 + b3 % 64, 4) else (65533, 1)) else (65533, 1) := by
       simp only [dec, Lib.decodeN, List.length_cons, List.getD_cons_zero, List.getD_cons_succ]
       rw [if_neg h, if_neg (by omega), if_neg (by omega)]
       by_cases g : b1 / 64 = 2 ∧ b2 / 64 = 2 ∧ b3 / 64 = 2
       · rw [if_pos ⟨h4, ⟨by omega, g.1⟩, ⟨by omega, g.2.1⟩, by omega, g.2.2⟩, if_pos g]
       · rw [if_neg fun k => g ⟨k.2.1.2, k.2.2.1.2, k.2.2.2.2⟩, if_neg g]
      rw [e]
      by_cases g : b1 / 64 = 2 ∧ b2 / 64 = 2 ∧ b3 / 64 = 2
      · rw [if_pos g]
        by_cases g2 : b0 % 8 * 262144 + b1 % 64 * 4096 + b2 % 64 * 64 + b3 % 64 ≥ 65536 ∧ (b0 % 8 * 262144 + b1 % 64 * 4096 + b2 % 64 * 64 + b3 % 64 < 55296 ∨ (57344 ≤ b0 % 8 * 262144 + b1 % 64 * 4096 + b2 % 64 * 64 + b3 % 64 ∧ b0 % 8 * 262144 + b1 % 64 * 4096 + b2 % 64 * 64 + b3 % 64 ≤ 1114111))
        · rw [if_pos g2, if_pos ⟨g.1, g.2.1, g.2.2, g2.1, by omega, by omega⟩]
          exact ⟨fun _ => ⟨rfl, fun k => by simp only at k; omega⟩, fun k => by cases k⟩
        · rw [if_neg g2, if_neg fun k => g2 ⟨k.2.2.2.1, by omega⟩]
          exact ⟨fun k => absurd rfl k, fun _ => ⟨rfl, hnf⟩⟩
      · rw [if_neg g, if_neg fun k => g ⟨k.1, k.2.1, k.2.2.1⟩]
        exact ⟨fun k => absurd rfl k, fun _ => ⟨rfl, hnf⟩⟩
    · simp only [uAt, dec, Lib.decodeN, List.length_cons, List.getD_cons_zero, List.getD_cons_succ]
      rw [if_neg h, if_neg h2, if_neg h3, if_neg h4, if_neg h, if_neg (by omega), if_neg (by omega), if_neg (by omega)]
      exact ⟨fun g => absurd rfl g, fun _ => ⟨rfl, hnf⟩⟩
theorem enc_fffd : (Utf8.encode 65533).toList = [239, 191, 189] := by decide +kernel
theorem fffd_iff (s : ByteArray) (p : Nat) (hp : p < s.size) : Fffd ((bs s).drop p) ↔ ¬ ((decide (s.size - p < 3) || (s.extract p (p + 3)).toList != (Utf8.encode 65533).toList) = true) := by
 rw [enc_fffd]
 have e : (s.extract p (p + 3)).toList = ([239, 191, 189] : List UInt8) ↔ ((bs s).drop p).take 3 = [239, 191, 189] := by
  rw [toList_is, bs_extract, List.drop_take, show p + 3 - p = 3 by omega]
  rfl
 simp only [Bool.or_eq_true, decide_eq_true_eq, bne_iff_ne, ne_eq, e, not_or, Classical.not_not]
 constructor
 · rintro ⟨r, h⟩
   have hl := congrArg List.length h
   rw [List.length_drop, bs_length] at hl
   simp only [List.length_cons] at hl
   exact ⟨by omega, by rw [h]; rfl⟩
 · rintro ⟨-, h⟩
   refine ⟨((bs s).drop p).drop 3, ?_⟩
   conv => lhs; rw [← List.take_append_drop 3 ((bs s).drop p), h]
   rfl
theorem bs_drop_lt (s : ByteArray) (p : Nat) : ∀ b ∈ (bs s).drop p, b < 256 := fun b hb => bs_lt s b (List.mem_of_mem_drop hb)
theorem badAt_uAt (s : ByteArray) (p : Nat) (hp : p < s.size) : badAt s p = true ↔ (uAt ((bs s).drop p)).2 = 0 := by
 have hne : (bs s).drop p ≠ [] := by
  intro g
  have := congrArg List.length g
  rw [List.length_drop, bs_length] at this
  simp only [List.length_nil] at this
  omega
 obtain ⟨h1, h2⟩ := dec_uAt _ (bs_drop_lt s p) hne
 have h3 := fffd_iff s p hp
 unfold badAt
 rw [decode_bs, Bool.and_eq_true, beq_iff_eq]
 by_cases h : (uAt ((bs s).drop p)).2 = 0
 · obtain ⟨g1, g2⟩ := h2 h
   rw [g1]
   rw [h3, Classical.not_not] at g2
   exact ⟨fun _ => h, fun _ => ⟨rfl, g2⟩⟩
 · obtain ⟨g1, g2⟩ := h1 h
   rw [g1]
   constructor
   · rintro ⟨k1, k2⟩
     exact absurd k2 (h3.1 (g2 k1))
   · intro k
     exact absurd k h
theorem chars_bad (s : ByteArray) (k p : Nat) (h : (uAt ((bs s).drop p)).2 = 0) : charsFrom s k p = ([], p) := by
 refine charsFrom_stop fun ⟨g1, g2⟩ => ?_
 rw [(badAt_uAt s p g1).2 h] at g2
 cases g2
theorem uAt_lt (s : ByteArray) (p : Nat) (h : (uAt ((bs s).drop p)).2 ≠ 0) : p < s.size := by
 refine Classical.byContradiction fun g => ?_
 rw [List.drop_eq_nil_of_le (by rw [bs_length]; omega)] at h
 exact h rfl
theorem chars_good (s : ByteArray) (k p : Nat) (h : (uAt ((bs s).drop p)).2 ≠ 0) : charsFrom s (k + 1) p = (((uAt ((bs s).drop p)).1 : Int) :: (charsFrom s k (p + (uAt ((bs s).drop p)).2)).1, (charsFrom s k (p + (uAt ((bs s).drop p)).2)).2) := by
 have hp := uAt_lt s p h
 have hb : badAt s p = false := by
  cases e : badAt s p with
  | false => rfl
  | true => exact absurd ((badAt_uAt s p hp).1 e) h
 have hne : (bs s).drop p ≠ [] := fun g => by
  rw [g] at h
  exact h rfl
 rw [charsFrom_step hp hb, decode_bs, ((dec_uAt _ (bs_drop_lt s p) hne).1 h).1]
theorem chars_ge (s : ByteArray) : ∀ k p, p ≤ (charsFrom s k p).2
 | 0, p => Nat.le_refl _
 | k + 1, p => by
  by_cases h : (uAt ((bs s).drop p)).2 = 0
  · rw [chars_bad s _ p h]
    exact Nat.le_refl _
  · rw [chars_good s k p h]
    have := chars_ge s k (p + (uAt ((bs s).drop p)).2)
    simp only
    omega
theorem uAt_le (l : List Nat) : (uAt l).2 ≤ l.length := by
 match l with
 | [] => exact Nat.le_refl _
 | b0 :: r =>
  rcases uAt_width b0 r with h | ⟨h1, h2, -⟩
  · omega
  · rw [List.length_cons]
    omega
theorem uAt_take {l : List Nat} {m : Nat} (h : (uAt l).2 ≤ m) (h0 : (uAt l).2 ≠ 0) : uAt (l.take m) = uAt l := by
 match l, h, h0 with
 | [], _, h0 => exact absurd rfl h0
 | b0 :: r, h, h0 =>
  rcases uAt_width b0 r with g | ⟨g1, -, -, g4⟩
  · exact absurd g h0
  · exact g4 m (by omega)
theorem chars_one (s : ByteArray) (h0 : (uAt (bs s)).2 ≠ 0) (h : (uAt (bs s)).2 = s.size) : charsFrom s s.size 0 = ([((uAt (bs s)).1 : Int)], s.size) := by
 obtain ⟨k, hk⟩ : ∃ k, s.size = k + 1 := ⟨s.size - 1, by omega⟩
 have e := chars_good s k 0 (by rw [List.drop_zero]; exact h0)
 rw [List.drop_zero, Nat.zero_add, h, chars_bad s k s.size (by rw [List.drop_eq_nil_of_le (by rw [bs_length]; exact Nat.le_refl _)]; rfl)] at e
 conv => lhs; rw [hk]
 exact e
theorem prog_prefix (s : ByteArray) (hs : s.size ≤ 1099511627776) : ∃ one, utf_Prefix.f s 1 = some one ∧ bs one = (bs s).take (uAt (bs s)).2 := by
 unfold utf_Prefix.f
 rw [if_pos hs]
 refine ⟨_, rfl, ?_⟩
 by_cases h : (uAt (bs s)).2 = 0
 · rw [chars_bad s _ 0 (by rw [List.drop_zero]; exact h), h]
   have e : bs (s.extract 0 0) = [] := by rw [bs_upto]; rfl
   rw [bs_upto, e]
   simp
 · have hp := uAt_lt s 0 (by rw [List.drop_zero]; exact h)
   have hP := chars_ge s (s.size - 1) (uAt (bs s)).2
   have hC : (charsFrom s s.size 0).2 = (charsFrom s (s.size - 1) (uAt (bs s)).2).2 := by
    obtain ⟨k, hk⟩ : ∃ k, s.size = k + 1 := ⟨s.size - 1, by omega⟩
    have e := chars_good s k 0 (by rw [List.drop_zero]; exact h)
    rw [List.drop_zero, Nat.zero_add] at e
    rw [hk, e]
    rfl
   have hle := charsFrom_le s s.size 0 (Nat.zero_le _)
   rw [← hC] at hP
   generalize hp' : (charsFrom s s.size 0).2 = p at *
   have hq : bs (s.extract 0 p) = (bs s).take p := bs_upto s p
   have hsz : (s.extract 0 p).size = p := bs_size_upto s p hle
   have hu : uAt (bs (s.extract 0 p)) = uAt (bs s) := by rw [hq]; exact uAt_take hP h
   have hd : (Utf8.decode (s.extract 0 p) 0).2 = (uAt (bs s)).2 := by
    have hne : bs (s.extract 0 p) ≠ [] := fun g => by
     rw [g] at hu
     rw [← hu] at h
     exact h rfl
    rw [decode_bs, List.drop_zero, ((dec_uAt _ (bs_lt _) hne).1 (by rw [hu]; exact h)).1, hu]
   have hpos : prefPos (s.extract 0 p) 1 ((s.extract 0 p).size + 1) 0 0 = (uAt (bs s)).2 := by
    rw [prefPos, if_pos (by omega), if_neg (by omega), hd]
    obtain ⟨k, hk⟩ : ∃ k, (s.extract 0 p).size = k + 1 := ⟨(s.extract 0 p).size - 1, by omega⟩
    rw [hk, prefPos]
    by_cases g : 0 + (uAt (bs s)).2 < (s.extract 0 p).size
    · rw [if_pos g, if_pos (by omega), Nat.zero_add]
    · rw [if_neg g]
      omega
   rw [hpos, bs_upto, hq, List.take_take, Nat.min_eq_left hP]
theorem meets_one (c : Nat) : meetsFrom (c : Int) (c : Int) 19 0 = decide (MayC c) := by
 rw [mt_le (Nat.le_refl _)]
 rw [Bool.eq_iff_iff, mt_iff, decide_eq_true_eq]
 constructor
 · rintro ⟨x, h1, h2, h3⟩
   obtain rfl : x = c := by omega
   exact h3
 · intro h
   exact ⟨c, Nat.le_refl _, Nat.le_refl _, h⟩
theorem prog_take (s : ByteArray) (hs : s.size ≤ 1099511627776) : ∃ c : Int, Ev (fun k => ucs_Take.f k s) (c, (ucsAt (bs s) : Int)) := by
 obtain ⟨one, h1, h2⟩ := prog_prefix s hs
 have hle := uAt_le (bs s)
 have hsz : one.size = (uAt (bs s)).2 := by rw [← bs_length, h2, List.length_take]; omega
 have hsz2 : one.size ≤ 1099511627776 := by rw [hsz]; rw [bs_length] at hle; omega
 rw [ucs_uAt _ (bs_lt s)]
 by_cases h : (uAt (bs s)).2 = 0
 · rw [if_pos h]
   have hc : utf_Chars.f one = some ([], true) := by
    unfold utf_Chars.f
    have e : one.size = 0 := by omega
    rw [if_pos hsz2, e]
    rfl
   refine ⟨0, Ev.congr (fun k => by simp only [ucs_Take.f]; rw [h1, Option.bind_some, hc, Option.bind_some]) (Ev.step (f := fun _ => some (0, 0)) (fun k => by simp only [ucs_Take.l0]; rw [if_neg (by simp)]) (Ev.now _))⟩
 · rw [if_neg h]
   have hu : uAt (bs one) = uAt (bs s) := by rw [h2]; exact uAt_take (Nat.le_refl _) h
   have hch := chars_one one (by rw [hu]; exact h) (by rw [hu]; exact hsz.symm)
   rw [hu] at hch
   have hc : utf_Chars.f one = some ([((uAt (bs s)).1 : Int)], true) := by
    unfold utf_Chars.f
    rw [if_pos hsz2, hch, if_neg (by simp)]
   have hm : ucs_May.f ((uAt (bs s)).1 : Int) = some (decide (MayC (uAt (bs s)).1)) := by
    unfold ucs_May.f ucs_meets.f
    rw [meets_one]
    rfl
   have hl : ∀ r, Ev (fun k => if MayC (uAt (bs s)).1 then some (((uAt (bs s)).1 : Int), (one.size : Int)) else some (0, 0)) r → Ev (fun k => ucs_Take.f k s) r := by
    intro r hr
    refine Ev.congr (f := fun k => ucs_Take.l0 k one [((uAt (bs s)).1 : Int)] 1 0) (fun k => by simp only [ucs_Take.f]; rw [h1, Option.bind_some, hc, Option.bind_some]; rfl) ?_
    by_cases g : MayC (uAt (bs s)).1
    · refine Ev.step (f := fun k => if MayC (uAt (bs s)).1 then some (((uAt (bs s)).1 : Int), (one.size : Int)) else some (0, 0)) (fun k => ?_) hr
      simp only [ucs_Take.l0]
      rw [if_pos (by omega), if_pos (by omega), if_pos (by simp), show rd [((uAt (bs s)).1 : Int)] 0 = ((uAt (bs s)).1 : Int) from rfl, hm, Option.bind_some, decide_eq_true g, if_pos rfl, if_pos g]
    · refine Ev.step (f := fun k => ucs_Take.l0 k one [((uAt (bs s)).1 : Int)] 1 1) (fun k => ?_) (Ev.step (f := fun k => if MayC (uAt (bs s)).1 then some (((uAt (bs s)).1 : Int), (one.size : Int)) else some (0, 0)) (fun k => ?_) hr)
      · simp only [ucs_Take.l0]
        rw [if_pos (by omega), if_pos (by omega), if_pos (by simp), show rd [((uAt (bs s)).1 : Int)] 0 = ((uAt (bs s)).1 : Int) from rfl, hm, Option.bind_some, decide_eq_false g, if_neg (by simp), w64 (n := 0 + 1) (by omega) (by omega)]
        rfl
      · simp only [ucs_Take.l0]
        rw [if_neg (by omega), if_neg g]
   by_cases g : MayC (uAt (bs s)).1
   · rw [if_pos g, ← hsz]
     exact ⟨_, hl _ (Ev.pos g (Ev.now _))⟩
   · rw [if_neg g]
     exact ⟨0, hl _ (Ev.neg g (Ev.now _))⟩
theorem prog_digit {b : Nat} (h : b < 256) : ∃ n : Int, Ev (fun k => pct_Digit.f k (b : Int)) (n, isHex b) := by
 have : ∀ b : Fin 256, ∃ n : Fin 16, pct_Digit.f 20 ((b.1 : Nat) : Int) = some (((n.1 : Nat) : Int), isHex b.1) := by decide +kernel
 obtain ⟨n, hn⟩ := this ⟨b, h⟩
 exact ⟨_, Ev.of (fun k => pct_Digit.mono _ k) hn⟩
theorem prog_trip (s : ByteArray) : Ev (fun k => pct_Triplet.f k s) (trip (bs s)) := by
 by_cases h : 3 ≤ s.size
 · obtain ⟨a, a1, a2, a3⟩ := bs_get s 0 (by omega)
   obtain ⟨b, b1, b2, b3⟩ := bs_get s 1 (by omega)
   obtain ⟨c, c1, c2, c3⟩ := bs_get s 2 (by omega)
   have e : bs s = a :: b :: c :: (bs s).drop 3 := by
    rw [← c3, ← b3, ← a3]
    rfl
   have a2' : bt s 0 = (a : Int) := a2
   have b2' : bt s 1 = (b : Int) := b2
   have c2' : bt s 2 = (c : Int) := c2
   have hv : ∃ n : Int, Ev (fun k => pct_value.f k s) (n, trip (bs s)) := by
    by_cases ha : a = 37
    · obtain ⟨n, hn⟩ := prog_digit b1
      obtain ⟨m, hm⟩ := prog_digit c1
      have hj : ∀ r, Ev (fun k => (pct_Digit.f k (b : Int)).bind fun bt349 => (pct_Digit.f k (c : Int)).bind fun bt351 => (if bt349.2 = true then (some ((wrap64 ((wrap64 (16 * bt349.1)) + bt351.1)) % 256, bt351.2)) else (some ((wrap64 ((wrap64 (16 * bt349.1)) + bt351.1)) % 256, false)))) r → Ev (fun k => pct_value.f k s) r := by
       intro r hr
       refine Ev.congr (f := fun k => pct_value.j0 k s false) (fun k => by simp only [pct_value.f]; rw [if_neg (by omega), if_pos (by omega), a2', show ((a : Int) != 37) = false by rw [ha]; rfl]) ?_
       refine Ev.step (f := _) (fun k => ?_) hr
       have d1 : (1 < (s.size : Int)) = True := eq_true (by omega)
       have d2 : (2 < (s.size : Int)) = True := eq_true (by omega)
       simp only [pct_value.j0, Bool.false_eq_true, d1, d2, if_true, if_false, b2', c2']
      rw [e]
      simp only [trip, ha]
      refine ⟨wrap64 ((wrap64 (16 * n)) + m) % 256, hj _ (hn.bind (hm.bind ?_))⟩
      cases hx : isHex b with
      | true => exact Ev.now _
      | false => exact Ev.now _
    · refine ⟨0, ?_⟩
      have : trip (bs s) = false := by
       rw [e]
       simp only [trip]
       rw [beq_eq_false_iff_ne.2 ha, Bool.false_and]
      rw [this]
      refine Ev.congr (f := fun k => pct_value.j0 k s true) (fun k => by simp only [pct_value.f]; rw [if_neg (by omega), if_pos (by omega), a2', show ((a : Int) != 37) = true by rw [bne_iff_ne]; omega]) ?_
      exact Ev.step (f := fun _ => some (0, false)) (fun k => by simp only [pct_value.j0]; rw [if_pos trivial]) (Ev.now _)
   obtain ⟨n, hn⟩ := hv
   exact hn.bind (Ev.now _)
 · rw [trip_short (by rw [bs_length]; omega)]
   have hv : Ev (fun k => pct_value.f k s) (0, false) := by
    refine Ev.congr (f := fun k => pct_value.j0 k s true) (fun k => by simp only [pct_value.f]; rw [if_pos (by omega)]) ?_
    exact Ev.step (f := fun _ => some (0, false)) (fun k => by simp only [pct_value.j0]; rw [if_pos trivial]) (Ev.now _)
   exact hv.bind (Ev.now _)
theorem prog_piece (s : ByteArray) (hs : s.size ≤ 1099511627776) : Ev (fun k => tmpl_piece.f k s) (pieceN (bs s) : Int) := by
 unfold tmpl_piece.f
 obtain ⟨c, hc⟩ := prog_take s hs
 refine hc.bind ?_
 rcases bs_cases s with ⟨-, h2, h3⟩ | ⟨b, r, hb, h2, h3, h4, h5, h6, h7⟩
 · rw [h2]
   exact Ev.pos h3 (Ev.now _)
 · have hp : pieceN (bs s) = if isLit b = true then 1 else if trip (bs s) = true then 3 else ucsAt (bs s) := by rw [h2]; rfl
   refine Ev.neg h6 ?_
   have hh : chars_Set_Has.f isLit (bt s 0) = some (isLit b) := by
    unfold chars_Set_Has.f
    rw [h3, if_pos ⟨by omega, by omega⟩]
    rfl
   simp only [chars_Literal.f, Option.bind_some, hh]
   refine Ev.pos (by omega) ?_
   rw [hp]
   by_cases hl : isLit b = true
   · rw [if_pos hl]
     exact Ev.pos hl (Ev.now _)
   rw [if_neg hl]
   refine Ev.neg hl ?_
   refine (prog_trip s).bind ?_
   by_cases ht : trip (bs s) = true
   · have e3 : (if trip (bs s) = true then 3 else ucsAt (bs s)) = 3 := if_pos ht
     rw [e3]
     exact Ev.pos ht (Ev.now _)
   have e3 : (if trip (bs s) = true then 3 else ucsAt (bs s)) = ucsAt (bs s) := if_neg ht
   rw [e3]
   exact Ev.neg ht (Ev.now _)
theorem prog_pieces_from (s : ByteArray) (hs : s.size ≤ 1099511627776) : ∀ (d a : Nat), s.size - a < d → a ≤ s.size → Ev (fun k => tmpl_pieces.l0 k s (a : Int) (pieceN ((bs s).drop a) : Int)) ((a + piecesN d ((bs s).drop a) : Nat) : Int)
 | 0, a, h, _ => by omega
 | d + 1, a, h, ha => by
  simp only [piecesN]
  by_cases h0 : pieceN ((bs s).drop a) = 0
  · rw [if_pos h0, h0]
    exact Ev.step (f := fun _ => some (a : Int)) (fun k => by simp only [tmpl_pieces.l0]; rw [if_neg (by omega)]) (Ev.now _)
  · rw [if_neg h0, List.drop_drop, ← Nat.add_assoc]
    obtain ⟨q1, -, -⟩ := piece_top h0
    rw [List.length_drop, bs_length] at q1
    have hp := prog_piece (s.extract (a + pieceN ((bs s).drop a)) s.size) (by rw [bs_size_from]; omega)
    rw [bs_from] at hp
    have ih := prog_pieces_from s hs d (a + pieceN ((bs s).drop a)) (by omega) (by omega)
    generalize pieceN ((bs s).drop a) = m at *
    have ew : wrap64 ((a : Int) + (m : Int)) = ((a + m : Nat) : Int) := by rw [w64 (by omega) (by omega)]; omega
    refine Ev.step (f := fun k => (tmpl_piece.f k (s.extract (a + m) s.size)).bind fun t362 => tmpl_pieces.l0 k s ((a + m : Nat) : Int) t362) (fun k => ?_) (hp.bind ih)
    have c1 : ((m : Int) > 0) = True := eq_true (by omega)
    have c2 : (0 ≤ ((a + m : Nat) : Int)) = True := eq_true (by omega)
    have c3 : (((a + m : Nat) : Int) ≤ (s.size : Int)) = True := eq_true (by omega)
    simp only [tmpl_pieces.l0, ew, c1, c2, c3, if_true, Int.toNat_natCast]
theorem prog_pieces (s : ByteArray) (hs : s.size ≤ 1099511627776) (d : Nat) (hd : s.size < d) : Ev (fun k => tmpl_pieces.f k s) ((piecesN d (bs s) : Nat) : Int) := by
 have h := prog_pieces_from s hs d 0 (by omega) (by omega)
 rw [List.drop_zero, Nat.zero_add] at h
 exact (prog_piece s hs).bind h
def goodV (v : S55) : Bool := match spec_May.f v.f0 v.f1 v.f2 with
 | some b => b
 | none => false
theorem goodV_some {v : S55} (h : v.f0.size ≤ 1099511627776) : spec_May.f v.f0 v.f1 v.f2 = some (goodV v) := by
 have : ∃ b, spec_May.f v.f0 v.f1 v.f2 = some b := by
  unfold spec_May.f vname_May.f vname_End.f vname_ends.f
  rw [if_pos h]
  simp only [Option.bind_some]
  repeat' split
  all_goals first | exact ⟨_, rfl⟩ | skip
  all_goals (simp only [Option.bind_some]; repeat' split)
  all_goals exact ⟨_, rfl⟩
 obtain ⟨b, hb⟩ := this
 unfold goodV
 rw [hb]
def firstBad : List S55 → Nat → Int
 | [], _ => -1
 | v :: r, i => if goodV v = true then firstBad r (i + 1) else (i : Int)
theorem firstBad_iff : ∀ (l : List S55) (i : Nat), firstBad l i ≥ 0 ↔ l.all goodV = false
 | [], i => by simp [firstBad]
 | v :: r, i => by
  simp only [firstBad, List.all_cons]
  by_cases h : goodV v = true
  · rw [if_pos h, h, Bool.true_and]
    exact firstBad_iff r (i + 1)
  · rw [if_neg h, Bool.eq_false_iff.2 h, Bool.false_and]
    simp
theorem tmpl_fine1.calls (v : S55) (r : Bool) (w : World) (h : spec_May.f v.f0 v.f1 v.f2 = some r) :
 Calls Tryz.prog 103 #[.agg #[.string v.f0, .int .i64 v.f1, .bool v.f2]] w fun e w' => e = .returned (.bool (!r)) ∧ Below w.heap.size w w' := by
 have HS := Lib.hid h
 clear h
 go_enter Tryz.func103, Tryz.ntmps103
 go_wp2_with (go_at_call 104; refine (spec_May.calls v.f0 v.f1 v.f2 r _ HS.out).mono ?_; rintro e w' ⟨rfl, hb⟩)
 go_ret
 exact ⟨rfl, below_step (below_alloc (Below.refl _ _) _) hb⟩
set_option maxHeartbeats 1000000 in
theorem slices_IndexFunc.calls (A : Option Addr) (c : Nat) (l : List S55) (w : World) (hC : Kd.C k55 w A l.length l) (hc : l.length ≤ c) (hl : l.length ≤ 1099511627776) (hg : ∀ v ∈ l, spec_May.f v.f0 v.f1 v.f2 = some (goodV v)) :
 Calls Tryz.prog 128 #[.slice A l.length c, .func (.func 103) #[] #[]] w fun e w' => e = .returned (.int .i64 (firstBad l 0)) ∧ Below w.heap.size w w' := by
 have HC := Lib.hid hC
 have HG := Lib.hid hg
 have HCc := Lib.hid hc
 clear hC hg hc
 obtain ⟨R, hR⟩ : ∃ R, R = firstBad l 0 := ⟨_, rfl⟩
 have HR := Lib.hid hR
 rw [← hR]
 clear hR
 go_enter Tryz.func128, Tryz.ntmps128
 go_wp2
 go_loopw [5, 8] (fun _ i wr => ∃ k : Nat, k ≤ l.length ∧ i = .int .i64 k ∧ Hid (firstBad (l.drop k) k = R) ∧ Hid (Below w.heap.size w wr)) (fun _ i _ => l.length - (intOf i).toNat)
 case atStart => exact ⟨0, Nat.zero_le _, rfl, Lib.hid HR.out.symm, Lib.hid (Below.refl _ _)⟩
 case round =>
  obtain ⟨k, hk, rfl, HF, HB⟩ := hrel
  by_cases hlt : k < l.length
  · have hltz : (k : Int) < (l.length : Int) := by omega
    obtain ⟨ad, hA, x0, x1, x2⟩ := at_T55 (Kd.C_below HC.out HB.out) (k : Int) (by omega) hltz
    subst hA
    have hd : ∃ y, rd_T55 l (k : Int) = y ∧ l.drop k = y :: l.drop (k + 1) ∧ y ∈ l := by
     refine ⟨l[k], ?_, List.drop_eq_getElem_cons hlt, List.getElem_mem hlt⟩
     unfold rd_T55
     rw [Int.toNat_natCast, List.getD_eq_getElem?_getD, List.getElem?_eq_getElem hlt]
     rfl
    obtain ⟨y, hy, hdr, hmem⟩ := hd
    rw [hy] at x0 x1 x2
    simp only [Int.toNat_natCast] at x0 x1 x2
    have HF1 := HF.out
    rw [hdr] at HF1
    simp only [firstBad] at HF1
    have HGy := Lib.hid (HG.out y hmem)
    clear hy hdr hmem HF
    cases hgood : goodV y with
    | true =>
     rw [hgood] at HGy HF1
     have HF2 := Lib.hid HF1
     clear HF1 hgood
     go_wp2_with (refine (tmpl_fine1.calls y true _ HGy.out).mono ?_; rintro e w' ⟨rfl, hb⟩)
     have HF3 := Lib.hid (show firstBad (l.drop (k + 1)) (k + 1) = R by have := HF2.out; simpa using this)
     clear HF2
     have HB3 := Lib.hid (below_step HB.out hb)
     clear HB hb
     go_roundw
     case rel => exact ⟨k + 1, hlt, by go_num, HF3, HB3⟩
     case measure => simp [intOf]; omega
    | false =>
     rw [hgood] at HGy HF1
     have HF2 := Lib.hid HF1
     clear HF1 hgood
     go_wp2_with (refine (tmpl_fine1.calls y false _ HGy.out).mono ?_; rintro e w' ⟨rfl, hb⟩)
     have hk3 : (k : Int) = R := by have := HF2.out; simpa using this
     have HB3 := Lib.hid (below_step HB.out hb)
     clear HF2 HB hb
     subst hk3
     go_ret
     exact ⟨rfl, HB3.out⟩
  · have hk2 : k = l.length := by omega
    subst hk2
    have hR : (-1 : Int) = R := by
     have := HF.out
     rw [List.drop_eq_nil_of_le (Nat.le_refl _)] at this
     exact this
    clear HF
    subst hR
    go_wp2
    go_ret
    exact ⟨rfl, HB.out⟩
theorem slices_ContainsFunc.calls (A : Option Addr) (c : Nat) (l : List S55) (w : World) (hC : Kd.C k55 w A l.length l) (hc : l.length ≤ c) (hl : l.length ≤ 1099511627776) (hg : ∀ v ∈ l, spec_May.f v.f0 v.f1 v.f2 = some (goodV v)) :
 Calls Tryz.prog 102 #[.slice A l.length c, .func (.func 103) #[] #[]] w fun e w' => e = .returned (.bool (!(l.all goodV))) ∧ Below w.heap.size w w' := by
 have hcon := slices_IndexFunc.calls A c l w hC hc hl hg
 have hiff : decide (firstBad l 0 ≥ 0) = !(l.all goodV) := by
  cases h : l.all goodV with
  | false => exact decide_eq_true ((firstBad_iff l 0).2 h)
  | true => exact decide_eq_false fun g => by rw [(firstBad_iff l 0).1 g] at h; cases h
 have HI := Lib.hid hiff
 clear hiff hC hc hg
 generalize firstBad l 0 = R at hcon HI
 generalize (!(l.all goodV)) = B at HI ⊢
 go_enter Tryz.func102, Tryz.ntmps102
 go_wp2_with (refine hcon.mono ?_; rintro e w' ⟨rfl, hb⟩)
 go_ret
 exact ⟨by rw [← HI.out]; rfl, hb⟩
def fineB (a0 : ByteArray) (a1 : Int) (l : List S55) : Bool :=
 if l.length = 0 then (a1 == 0) && ((a0.toList != []) && (((piecesN (a0.size + 1) (bs a0) : Nat) : Int) == (a0.size : Int)))
 else (a0.toList == []) && ((match tmpl_Operator.f a1 with | some b => b | none => false) && l.all goodV)
def tmpl_fine.f (a0 : ByteArray) (a1 : Int) (l : List S55) : Option Bool :=
 if a0.size ≤ 1099511627776 ∧ 0 ≤ a1 ∧ a1 ≤ 255 ∧ l.length ≤ 1099511627776 ∧ (l.all fun v => decide (v.f0.size ≤ 1099511627776)) = true then some (fineB a0 a1 l) else none
set_option maxHeartbeats 2000000 in
theorem tmpl_fine.calls (a0_0 : ByteArray) (a0_1 : Int) (A : Option Addr) (c : Nat) (a0_2 : List S55) (r : Bool) (w : World) (hC : Kd.C k55 w A a0_2.length a0_2) (hc : a0_2.length ≤ c) (h : tmpl_fine.f a0_0 a0_1 a0_2 = some r) :
 Calls Tryz.prog 76 #[.agg #[.string a0_0, .int .u8 a0_1, .slice A a0_2.length c]] w fun e w' => e = .returned (.bool r) ∧ Below w.heap.size w w' := by
 unfold tmpl_fine.f at h
 split at h
 case isFalse => cases h
 rename_i hsz
 injection h with h
 obtain ⟨hs0, ha0, ha1, hl0, hall⟩ := hsz
 have HR := Lib.hid h
 have HC := Lib.hid hC
 have HCc := Lib.hid hc
 have hg : ∀ v ∈ a0_2, spec_May.f v.f0 v.f1 v.f2 = some (goodV v) := fun v hv => goodV_some (of_decide_eq_true (List.all_eq_true.1 hall v hv))
 have HG := Lib.hid hg
 clear h hC hc hg hall
 obtain ⟨L, hL⟩ : ∃ L, L = a0_2.length := ⟨_, rfl⟩
 have HL := Lib.hid hL
 have HR0 := Lib.hid (show (if L = 0 then (a0_1 == 0) && ((a0_0.toList != []) && (((piecesN (a0_0.size + 1) (bs a0_0) : Nat) : Int) == (a0_0.size : Int))) else (a0_0.toList == []) && ((match tmpl_Operator.f a0_1 with | some b => b | none => false) && a0_2.all goodV)) = r by rw [hL]; exact HR.out)
 rw [← hL]
 clear hL HR
 have hb0 : Below w.heap.size w (w.alloc (.cells #[.string a0_0, .int .u8 a0_1, .slice A L c] 31)) := below_alloc (Below.refl _ _) _
 have d0 : (w.alloc (.cells #[.string a0_0, .int .u8 a0_1, .slice A L c] 31)).cell? ⟨w.heap.size, 0, none⟩ = some (.string a0_0) := by simp
 have d1 : (w.alloc (.cells #[.string a0_0, .int .u8 a0_1, .slice A L c] 31)).cell? ⟨w.heap.size, 1, none⟩ = some (.int .u8 a0_1) := by simp
 have d2 : (w.alloc (.cells #[.string a0_0, .int .u8 a0_1, .slice A L c] 31)).cell? ⟨w.heap.size, 2, none⟩ = some (.slice A L c) := by simp
 have HB0 := Lib.hid hb0
 clear hb0
 go_enter Tryz.func76, Tryz.ntmps76
 have hR0 := HR0.out
 clear HR0
 by_cases hlen : L = 0
 · rw [if_pos hlen] at hR0
   have HR1 := Lib.hid hR0
   clear hR0
   subst hlen
   obtain ⟨K, hK⟩ := prog_pieces a0_0 hs0 (a0_0.size + 1) (by omega)
   have HK := Lib.hid (hK K (Nat.le_refl _))
   clear hK
   obtain ⟨n, hn⟩ : ∃ n : Int, n = ((piecesN (a0_0.size + 1) (bs a0_0) : Nat) : Int) := ⟨_, rfl⟩
   rw [← hn] at HK HR1
   clear hn
   go_wp2_with fail
   have k0 := cell_regrown d0
   have k1 := cell_regrown d1
   by_cases h1 : a0_1 = 0
   · subst h1
     by_cases h2 : a0_0.toList = []
     · have h2b : (a0_0.toList != []) = false := by rw [h2]; rfl
       have h2c : a0_0.toList.isEmpty = true := by rw [h2]; rfl
       refine wp_region_quiet_below (by kernel_rfl) (by kernel_rfl) ?_
       repeat (go_big_quiet_step (exact Calls.regrown_of (tmpl_pieces.calls K a0_0 n _ HK.out)))
       refine wpQuiet_nil ?_
       rintro _ ⟨⟨dq, osq⟩, rfl⟩
       go_wp2
       go_ret
       refine ⟨?_, below_step HB0.out (below_regrown _ dq osq)⟩
       rw [← HR1.out, h2b, Bool.false_and, Bool.and_false]
       rfl
     · have h2b : (a0_0.toList != []) = true := bne_iff_ne.2 h2
       have h2c : a0_0.toList.isEmpty = false := by cases hh : a0_0.toList with
        | nil => exact absurd hh h2
        | cons x l => rfl
       refine wp_region_quiet_below (by kernel_rfl) (by kernel_rfl) ?_
       repeat (go_big_quiet_step (exact Calls.regrown_of (tmpl_pieces.calls K a0_0 n _ HK.out)))
       refine wpQuiet_nil ?_
       rintro _ ⟨⟨dq, osq⟩, rfl⟩
       go_wp2
       go_ret
       refine ⟨?_, below_step HB0.out (below_regrown _ dq osq)⟩
       rw [← HR1.out, h2b, Bool.true_and]
       rfl
   · have h1b : (a0_1 == 0) = false := beq_eq_false_iff_ne.2 h1
     refine wp_region_quiet_below (by kernel_rfl) (by kernel_rfl) ?_
     repeat (go_big_quiet_step (exact Calls.regrown_of (tmpl_pieces.calls K a0_0 n _ HK.out)))
     refine wpQuiet_nil ?_
     rintro _ ⟨⟨dq, osq⟩, rfl⟩
     go_wp2
     go_ret
     refine ⟨?_, below_step HB0.out (below_regrown _ dq osq)⟩
     rw [← HR1.out, h1b, Bool.false_and]
     rfl
 · rw [if_neg hlen] at hR0
   by_cases h2 : a0_0.toList = []
   · obtain ⟨b, hop⟩ : ∃ b, tmpl_Operator.f a0_1 = some b := by
      unfold tmpl_Operator.f strings_IndexByte.f
      split
      · exact ⟨_, rfl⟩
      · exact ⟨_, rfl⟩
     rw [hop, h2] at hR0
     have HO := Lib.hid hop
     have HR1 := Lib.hid hR0
     clear hop hR0
     cases b with
     | false =>
      go_wp2_with (refine (tmpl_Operator.calls a0_1 false _ HO.out).mono ?_; rintro e w' ⟨rfl, hd⟩)
      go_ret
      refine ⟨?_, below_step HB0.out hd.below⟩
      rw [← HR1.out]
      rfl
     | true =>
      have hcon : ∀ W, Kd.C k55 W A a0_2.length a0_2 → Calls Tryz.prog 102 #[.slice A L c, .func (.func 103) #[] #[]] W fun e w' => e = .returned (.bool (!(a0_2.all goodV))) ∧ Below W.heap.size W w' := fun W h => by
       rw [HL.out]
       exact slices_ContainsFunc.calls A c a0_2 W h HCc.out hl0 HG.out
      go_wp2_with (first | (refine (tmpl_Operator.calls a0_1 true _ HO.out).mono ?_; rintro e w' ⟨rfl, ⟨nd, rfl⟩⟩) | (refine (hcon _ (Kd.C_below HC.out (pw_below_drewN HB0.out nd))).mono ?_; rintro e w' ⟨rfl, hb⟩))
      go_ret
      refine ⟨?_, below_step (pw_below_drewN HB0.out nd) hb⟩
      rw [← HR1.out]
      simp
   · have HR1 := Lib.hid hR0
     clear hR0
     go_wp2
     go_ret
     refine ⟨?_, HB0.out⟩
     rw [← HR1.out, beq_eq_false_iff_ne.2 h2, Bool.false_and]
     rfl
end Go.Proofs.YtlocbpaikdgmbaaGreatDoor.P
end
