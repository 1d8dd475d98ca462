/- What is proved here is used by the law's card: Pk0, OpenParts, OpenMore, RowM, Store, Round, Kept, Chunk, CloneS, FvalueTexts, Of, Canon, Backward, Maps, FvalueDefined, BindAll, Get, Set, Num, Chars, Chars2, FpctDigit, Fpctvalue, FpctTriplet, Vnam. -/
import Derived.Test.YtlocbpaikdgmbaaGreatDoorCu0
import Derived.Test.YtlocbpaikdgmbaaGreatDoorProg
import Derived.Below
import Derived.Deep.Draws
import Derived.Deep.AppendLies
import Derived.Maps.AppendAt
import Derived.OwnWalk
import Derived.Laws.BytesArg
import Derived.Laws.MakeOwn
import Derived.Laws.OwnMore
import Derived.Deep.OwnRows
import Derived.Tactics
import Derived.Lib.ConvBytes
import Derived.Laws.Slices
import Derived.WalkKit
import Derived.KernelRfl
import Derived.RowKit3
import Derived.Deep.LoopGhost
import Derived.Deep.QuietTactic
import Derived.BigQuiet
import Derived.WideLaws
import Derived.Deep.DeepCutAuto
import Derived.Deep.CutBlock
import Derived.Deep.RegionHeld3
import Derived.Laws.Rows
import Derived.Lib.AppendStr
import Derived.ArgAppend
import Derived.Laws.IdiomCopy
import Derived.OrdersHeld
import Derived.Laws.BitsLemmas
import Derived.RowKit
import Derived.ChangeArms
import Derived.Lib.FrozenHead2
import Derived.Laws.CopyOwn
import Derived.Deep.MidRow
import Derived.RangeFuncNested
import Derived.RangeFuncBound
import Derived.RangeFuncCalls
import Derived.RangeFuncLeaves
import Derived.RangeFuncBox
import Derived.Shelf.Abstract
import Derived.Shelf.RegionOpen
import Derived.OwnWalkIn
import Derived.TacticsInMore
import Derived.LoopNIn
import Derived.LoopIn
import Derived.Lib.Hide
import Derived.Lib.SliceRun
import Derived.ChangeMaps4
import Derived.Laws.AppendOwn
import Derived.Laws.BitsAllLaws
import Derived.RegionTactic
import Derived.ChangeAlike
import Derived.BigRegion
import Derived.Laws.NewBlocks
import Derived.Outline
import Derived.WalkMore
import Derived.Lib.QuietBelow
section
namespace Go.Proofs.YtlocbpaikdgmbaaGreatDoor.P
open Go.RowKit Go.Proofs.YtlocbpaikdgmbaaGreatDoorW.PrintWords Go.Proofs.YtlocbpaikdgmbaaGreatDoorW.PrintLast Go.Proofs.YtlocbpaikdgmbaaGreatDoorW.PrintMore
attribute [local go_sem] max2_int min2_int max_two min_two max_three min_three max_four min_four
set_option linter.unusedVariables false
set_option linter.unusedSimpArgs false
theorem info9 : (Tryz.prog.info? 9).map (fun i => (i.zero, i.size, i.bytes)) = some (some (.string ⟨#[]⟩), 1, 16) := by kernel_rfl
theorem info154 : (Tryz.prog.info? 154).map (fun i => (i.zero, i.size, i.bytes)) = some (some (.agg #[(.string ⟨#[]⟩), (.string ⟨#[]⟩)]), 2, 32) := by kernel_rfl
structure S55 where
 f0 : ByteArray
 f1 : Int
 f2 : Bool
def z55 : S55 := ⟨(⟨#[]⟩ : ByteArray), (0 : Int), false⟩
def k55 : Kd S55 := Kd.iso (Kd.pair Kd.string (Kd.pair (Kd.int .i64) Kd.bool)) (fun x : S55 => (x.f0, x.f1, x.f2))
theorem k55_open {w : World} {x : S55} {cs : List Value} (h : k55.K w x cs) : cs = [.string x.f0, .int .i64 x.f1, .bool x.f2] := by
 obtain ⟨_, _, rfl, rfl, ⟨_, _, rfl, rfl, rfl⟩⟩ := h
 exact rfl
theorem k55_mkM (w : World) (base : Nat) (ok : Nat → Prop) (x : S55)  : k55.M w base ok x [.string x.f0, .int .i64 x.f1, .bool x.f2] := ⟨[.string x.f0], [.int .i64 x.f1, .bool x.f2], rfl, rfl, ⟨[.int .i64 x.f1], [.bool x.f2], rfl, rfl, rfl⟩⟩
def rd_T55 (xs : List S55) (i : Int) : S55 := xs.getD i.toNat z55
theorem at_T55 {w : World} {A : Option Addr} {n : Nat} {xs : List S55} (h : Kd.C k55 w A n xs) (i : Int) (h0 : 0 ≤ i) (h1 : i < n) : ∃ ad , A = some ad ∧ w.cell? (ad.add (i.toNat * 3)) = some (.string (rd_T55 xs i).f0) ∧ w.cell? ⟨(ad.add (i.toNat * 3)).block, (ad.add (i.toNat * 3)).off + 1, none⟩ = some (.int .i64 (rd_T55 xs i).f1) ∧ w.cell? ⟨(ad.add (i.toNat * 3)).block, (ad.add (i.toNat * 3)).off + 2, none⟩ = some (.bool (rd_T55 xs i).f2) := by
 obtain ⟨ad, c, e, _, hK, hc0⟩ := Kd.C_get h z55 i h0 h1
 have hc : ∀ j u, c[j]? = some u → w.cell? (ad.add (i.toNat * 3 + j)) = some u := hc0
 obtain rfl := k55_open hK
 exact ⟨ad, e, hc 0 _ rfl, by rw [← add_field _ _ 1 (by omega)]; exact hc 1 _ rfl, by rw [← add_field _ _ 2 (by omega)]; exact hc 2 _ rfl⟩
structure S31 where
 f0 : ByteArray
 f1 : Int
 f2 : (List S55)
def z31 : S31 := ⟨(⟨#[]⟩ : ByteArray), (0 : Int), ([] : List S55)⟩
def k31 : Kd S31 := Kd.iso (Kd.pair Kd.string (Kd.pair (Kd.int .u8) (Kd.slice 55 k55))) (fun x : S31 => (x.f0, x.f1, x.f2))
theorem k31_open {w : World} {x : S31} {cs : List Value} (h : k31.K w x cs) : ∃ A2 c2, cs = [.string x.f0, .int .u8 x.f1, .slice A2 x.f2.length c2] ∧ x.f2.length ≤ c2 ∧ k55.C w A2 x.f2.length x.f2 := by
 obtain ⟨_, _, rfl, rfl, ⟨_, _, rfl, rfl, ⟨A2, c2, rfl, l2, g2⟩⟩⟩ := h
 exact ⟨A2, c2, rfl, l2, g2⟩
theorem k31_mk (w : World) (x : S31) {A2 : Option Addr} {c2 : Nat} (l2 : x.f2.length ≤ c2) (g2 : k55.C w A2 x.f2.length x.f2) : k31.K w x [.string x.f0, .int .u8 x.f1, .slice A2 x.f2.length c2] := ⟨[.string x.f0], [.int .u8 x.f1, .slice A2 x.f2.length c2], rfl, rfl, ⟨[.int .u8 x.f1], [.slice A2 x.f2.length c2], rfl, rfl, ⟨A2, c2, rfl, l2, g2⟩⟩⟩
theorem k31_mkM (w : World) (base : Nat) (ok : Nat → Prop) (x : S31) {v2 : Value} (g2 : k55.R 55 w base ok v2 x.f2) : k31.M w base ok x [.string x.f0, .int .u8 x.f1, v2] := ⟨[.string x.f0], [.int .u8 x.f1, v2], rfl, rfl, ⟨[.int .u8 x.f1], [v2], rfl, rfl, ⟨v2, rfl, g2⟩⟩⟩
def rd_T31 (xs : List S31) (i : Int) : S31 := xs.getD i.toNat z31
theorem at_T31 {w : World} {A : Option Addr} {n : Nat} {xs : List S31} (h : Kd.C k31 w A n xs) (i : Int) (h0 : 0 ≤ i) (h1 : i < n) : ∃ ad A2 c2, A = some ad ∧ w.cell? (ad.add (i.toNat * 3)) = some (.string (rd_T31 xs i).f0) ∧ w.cell? ⟨(ad.add (i.toNat * 3)).block, (ad.add (i.toNat * 3)).off + 1, none⟩ = some (.int .u8 (rd_T31 xs i).f1) ∧ w.cell? ⟨(ad.add (i.toNat * 3)).block, (ad.add (i.toNat * 3)).off + 2, none⟩ = some (.slice A2 (rd_T31 xs i).f2.length c2) ∧ (rd_T31 xs i).f2.length ≤ c2 ∧ k55.C w A2 (rd_T31 xs i).f2.length (rd_T31 xs i).f2 := by
 obtain ⟨ad, c, e, _, hK, hc0⟩ := Kd.C_get h z31 i h0 h1
 have hc : ∀ j u, c[j]? = some u → w.cell? (ad.add (i.toNat * 3 + j)) = some u := hc0
 obtain ⟨A2, c2, rfl, l2, g2⟩ := k31_open hK
 exact ⟨ad, A2, c2, e, hc 0 _ rfl, by rw [← add_field _ _ 1 (by omega)]; exact hc 1 _ rfl, by rw [← add_field _ _ 2 (by omega)]; exact hc 2 _ rfl, l2, g2⟩
structure S154 where
 f0 : ByteArray
 f1 : ByteArray
def z154 : S154 := ⟨(⟨#[]⟩ : ByteArray), (⟨#[]⟩ : ByteArray)⟩
def k154 : Kd S154 := Kd.iso (Kd.pair Kd.string Kd.string) (fun x : S154 => (x.f0, x.f1))
theorem k154_open {w : World} {x : S154} {cs : List Value} (h : k154.K w x cs) : cs = [.string x.f0, .string x.f1] := by
 obtain ⟨_, _, rfl, rfl, rfl⟩ := h
 exact rfl
theorem k154_mkM (w : World) (base : Nat) (ok : Nat → Prop) (x : S154)  : k154.M w base ok x [.string x.f0, .string x.f1] := ⟨[.string x.f0], [.string x.f1], rfl, rfl, rfl⟩
def rd_T154 (xs : List S154) (i : Int) : S154 := xs.getD i.toNat z154
theorem at_T154 {w : World} {A : Option Addr} {n : Nat} {xs : List S154} (h : Kd.C k154 w A n xs) (i : Int) (h0 : 0 ≤ i) (h1 : i < n) : ∃ ad , A = some ad ∧ w.cell? (ad.add (i.toNat * 2)) = some (.string (rd_T154 xs i).f0) ∧ w.cell? ⟨(ad.add (i.toNat * 2)).block, (ad.add (i.toNat * 2)).off + 1, none⟩ = some (.string (rd_T154 xs i).f1) := by
 obtain ⟨ad, c, e, _, hK, hc0⟩ := Kd.C_get h z154 i h0 h1
 have hc : ∀ j u, c[j]? = some u → w.cell? (ad.add (i.toNat * 2 + j)) = some u := hc0
 obtain rfl := k154_open hK
 exact ⟨ad, e, hc 0 _ rfl, by rw [← add_field _ _ 1 (by omega)]; exact hc 1 _ rfl⟩
structure S44 where
 f0 : Int
 f1 : ByteArray
 f2 : (List ByteArray)
 f3 : (List S154)
def z44 : S44 := ⟨(0 : Int), (⟨#[]⟩ : ByteArray), ([] : List ByteArray), ([] : List S154)⟩
def k44 : Kd S44 := Kd.iso (Kd.pair (Kd.int .i64) (Kd.pair Kd.string (Kd.pair (Kd.slice 9 Kd.string) (Kd.slice 154 k154)))) (fun x : S44 => (x.f0, x.f1, x.f2, x.f3))
theorem k44_open {w : World} {x : S44} {cs : List Value} (h : k44.K w x cs) : ∃ A2 c2 A3 c3, cs = [.int .i64 x.f0, .string x.f1, .slice A2 x.f2.length c2, .slice A3 x.f3.length c3] ∧ x.f2.length ≤ c2 ∧ Kd.string.C w A2 x.f2.length x.f2 ∧ x.f3.length ≤ c3 ∧ k154.C w A3 x.f3.length x.f3 := by
 obtain ⟨_, _, rfl, rfl, ⟨_, _, rfl, rfl, ⟨_, _, rfl, ⟨A2, c2, rfl, l2, g2⟩, ⟨A3, c3, rfl, l3, g3⟩⟩⟩⟩ := h
 exact ⟨A2, c2, A3, c3, rfl, l2, g2, l3, g3⟩
theorem k44_mk (w : World) (x : S44) {A2 : Option Addr} {c2 : Nat} (l2 : x.f2.length ≤ c2) (g2 : Kd.string.C w A2 x.f2.length x.f2) {A3 : Option Addr} {c3 : Nat} (l3 : x.f3.length ≤ c3) (g3 : k154.C w A3 x.f3.length x.f3) : k44.K w x [.int .i64 x.f0, .string x.f1, .slice A2 x.f2.length c2, .slice A3 x.f3.length c3] := ⟨[.int .i64 x.f0], [.string x.f1, .slice A2 x.f2.length c2, .slice A3 x.f3.length c3], rfl, rfl, ⟨[.string x.f1], [.slice A2 x.f2.length c2, .slice A3 x.f3.length c3], rfl, rfl, ⟨[.slice A2 x.f2.length c2], [.slice A3 x.f3.length c3], rfl, ⟨A2, c2, rfl, l2, g2⟩, ⟨A3, c3, rfl, l3, g3⟩⟩⟩⟩
structure S46 where
 f0 : ByteArray
 f1 : S44
def z46 : S46 := ⟨(⟨#[]⟩ : ByteArray), z44⟩
def k46 : Kd S46 := Kd.iso (Kd.pair Kd.string k44) (fun x : S46 => (x.f0, x.f1))
theorem k46_open {w : World} {x : S46} {cs : List Value} (h : k46.K w x cs) : ∃ A3 c3 A4 c4, cs = [.string x.f0, .int .i64 x.f1.f0, .string x.f1.f1, .slice A3 x.f1.f2.length c3, .slice A4 x.f1.f3.length c4] ∧ x.f1.f2.length ≤ c3 ∧ Kd.string.C w A3 x.f1.f2.length x.f1.f2 ∧ x.f1.f3.length ≤ c4 ∧ k154.C w A4 x.f1.f3.length x.f1.f3 := by
 obtain ⟨_, _, rfl, rfl, s1⟩ := h
 obtain ⟨A3, c3, A4, c4, rfl, l3, g3, l4, g4⟩ := k44_open s1
 exact ⟨A3, c3, A4, c4, rfl, l3, g3, l4, g4⟩
theorem k46_mk (w : World) (x : S46) {A3 : Option Addr} {c3 : Nat} (l3 : x.f1.f2.length ≤ c3) (g3 : Kd.string.C w A3 x.f1.f2.length x.f1.f2) {A4 : Option Addr} {c4 : Nat} (l4 : x.f1.f3.length ≤ c4) (g4 : k154.C w A4 x.f1.f3.length x.f1.f3) : k46.K w x [.string x.f0, .int .i64 x.f1.f0, .string x.f1.f1, .slice A3 x.f1.f2.length c3, .slice A4 x.f1.f3.length c4] := ⟨[.string x.f0], [.int .i64 x.f1.f0, .string x.f1.f1, .slice A3 x.f1.f2.length c3, .slice A4 x.f1.f3.length c4], rfl, rfl, (k44_mk w x.f1 l3 g3 l4 g4)⟩
def rd_T46 (xs : List S46) (i : Int) : S46 := xs.getD i.toNat z46
theorem at_T46 {w : World} {A : Option Addr} {n : Nat} {xs : List S46} (h : Kd.C k46 w A n xs) (i : Int) (h0 : 0 ≤ i) (h1 : i < n) : ∃ ad A3 c3 A4 c4, A = some ad ∧ w.cell? (ad.add (i.toNat * 5)) = some (.string (rd_T46 xs i).f0) ∧ w.cell? ⟨(ad.add (i.toNat * 5)).block, (ad.add (i.toNat * 5)).off + 1, none⟩ = some (.int .i64 (rd_T46 xs i).f1.f0) ∧ w.cell? ⟨(ad.add (i.toNat * 5)).block, (ad.add (i.toNat * 5)).off + 2, none⟩ = some (.string (rd_T46 xs i).f1.f1) ∧ w.cell? ⟨(ad.add (i.toNat * 5)).block, (ad.add (i.toNat * 5)).off + 3, none⟩ = some (.slice A3 (rd_T46 xs i).f1.f2.length c3) ∧ w.cell? ⟨(ad.add (i.toNat * 5)).block, (ad.add (i.toNat * 5)).off + 4, none⟩ = some (.slice A4 (rd_T46 xs i).f1.f3.length c4) ∧ (rd_T46 xs i).f1.f2.length ≤ c3 ∧ Kd.string.C w A3 (rd_T46 xs i).f1.f2.length (rd_T46 xs i).f1.f2 ∧ (rd_T46 xs i).f1.f3.length ≤ c4 ∧ k154.C w A4 (rd_T46 xs i).f1.f3.length (rd_T46 xs i).f1.f3 := by
 obtain ⟨ad, c, e, _, hK, hc0⟩ := Kd.C_get h z46 i h0 h1
 have hc : ∀ j u, c[j]? = some u → w.cell? (ad.add (i.toNat * 5 + j)) = some u := hc0
 obtain ⟨A3, c3, A4, c4, rfl, l3, g3, l4, g4⟩ := k46_open hK
 exact ⟨ad, A3, c3, A4, c4, e, hc 0 _ rfl, by rw [← add_field _ _ 1 (by omega)]; exact hc 1 _ rfl, by rw [← add_field _ _ 2 (by omega)]; exact hc 2 _ rfl, by rw [← add_field _ _ 3 (by omega)]; exact hc 3 _ rfl, by rw [← add_field _ _ 4 (by omega)]; exact hc 4 _ rfl, l3, g3, l4, g4⟩
structure S57 where
 f0 : ByteArray
 f1 : ByteArray
 f2 : Bool
 f3 : ByteArray
 f4 : Bool
structure S83 where
 f0 : ByteArray
 f1 : S55
 f2 : Int
 f3 : Bool
structure S71 where
 f0 : ByteArray
 f1 : S55
 f2 : Int
 f3 : Bool
end Go.Proofs.YtlocbpaikdgmbaaGreatDoor.P
end
section
namespace Go.Proofs.YtlocbpaikdgmbaaGreatDoor.P
open Go.RowKit Go.Proofs.YtlocbpaikdgmbaaGreatDoorW.PrintWords Go.Proofs.YtlocbpaikdgmbaaGreatDoorW.PrintLast Go.Proofs.YtlocbpaikdgmbaaGreatDoorW.PrintMore
set_option linter.unusedVariables false
set_option maxRecDepth 100000
section
variable {H : Type} {enc : TypeId × Value → H} {w : World} {base : Nat} {spare : Nat → Bool} {held : Bool} {fuel : Nat} {cs : List Value} {x : DataW H × List MemPlace}
theorem cells_at {a : Addr} {n : Nat} (h : w.cells? base a n = some cs) : cs.length = n ∧ ∀ (i : Nat) (u : Value), cs[i]? = some u → w.cell? (a.add i) = some u := by
 unfold World.cells? at h
 split at h
 · have hl := mapM_some_length h
   rw [List.length_range] at hl
   refine ⟨hl, fun i u hu => ?_⟩
   have hi : i < n := by
    have := (List.getElem?_eq_some_iff.1 hu).1
    omega
   rw [mapM_some_get h i i (by simp [hi])]
   exact hu
 · cases h
theorem row_of {α : Type} {k : Kd α} {a : Addr} {len : Nat} (Q : α → Prop) (hm : len ≤ maxLen) (h : ∀ i, i < len → ∃ y c, Q y ∧ k.K w y c ∧ w.cells? base (a.add (i * k.sz)) k.sz = some c) : ∃ l : List α, l.length = len ∧ Kd.C k w (some a) len l ∧ ∀ y ∈ l, Q y := by
 obtain ⟨f, hf⟩ : ∃ f : (i : Nat) → i < len → α, ∀ i hi, ∃ c, Q (f i hi) ∧ k.K w (f i hi) c ∧ w.cells? base (a.add (i * k.sz)) k.sz = some c :=
  ⟨fun i hi => (h i hi).choose, fun i hi => (h i hi).choose_spec⟩
 refine ⟨List.ofFn fun i : Fin len => f i.1 i.2, by simp, ⟨by simp, Nat.le_trans hm (by decide), fun _ => ⟨a, rfl, fun j p hp => ?_⟩⟩, fun y hy => ?_⟩
 · have hj : j < len := by
    have := (List.getElem?_eq_some_iff.1 hp).1
    simpa using this
   rw [List.getElem?_ofFn, dif_pos hj] at hp
   injection hp with hp
   subst hp
   obtain ⟨c, -, h1, h2⟩ := hf j hj
   obtain ⟨h3, h4⟩ := cells_at h2
   refine ⟨c, h3, h1, fun i u hu => ?_⟩
   have := h4 i u hu
   rw [Addr.add_add] at this
   exact this
 · obtain ⟨i, rfl⟩ := (List.mem_ofFn).1 hy
   obtain ⟨c, h1, -⟩ := hf i.1 i.2
   exact h1
end
section
variable {H : Type} {enc : TypeId × Value → H} {w : World} {base : Nat} {spare : Nat → Bool} {held : Bool} {fuel : Nat} {cs : List Value} {x : DataW H × List MemPlace}
def Q_str (y : ByteArray) : Prop := True
theorem o_str (h : DataW.trod enc Tryz.prog w base spare held fuel 9 cs = some x) : ∃ y : ByteArray, Q_str y ∧ Kd.string.K w y cs := by
 obtain ⟨s, e0, -, -⟩ := DataW.trod_string Tryz.underlying9 h
 exact ⟨s, trivial, e0⟩
def Q_int_u8 (y : Int) : Prop := 0 ≤ y ∧ y ≤ 255
theorem o_int_u8 (h : DataW.trod enc Tryz.prog w base spare held fuel 5 cs = some x) : ∃ y : Int, Q_int_u8 y ∧ (Kd.int .u8).K w y cs := by
 obtain ⟨m, e0, -, hw⟩ := DataW.trod_int Tryz.underlying5 h
 simp [Lit.wf, IntKind.min, IntKind.max, IntKind.signed, IntKind.bits] at hw
 exact ⟨m, ⟨by omega, by omega⟩, e0⟩
def Q_int_i64 (y : Int) : Prop := True
theorem o_int_i64 (h : DataW.trod enc Tryz.prog w base spare held fuel 3 cs = some x) : ∃ y : Int, Q_int_i64 y ∧ (Kd.int .i64).K w y cs := by
 obtain ⟨m, e0, -, hw⟩ := DataW.trod_int Tryz.underlying3 h
 exact ⟨m, trivial, e0⟩
def Q_bool (y : Bool) : Prop := True
theorem o_bool (h : DataW.trod enc Tryz.prog w base spare held fuel 4 cs = some x) : ∃ y : Bool, Q_bool y ∧ Kd.bool.K w y cs := by
 obtain ⟨s, e0, -⟩ := DataW.trod_bool Tryz.underlying4 h
 exact ⟨s, trivial, e0⟩
def Q_api_Spec (y : S55) : Prop := Q_str y.f0 ∧ Q_int_i64 y.f1 ∧ Q_bool y.f2
theorem o_api_Spec (h : DataW.trod enc Tryz.prog w base spare held fuel 55 cs = some x) : ∃ y : S55, Q_api_Spec y ∧ k55.K w y cs := by
 obtain ⟨xs, n, rfl, -, hl, hx, hel⟩ := DataW.trod_struct Tryz.underlying55 h
 rw [show Tryz.prog.cellsOf 55 = 3 by kernel_rfl] at hl
 have hx : xs.length = 3 := hx
 match cs, hl, xs, hx with
 | [c0, c1, c2], _, [x0, x1, x2], _ =>
  obtain ⟨y0, q0, h0⟩ := o_str (hel 0 _ rfl)
  obtain ⟨y1, q1, h1⟩ := o_int_i64 (hel 1 _ rfl)
  obtain ⟨y2, q2, h2⟩ := o_bool (hel 2 _ rfl)
  exact ⟨⟨y0, y1, y2⟩, ⟨q0, q1, q2⟩, ⟨[c0], [c1, c2], rfl, h0, ⟨[c1], [c2], rfl, h1, h2⟩⟩⟩
def Q_s_api_Spec (y : List (S55)) : Prop := ∀ e ∈ y, Q_api_Spec e
theorem o_s_api_Spec (h : DataW.trod enc Tryz.prog w base spare held fuel 29 cs = some x) : ∃ y : List (S55), Q_s_api_Spec y ∧ (Kd.slice 55 k55).K w y cs := by
 rcases DataW.trod_slice Tryz.underlying29 h with ⟨rfl, -⟩ | ⟨a, len, cap, elems, rest, n, -, rfl, -, hb, hl, hm, hlen, hel, -, -⟩
 · exact ⟨[], fun e h => (by cases h), none, 0, rfl, Nat.le_refl _, rfl, by decide, fun g => absurd g (Nat.lt_irrefl 0)⟩
 · rw [show Tryz.prog.cellsOf 55 = 3 by kernel_rfl] at hel
   obtain ⟨l, h1, h2, h3⟩ := row_of (k := k55) (w := w) (base := base) (a := a) (len := len) (fun y => Q_api_Spec y) (by omega) fun i hi => by
    have he := hel i hi
    rw [List.getElem?_eq_getElem (by omega)] at he
    obtain ⟨c, hc, ht⟩ := Option.bind_eq_some_iff.1 he
    obtain ⟨y, hq, hk⟩ := o_api_Spec ht
    exact ⟨y, c, hq, hk, hc⟩
   subst h1
   exact ⟨l, h3, some a, cap, rfl, hl, h2⟩
def Q_api_Part (y : S31) : Prop := Q_str y.f0 ∧ Q_int_u8 y.f1 ∧ Q_s_api_Spec y.f2
theorem o_api_Part (h : DataW.trod enc Tryz.prog w base spare held fuel 31 cs = some x) : ∃ y : S31, Q_api_Part y ∧ k31.K w y cs := by
 obtain ⟨xs, n, rfl, -, hl, hx, hel⟩ := DataW.trod_struct Tryz.underlying31 h
 rw [show Tryz.prog.cellsOf 31 = 3 by kernel_rfl] at hl
 have hx : xs.length = 3 := hx
 match cs, hl, xs, hx with
 | [c0, c1, c2], _, [x0, x1, x2], _ =>
  obtain ⟨y0, q0, h0⟩ := o_str (hel 0 _ rfl)
  obtain ⟨y1, q1, h1⟩ := o_int_u8 (hel 1 _ rfl)
  obtain ⟨y2, q2, h2⟩ := o_s_api_Spec (hel 2 _ rfl)
  exact ⟨⟨y0, y1, y2⟩, ⟨q0, q1, q2⟩, ⟨[c0], [c1, c2], rfl, h0, ⟨[c1], [c2], rfl, h1, h2⟩⟩⟩
def Q_s_api_Part (y : List (S31)) : Prop := ∀ e ∈ y, Q_api_Part e
theorem o_s_api_Part (h : DataW.trod enc Tryz.prog w base spare held fuel 22 cs = some x) : ∃ y : List (S31), Q_s_api_Part y ∧ (Kd.slice 31 k31).K w y cs := by
 rcases DataW.trod_slice Tryz.underlying22 h with ⟨rfl, -⟩ | ⟨a, len, cap, elems, rest, n, -, rfl, -, hb, hl, hm, hlen, hel, -, -⟩
 · exact ⟨[], fun e h => (by cases h), none, 0, rfl, Nat.le_refl _, rfl, by decide, fun g => absurd g (Nat.lt_irrefl 0)⟩
 · rw [show Tryz.prog.cellsOf 31 = 3 by kernel_rfl] at hel
   obtain ⟨l, h1, h2, h3⟩ := row_of (k := k31) (w := w) (base := base) (a := a) (len := len) (fun y => Q_api_Part y) (by omega) fun i hi => by
    have he := hel i hi
    rw [List.getElem?_eq_getElem (by omega)] at he
    obtain ⟨c, hc, ht⟩ := Option.bind_eq_some_iff.1 he
    obtain ⟨y, hq, hk⟩ := o_api_Part ht
    exact ⟨y, c, hq, hk, hc⟩
   subst h1
   exact ⟨l, h3, some a, cap, rfl, hl, h2⟩
def Q_s_string (y : List (ByteArray)) : Prop := ∀ e ∈ y, Q_str e
theorem o_s_string (h : DataW.trod enc Tryz.prog w base spare held fuel 41 cs = some x) : ∃ y : List (ByteArray), Q_s_string y ∧ (Kd.slice 9 Kd.string).K w y cs := by
 rcases DataW.trod_slice Tryz.underlying41 h with ⟨rfl, -⟩ | ⟨a, len, cap, elems, rest, n, -, rfl, -, hb, hl, hm, hlen, hel, -, -⟩
 · exact ⟨[], fun e h => (by cases h), none, 0, rfl, Nat.le_refl _, rfl, by decide, fun g => absurd g (Nat.lt_irrefl 0)⟩
 · rw [show Tryz.prog.cellsOf 9 = 1 by kernel_rfl] at hel
   obtain ⟨l, h1, h2, h3⟩ := row_of (k := Kd.string) (w := w) (base := base) (a := a) (len := len) (fun y => Q_str y) (by omega) fun i hi => by
    have he := hel i hi
    rw [List.getElem?_eq_getElem (by omega)] at he
    obtain ⟨c, hc, ht⟩ := Option.bind_eq_some_iff.1 he
    obtain ⟨y, hq, hk⟩ := o_str ht
    exact ⟨y, c, hq, hk, hc⟩
   subst h1
   exact ⟨l, h3, some a, cap, rfl, hl, h2⟩
def Q_api_Pair (y : S154) : Prop := Q_str y.f0 ∧ Q_str y.f1
theorem o_api_Pair (h : DataW.trod enc Tryz.prog w base spare held fuel 154 cs = some x) : ∃ y : S154, Q_api_Pair y ∧ k154.K w y cs := by
 obtain ⟨xs, n, rfl, -, hl, hx, hel⟩ := DataW.trod_struct Tryz.underlying154 h
 rw [show Tryz.prog.cellsOf 154 = 2 by kernel_rfl] at hl
 have hx : xs.length = 2 := hx
 match cs, hl, xs, hx with
 | [c0, c1], _, [x0, x1], _ =>
  obtain ⟨y0, q0, h0⟩ := o_str (hel 0 _ rfl)
  obtain ⟨y1, q1, h1⟩ := o_str (hel 1 _ rfl)
  exact ⟨⟨y0, y1⟩, ⟨q0, q1⟩, ⟨[c0], [c1], rfl, h0, h1⟩⟩
def Q_s_api_Pair (y : List (S154)) : Prop := ∀ e ∈ y, Q_api_Pair e
theorem o_s_api_Pair (h : DataW.trod enc Tryz.prog w base spare held fuel 42 cs = some x) : ∃ y : List (S154), Q_s_api_Pair y ∧ (Kd.slice 154 k154).K w y cs := by
 rcases DataW.trod_slice Tryz.underlying42 h with ⟨rfl, -⟩ | ⟨a, len, cap, elems, rest, n, -, rfl, -, hb, hl, hm, hlen, hel, -, -⟩
 · exact ⟨[], fun e h => (by cases h), none, 0, rfl, Nat.le_refl _, rfl, by decide, fun g => absurd g (Nat.lt_irrefl 0)⟩
 · rw [show Tryz.prog.cellsOf 154 = 2 by kernel_rfl] at hel
   obtain ⟨l, h1, h2, h3⟩ := row_of (k := k154) (w := w) (base := base) (a := a) (len := len) (fun y => Q_api_Pair y) (by omega) fun i hi => by
    have he := hel i hi
    rw [List.getElem?_eq_getElem (by omega)] at he
    obtain ⟨c, hc, ht⟩ := Option.bind_eq_some_iff.1 he
    obtain ⟨y, hq, hk⟩ := o_api_Pair ht
    exact ⟨y, c, hq, hk, hc⟩
   subst h1
   exact ⟨l, h3, some a, cap, rfl, hl, h2⟩
def Q_api_Value (y : S44) : Prop := Q_int_i64 y.f0 ∧ Q_str y.f1 ∧ Q_s_string y.f2 ∧ Q_s_api_Pair y.f3
theorem o_api_Value (h : DataW.trod enc Tryz.prog w base spare held fuel 44 cs = some x) : ∃ y : S44, Q_api_Value y ∧ k44.K w y cs := by
 obtain ⟨xs, n, rfl, -, hl, hx, hel⟩ := DataW.trod_struct Tryz.underlying44 h
 rw [show Tryz.prog.cellsOf 44 = 4 by kernel_rfl] at hl
 have hx : xs.length = 4 := hx
 match cs, hl, xs, hx with
 | [c0, c1, c2, c3], _, [x0, x1, x2, x3], _ =>
  obtain ⟨y0, q0, h0⟩ := o_int_i64 (hel 0 _ rfl)
  obtain ⟨y1, q1, h1⟩ := o_str (hel 1 _ rfl)
  obtain ⟨y2, q2, h2⟩ := o_s_string (hel 2 _ rfl)
  obtain ⟨y3, q3, h3⟩ := o_s_api_Pair (hel 3 _ rfl)
  exact ⟨⟨y0, y1, y2, y3⟩, ⟨q0, q1, q2, q3⟩, ⟨[c0], [c1, c2, c3], rfl, h0, ⟨[c1], [c2, c3], rfl, h1, ⟨[c2], [c3], rfl, h2, h3⟩⟩⟩⟩
def Q_api_Bind (y : S46) : Prop := Q_str y.f0 ∧ Q_api_Value y.f1
theorem o_api_Bind (h : DataW.trod enc Tryz.prog w base spare held fuel 46 cs = some x) : ∃ y : S46, Q_api_Bind y ∧ k46.K w y cs := by
 obtain ⟨xs, n, rfl, -, hl, hx, hel⟩ := DataW.trod_struct Tryz.underlying46 h
 rw [show Tryz.prog.cellsOf 46 = 5 by kernel_rfl] at hl
 have hx : xs.length = 2 := hx
 match cs, hl, xs, hx with
 | [c0, c1, c2, c3, c4], _, [x0, x1], _ =>
  obtain ⟨y0, q0, h0⟩ := o_str (hel 0 _ rfl)
  obtain ⟨y1, q1, h1⟩ := o_api_Value (hel 1 _ rfl)
  exact ⟨⟨y0, y1⟩, ⟨q0, q1⟩, ⟨[c0], [c1, c2, c3, c4], rfl, h0, h1⟩⟩
def Q_s_api_Bind (y : List (S46)) : Prop := ∀ e ∈ y, Q_api_Bind e
theorem o_s_api_Bind (h : DataW.trod enc Tryz.prog w base spare held fuel 23 cs = some x) : ∃ y : List (S46), Q_s_api_Bind y ∧ (Kd.slice 46 k46).K w y cs := by
 rcases DataW.trod_slice Tryz.underlying23 h with ⟨rfl, -⟩ | ⟨a, len, cap, elems, rest, n, -, rfl, -, hb, hl, hm, hlen, hel, -, -⟩
 · exact ⟨[], fun e h => (by cases h), none, 0, rfl, Nat.le_refl _, rfl, by decide, fun g => absurd g (Nat.lt_irrefl 0)⟩
 · rw [show Tryz.prog.cellsOf 46 = 5 by kernel_rfl] at hel
   obtain ⟨l, h1, h2, h3⟩ := row_of (k := k46) (w := w) (base := base) (a := a) (len := len) (fun y => Q_api_Bind y) (by omega) fun i hi => by
    have he := hel i hi
    rw [List.getElem?_eq_getElem (by omega)] at he
    obtain ⟨c, hc, ht⟩ := Option.bind_eq_some_iff.1 he
    obtain ⟨y, hq, hk⟩ := o_api_Bind ht
    exact ⟨y, c, hq, hk, hc⟩
   subst h1
   exact ⟨l, h3, some a, cap, rfl, hl, h2⟩
end
end Go.Proofs.YtlocbpaikdgmbaaGreatDoor.P
end
section
namespace Go.Proofs.YtlocbpaikdgmbaaGreatDoor.P
open Go.RowKit
theorem storeCells_mark (P : Program) (g o : Nat) (t : TypeId) (fz : Nat × Nat) : ∀ (vs : List Value) (i : Nat) (cur : Array Value) (w : World), w.heap[g]? = some (.cells cur t fz) → (fz.2 ≤ o + i ∨ cur.size ≤ fz.1) → o + i + vs.length ≤ cur.size → (∀ v ∈ vs, v.oneCell' = true) →
 (storeCells ⟨g, o, none⟩ vs i).run P w = .ok () (w.setRow g (cur.toList.take (o + i) ++ vs ++ cur.toList.drop (o + i + vs.length)).toArray)
 | [], i, cur, w, hg, _, _, _ => by
  simp only [storeCells, List.append_nil, List.length_nil, Nat.add_zero, List.take_append_drop, Array.toArray_toList]
  rw [setRow_self w g cur t fz hg]
  rfl
 | v :: rest, i, cur, w, hg, hfz, hl, h1 => by
  have hi : o + i < cur.size := by simp at hl; omega
  have hadd : (⟨g, o, none⟩ : Addr).add i = ⟨g, o + i, none⟩ := by unfold Addr.add; split <;> simp_all
  have hcell : w.cell? ⟨g, o + i, none⟩ = some cur[o + i] := by simp [World.cell?, hg, hi]
  have hfro : w.frozen? ⟨g, o + i, none⟩ = false := by
   obtain ⟨lo, hi'⟩ := fz
   simp only [World.frozen?, hg, Bool.and_eq_false_iff, decide_eq_false_iff_not]
   simp only at hfz
   omega
  have hst : (store ((⟨g, o, none⟩ : Addr).add i) v).run P w = .ok () (w.setRow g (cur.setIfInBounds (o + i) v)) := by
   rw [hadd, run_store P w _ v _ (h1 v (by simp)), hcell]
   simp [hfro, setCell_eq_setRow w g (o + i) cur t fz v hg]
  have ih := storeCells_mark P g o t fz rest (i + 1) (cur.setIfInBounds (o + i) v) (w.setRow g (cur.setIfInBounds (o + i) v)) (setRow_heap w g cur _ t _ hg) (by simp; omega) (by simp at hl ⊢; omega) (fun x hx => h1 x (by simp [hx]))
  simp only [storeCells, Sem.run_bind, hst, Result.andThen_ok, ih, setRow_setRow]
  congr 3
  have e := list_seg_step cur.toList (o + i) v rest (by simp at hl ⊢; omega)
  simpa [Array.toList_setIfInBounds, Nat.add_assoc] using e
def RowM (w : World) (base : Nat) (e : TypeId) (v : Value) (xs : List Value) : Prop :=
 ∃ g cap cur fz, v = .slice (some ⟨g, 0, none⟩) xs.length cap ∧ base ≤ g ∧ w.heap[g]? = some (.cells cur e fz) ∧ (fz.2 ≤ xs.length ∨ cur.size ≤ fz.1) ∧ xs.length ≤ cap ∧ cap ≤ maxLen ∧ cur.size = cap ∧ cur.toList.take xs.length = xs
section
variable {P : Program} (w : World)
theorem RowM.cells {w : World} {base : Nat} {e : TypeId} {v : Value} {xs : List Value} (h : RowM w base e v xs) : ∃ g cap, v = .slice (some ⟨g, 0, none⟩) xs.length cap ∧ ∀ j u, xs[j]? = some u → w.cell? ⟨g, j, none⟩ = some u := by
 obtain ⟨g, cap, cur, fz, rfl, _, hgg, _, _, _, _, ht⟩ := h
 refine ⟨g, cap, rfl, fun j u hu => ?_⟩
 rw [cell_of_row w g j cur e fz hgg]
 rw [← ht, List.getElem?_take] at hu
 split at hu
 · simpa using hu
 · cases hu
theorem RowM.below {w w1 : World} {base : Nat} {e : TypeId} {v : Value} {xs : List Value} (h : RowM w base e v xs) (hb : Below w.heap.size w w1) : RowM w1 base e v xs := by
 obtain ⟨g, cap, cur, fz, rfl, hg, hgg, r⟩ := h
 exact ⟨g, cap, cur, fz, rfl, hg, (hb.block g (Array.getElem?_eq_some_iff.1 hgg).1).trans hgg, r⟩
theorem run_append_mark (base : Nat) (t ty e : TypeId) (i : TypeInfo) (z : Value) (bytes : Nat) (ht : P.underlying t = some (.slice e)) (hi : P.info? e = some i) (hz : i.zero = some z)
 (hsize : i.size = 1) (hby : i.bytes = bytes) (hzs : z.cells.size = 1)
 (v : Value) (xs : List Value) (hown : RowM w base e v xs) (a : Addr) (u : Value) (hu : w.cell? (a.add 0) = some u) (h1 : u.oneCell' = true)
 (h63 : xs.length + 1 ≤ maxLen) (hbytes : (xs.length + 1) * bytes ≤ 140737488355328) (hbase : base ≤ w.heap.size) :
 ∃ v' w', (Builtin.append_ #[t, t] ty #[v, .slice (some a) 1 1]).run P w = .ok v' w' ∧ RowM w' base e v' (xs ++ [u]) ∧ w.grownBy w' v.ownBlock := by
 have hcells := hown.cells
 obtain ⟨g, cap, cur, fz, rfl, hbg, hg, hfz, hnc, hcm, hcs, htake⟩ := hown
 subst hby
 have hnews : ∀ j x, [u][j]? = some x → w.cell? (a.add j) = some x := by
  intro j x hx
  cases j with
  | zero => simp at hx; rw [← hx]; exact hu
  | succ j => simp at hx
 have h1s : ∀ x ∈ [u], x.oneCell' = true := by simp [h1]
 have hlen : (xs ++ [u]).length = xs.length + 1 := by simp
 by_cases hroom : xs.length + 1 ≤ cap
 · have hf := run_firstCells_some (P := P) w i.size 1 a 1 1 [u] (by simp [hsize]) hnews
   have hst := storeCells_mark P g xs.length e fz [u] 0 cur w hg (by simpa using hfz) (by simp; omega) h1s
   simp only [Nat.add_zero] at hst
   have hr : (Builtin.append_ #[t, t] ty #[.slice (some ⟨g, 0, none⟩) xs.length cap, .slice (some a) 1 1]).run P w = .ok (.slice (some ⟨g, 0, none⟩) (xs.length + 1) cap) (w.setRow g (cur.toList.take xs.length ++ [u] ++ cur.toList.drop (xs.length + [u].length)).toArray) := by
    simp only [hsize] at hf
    simp [Builtin.append_, run_underlying ht, sizeOf, typeInfo, hi, hsize, Builtin.lenOf, hroom, hf, Addr.add_lit, hst]
   refine ⟨_, _, hr, ⟨g, cap, _, fz, by rw [hlen], hbg, setRow_heap w g cur _ e _ hg, ?_, by rw [hlen]; exact hroom, hcm, ?_, ?_⟩, ⟨rfl, rfl, rfl, by simp, fun k _ hk => setRow_other w g k _ (fun e => hk (by simp [Value.ownBlock, e]))⟩⟩
   · rw [hlen]
     rcases hfz with h | h
     · left; omega
     · right
       simp only [List.size_toArray, List.length_append, List.length_take, List.length_drop, Array.length_toList, List.length_cons, List.length_nil]
       omega
   · simp only [List.size_toArray, List.length_append, List.length_take, List.length_drop, Array.length_toList, List.length_cons, List.length_nil]
     omega
   · rw [htake]
     exact List.take_left
 · have holds : ∀ j x, xs[j]? = some x → w.cell? ((⟨g, 0, none⟩ : Addr).add j) = some x := by
    obtain ⟨g', cap', he, hc⟩ := hcells
    injection he with he1 _ _
    injection he1 with he1
    injection he1 with he1 _ _
    subst he1
    intro j x hx
    have hadd : (⟨g, 0, none⟩ : Addr).add j = ⟨g, j, none⟩ := by unfold Addr.add; split <;> simp_all
    rw [hadd]; exact hc j x hx
   have hsmall : xs.length + 1 ≤ 9223372036854775807 := by simp only [maxLen] at h63; omega
   have hr := run_append_grow (P := P) w t ty e i z ht hi hz ⟨g, 0, none⟩ xs.length cap xs (by rw [hsize, Nat.mul_one]) holds a 1 1 [u] (by rw [hsize]; rfl) hnews (by omega) (by omega) (growslice_fits (by omega) hbytes)
   have hge := grownCap_ge w (xs.length + 1) cap e
   have hcm2 : grownCap w (xs.length + 1) cap e ≤ maxLen := grownCap_le_maxLen w (xs.length + 1) cap e h63
   refine ⟨_, _, hr, ⟨w.heap.size, _, _, (0, 0), by rw [hlen], hbase, heap_alloc_new w.drew _, .inl (Nat.zero_le _), by rw [hlen]; exact hge, hcm2, ?_, ?_⟩, ⟨rfl, rfl, rfl, by simp, fun k hk _ => by first | exact heap_alloc_old w.drew _ k hk | exact heap_alloc_old w.drew _ hk⟩⟩
   · simp only [Array.size_append, List.size_toArray, size_zeroCells, hzs, List.length_cons, List.length_nil]
     omega
   · simp only [Array.toList_append, List.append_assoc]
     rw [← List.append_assoc]
     exact List.take_left
theorem wpList_append_mark {ops : Array Oper} {rest : List Oper} {o : Oper} {a : Act} {Q : Exit → Act → World → Prop} (hgd : o.guard = none) (s x : Operand) (t : TypeId)
 (ho : o.op = .call { callee := .builtin .append, args := #[s, x], argTypes := #[t, t] })
 (base : Nat) (e : TypeId) (i : TypeInfo) (z : Value) (bytes : Nat) (ht : P.underlying t = some (.slice e)) (hi : P.info? e = some i) (hz : i.zero = some z)
 (hsize : i.size = 1) (hby : i.bytes = bytes) (hzs : z.cells.size = 1)
 (v : Value) (xs : List Value) (hs : a.eval s = v) (hown : RowM w base e v xs) (ad : Addr) (u : Value) (hx : a.eval x = .slice (some ad) 1 1) (hu : w.cell? (ad.add 0) = some u) (h1 : u.oneCell' = true)
 (h63 : xs.length + 1 ≤ maxLen) (hbytes : (xs.length + 1) * bytes ≤ 140737488355328) (hbase : base ≤ w.heap.size)
 (h : ∀ v' w', RowM w' base e v' (xs ++ [u]) → w.grownBy w' v.ownBlock → wpList P ops Q rest (a.put o.dst v') w') : wpList P ops Q (o :: rest) a w := by
 refine wpList_plain hgd fun K hK => ?_
 obtain ⟨v', w', hr, h2, h3⟩ := run_append_mark (P := P) w base t o.type e i z bytes ht hi hz hsize hby hzs v xs hown ad u hu h1 h63 hbytes hbase
 unfold Oper.wp execOp
 simp only [ho, resolve, invoke, builtin, Sem.run_bind, Sem.run_pure, Result.andThen_ok, List.map_toArray, List.map_cons, List.map_nil, hs, hx, hr]
 exact hK _ _ (h v' w' h2 h3)
end
def byteVals (s : ByteArray) : List Value := s.data.toList.map fun b => Value.int .u8 b.toNat
theorem RowM.made (w : World) (e : TypeId) (s : ByteArray) (hs : s.size ≤ maxLen) : RowM (Lib.bytesWorld w e s) w.heap.size e (.slice (some ⟨w.heap.size, 0, none⟩) s.size (grownCap w s.size 0 e)) (byteVals s) := by
 have hl : (byteVals s).length = s.size := by simp [byteVals]
 have hge := grownCap_ge w s.size 0 e
 refine ⟨_, _, _, _, by rw [hl], Nat.le_refl _, Lib.bytesWorld_at_new w e s, .inr (Nat.le_refl _), by rw [hl]; exact hge, grownCap_le_maxLen w s.size 0 e hs, ?_, ?_⟩
 · simp only [Lib.bytesCells, Array.size_append, Array.size_map, Array.size_replicate]
   have : s.data.size = s.size := rfl
   omega
 · rw [hl]
   have : s.data.size = s.size := rfl
   simp only [Lib.bytesCells, Array.toList_append, Array.toList_map, byteVals]
   rw [List.take_append_of_le_length (by simp), List.take_of_length_le (by simp)]
theorem RowM.below_made (w : World) (e : TypeId) (s : ByteArray) : Below w.heap.size w (Lib.bytesWorld w e s) :=
 ⟨by simp [Lib.bytesWorld, World.freeze, World.alloc, World.drew, -World.alloc_eq, -World.drew_eq], by simp [Lib.bytesWorld, World.freeze, World.alloc, World.drew, -World.alloc_eq, -World.drew_eq], by simp [Lib.bytesWorld, World.freeze, World.alloc, World.drew, -World.alloc_eq, -World.drew_eq], by rw [Lib.bytesWorld_size]; omega, fun k hk => Lib.bytesWorld_at_old w e s k hk⟩
end Go.Proofs.YtlocbpaikdgmbaaGreatDoor.P
end
section
namespace Go.Proofs.YtlocbpaikdgmbaaGreatDoor.P
open Go Go.RowKit
set_option linter.unusedVariables false
theorem run_store_box {P : Program} (w : World) (g : Nat) (ty T : TypeId) (old new : Array Value) (hg : w.heap[g]? = some (.cells old T (0, 0))) (hs : old.size = new.size) (hi : (P.info? ty).map (·.size) = some new.size) (h1 : new.all (·.oneCell') = true) :
 (storeVar ty ⟨g, 0, none⟩ (.agg new)).run P w = .ok () (w.setRow g new) := by
 have := storeCells_mark P g 0 T (0, 0) new.toList 0 old w hg (.inl (Nat.le_refl _)) (by simp; omega) (fun v hv => (Array.all_eq_true_iff_forall_mem.1 h1) v (by simpa using hv))
 have e : ((old.toList.take (0 + 0) ++ new.toList ++ old.toList.drop (0 + 0 + new.toList.length)).toArray : Array Value) = new := by
  rw [Nat.add_zero, List.take_zero, List.nil_append, Nat.zero_add, List.drop_eq_nil_of_le (by simp; omega), List.append_nil]
 rw [e] at this
 cases hq : P.info? ty with
 | none => simp [hq] at hi
 | some i =>
  have hs : new.size = i.size := by simp [hq] at hi; omega
  simp [storeVar, sizeOf, typeInfo, hq, Value.cells, hs, this]
theorem setRow_grown (w : World) (g : Nat) (cs : Array Value) : w.grownBy (w.setRow g cs) (some g) :=
 ⟨rfl, rfl, rfl, by simp [World.setRow], fun k hk hne => by
  simp only [World.setRow, Array.getElem?_modify]
  rw [if_neg fun e => hne (by rw [e])]⟩
theorem wpList_store_box {P : Program} {ops : Array Oper} {rest : List Oper} {op : Oper} {a : Act} {w : World} {Q : Exit → Act → World → Prop} (hgd : op.guard = none) (ty : TypeId) (x y : Operand) (ho : op.op = .store ty x y)
 (g : Nat) (T : TypeId) (old new : Array Value) (hx : a.eval x = .pointer (some ⟨g, 0, none⟩)) (hy : a.eval y = .agg new) (hg : w.heap[g]? = some (.cells old T (0, 0))) (hs : old.size = new.size)
 (hi : (P.info? ty).map (·.size) = some new.size) (h1 : new.all (·.oneCell') = true)
 (h : ∀ w', w'.heap[g]? = some (.cells new T (0, 0)) → w.grownBy w' (some g) → w'.heap.size = w.heap.size → wpList P ops Q rest (a.put op.dst undef) w') : wpList P ops Q (op :: rest) a w := by
 refine wpList_plain hgd fun K hK => ?_
 unfold Oper.wp execOp
 simp only [ho, hx, hy, Instr.storeAt, Instr.sureAddr, Sem.run_bind, Sem.run_pure, Result.andThen_ok, run_store_box w g ty T old new hg hs hi h1]
 exact hK _ _ (h _ (setRow_heap w g old new T _ hg) (setRow_grown w g new) (by simp [World.setRow]))
theorem below_grown {n : Nat} {w w1 w2 : World} {g : Nat} (h : Below n w w1) (hg : n ≤ g) (hgr : w1.grownBy w2 (some g)) (hlt : g < w1.heap.size) : Below n w w2 :=
 h.grown hgr (by omega) (fun k e => by cases e; exact hg)
end Go.Proofs.YtlocbpaikdgmbaaGreatDoor.P
end
section
namespace Go.Proofs.YtlocbpaikdgmbaaGreatDoor.P
open Go Go.RowKit
set_option linter.unusedVariables false
set_option linter.unusedSimpArgs false
section
variable {P : Program} {ops : Array Oper} {Q : Exit → Act → World → Prop} {md : Region.Mode} {l n : Nat}
theorem wpIn_of_op {o : Oper} {a : Act} {w : World} {K : Act → World → Prop} (hd : ∀ c, o.op ≠ .defer c) (h : o.wp P a w K Q) : o.wpIn (Fence.wide.inRound l) n P a w K Q := by
 unfold Oper.wp at h
 unfold Oper.wpIn
 refine ⟨fun _ _ => trivial, ?_⟩
 rw [Oper.semAt_plain _ _ _ hd]
 generalize (execOp a.eval o).run P w = r at *
 cases r with
 | ok x w' =>
  cases x <;> simp only [Oper.upon, Oper.uponIn] at h ⊢ <;>
   first
    | exact h
    | exact ⟨fun e => (by cases e), CallsIn.inRound l (callsIn_wide.2 (Calls.mono h (fun e w'' he => by cases e <;> exact he)))⟩
    | exact ⟨fun e => (by cases e), fun c cs _ => let ⟨v, w'', r, s⟩ := h c cs; ⟨v, w'', r, stepsIn_wide.2 s⟩⟩
    | exact h.elim
 | halt x w' => cases x <;> simp only [Oper.upon, Oper.uponIn] at h ⊢ <;> exact h
theorem wpAnyIn_of_wpAny (hQ : ¬ LetsOut Q) (hd : ∀ o ∈ ops.toList, ∀ c, o.op ≠ .defer c) : ∀ (fuel : Nat) (listed : Array Bool) (a : Act) (w : World), wpAny P md ops Q fuel listed a w → wpAnyIn (Fence.wide.inRound l) n P md ops Q fuel listed a w
 | 0, _, _, _, h => h
 | fuel + 1, listed, a, w, h => ⟨h.1, fun i hi => by
  have h2 := wpOp_mono (fun a' w' h' => wpAnyIn_of_wpAny hQ hd fuel _ a' w' h') (h.2 i hi)
  unfold wpOp at h2
  unfold wpOpIn
  split
  · rename_i ho
    simpa only [ho] using h2
  · rename_i o ho
    simp only [ho] at h2
    split
    · rename_i hw
      simp only [hw, if_true] at h2
      rcases h2 with h2 | ⟨-, h2⟩
      · exact wpIn_of_op (hd o (by
         have := Array.mem_of_getElem? ho
         simpa using this)) h2
      · exact absurd h2 hQ
    · rename_i hw
      simp only [hw] at h2
      exact ⟨fun _ _ => trivial, h2⟩⟩
def noDefer (ops : List Oper) : Bool := ops.all fun o => match o.op with | .defer _ => false | _ => true
theorem noDefer_spec {ops : List Oper} (h : noDefer ops = true) : ∀ o ∈ ops, ∀ c, o.op ≠ .defer c := fun o ho c e => by
 have := List.all_eq_true.1 h o ho
 rw [e] at this
 cases this
theorem wpIn_region_round {id : Nat} {l0 : List Oper} {S : World → Prop} {a : Act} {w : World} (hm : P.follows .mixedOrders = true) (hd : noDefer l0 = true) (hQ : ¬ LetsOut Q)
 (h : wpAnyH P .any l0.toArray Q S l0.toArray.size (Array.replicate l0.toArray.size false) a w.drew) : (Code.region id l0.toArray true).wpIn (Fence.wide.inRound l) n P Q a w :=
 wpIn_region_any hm (wpAnyIn_of_wpAny hQ (by simpa using noDefer_spec hd) _ _ _ _ (wpAny_of_held _ _ _ _ h))
theorem not_letsOut {Q : Exit → Act → World → Prop} (h : ∀ a w, ¬ Q .outgrown a w) : ¬ LetsOut Q := fun ⟨a, w, hq⟩ => h a w hq
end
structure KeepB (S : Nat → Prop) (W W' : World) : Prop where
 os : W'.os = W.os
 tape : W'.tape = W.tape
 output : W'.output = W.output
 size : W.heap.size ≤ W'.heap.size
 block : ∀ k, S k → k < W.heap.size → W'.heap[k]? = W.heap[k]?
theorem KeepB.refl (S : Nat → Prop) (W : World) : KeepB S W W := ⟨rfl, rfl, rfl, Nat.le_refl _, fun _ _ _ => rfl⟩
theorem KeepB.trans {S : Nat → Prop} {A B C : World} (h : KeepB S A B) (k : KeepB S B C) : KeepB S A C := ⟨k.os.trans h.os, k.tape.trans h.tape, k.output.trans h.output, Nat.le_trans h.size k.size, fun i hi hl => (k.block i hi (Nat.lt_of_lt_of_le hl h.size)).trans (h.block i hi hl)⟩
theorem KeepB.of_new {S : Nat → Prop} {A B : World} (h : Below A.heap.size A B) : KeepB S A B := ⟨h.os, h.tape, h.output, h.size, fun k _ hl => h.block k hl⟩
theorem KeepB.of_grown {S : Nat → Prop} {B C : World} {row : Option Nat} (hg : B.grownBy C row) (hr : ∀ k, row = some k → ¬ S k) : KeepB S B C :=
 ⟨hg.os, hg.tape, hg.output, hg.size, fun k hk hl => hg.block k hl (fun e => hr k e.symm hk)⟩
theorem KeepB.grown {S : Nat → Prop} {A B C : World} {row : Option Nat} (h : KeepB S A B) (hg : B.grownBy C row) (hr : ∀ k, row = some k → ¬ S k) : KeepB S A C := h.trans (.of_grown hg hr)
theorem KeepB.below {S : Nat → Prop} {n : Nat} {A B : World} (h : KeepB S A B) (hS : ∀ k, k < n → S k) (hn : n ≤ A.heap.size) : Below n A B := ⟨h.os, h.tape, h.output, h.size, fun k hk => h.block k (hS k hk) (Nat.lt_of_lt_of_le hk hn)⟩
theorem KeepB.cell {S : Nat → Prop} {A B : World} (h : KeepB S A B) {p : Addr} {v : Value} (hS : S p.block) (hc : A.cell? p = some v) : B.cell? p = some v := by
 rw [← hc]
 unfold World.cell?
 rw [h.block _ hS (World.block_lt_of_cell? A p hc)]
theorem below_cell {n : Nat} {A B : World} {p : Addr} {v : Value} (h : Below n A B) (hc : A.cell? p = some v) (hb : p.block < n) : B.cell? p = some v := (h.cell hb).trans hc
theorem keepB_t {S : Nat → Prop} {A B C : World} (h : KeepB S A B) (k : KeepB S B C) : KeepB S A C := h.trans k
theorem keepB_b {S : Nat → Prop} {w : World} (hn : ∀ k, S k → k < w.heap.size) (W : World) (l : Nat) (o o' : Obj) (hl : w.heap.size ≤ l) (h : W.heap[l]? = some o) (_ : o.isCells = false) (_ : o.isWalk = false) : KeepB S W (W.putObj l o') :=
 (KeepB.refl S W).grown (grownBy_putObj' W l o') (fun k e hk => by cases e; have := hn _ hk; omega)
theorem alloc_at {w : World} {o : Obj} {n : Nat} (h : n = w.heap.size) : (w.alloc o).heap[n]? = some o := by rw [h]; exact World.alloc_heap_new w o
theorem alloc_old {w : World} {o o' : Obj} {n : Nat} (h : w.heap[n]? = some o') : (w.alloc o).heap[n]? = some o' := (Below.heap_alloc w o n (Array.getElem?_eq_some_iff.1 h).1).trans h
theorem keepsFrom_new {B : Nat} {W W' : World} (h : Below W.heap.size W W') : KeepsFrom B W W' := ⟨h.size, fun k o _ hk _ => (h.block k (Array.getElem?_eq_some_iff.1 hk).1).trans hk⟩
theorem heap_kept {A B : World} {row : Option Nat} {k : Nat} {c : Array Value} {T : TypeId} {m : Nat × Nat} (h : A.heap[k]? = some (.cells c T m)) (hg : A.grownBy B row) (hr : ∀ r, row = some r → ∃ o : Obj, A.heap[r]? = some o ∧ o.isCells = false) : B.heap[k]? = some (.cells c T m) :=
 (hg.block k (Array.getElem?_eq_some_iff.1 h).1 (fun e => by
  obtain ⟨o, ho, hc⟩ := hr k e.symm
  rw [h] at ho
  cases ho
  cases hc)).trans h
end Go.Proofs.YtlocbpaikdgmbaaGreatDoor.P
end
section
namespace Go.Proofs.YtlocbpaikdgmbaaGreatDoor.P
open Go Go.RowKit Go.Proofs.YtlocbpaikdgmbaaGreatDoorW.PrintWords Go.Proofs.YtlocbpaikdgmbaaGreatDoorW.PrintLast Go.Proofs.YtlocbpaikdgmbaaGreatDoorW.PrintMore
set_option linter.unusedVariables false
set_option linter.unusedSimpArgs false
theorem R_kept {α : Type} {d : Kd α} {e base : Nat} {ok : Nat → Prop} {v : Value} {xs : List α} {A B : World} {row : Option Nat} (h : Kd.R d e A base ok v xs) (hg : A.grownBy B row) (hr : ∀ r, row = some r → ∃ o : Obj, A.heap[r]? = some o ∧ o.isCells = false) : Kd.R d e B base ok v xs :=
 Kd.R_mono (Kd.R_move (Kd.R_bound h) (fun k hk => by
  obtain ⟨_, _, hlt, q, _, cells, hc⟩ := hk
  refine hg.block k hlt (fun e => ?_)
  obtain ⟨o, ho, hcc⟩ := hr k e.symm
  rw [hc] at ho
  cases ho
  cases hcc)) (fun _ hk => hk.1)
theorem grownBy_cell (W : World) (p : Addr) (v : Value) : W.grownBy (W.setCell p v) (some p.block) :=
 ⟨rfl, rfl, rfl, by simp [World.setCell], fun k hk hne => Below.heap_setCell W p v k (fun e => hne (by rw [e]))⟩
theorem keeps_append {α : Type} {d : Kd α} {e base : Nat} {ok : Nat → Prop} {v : Value} {xs : List α} {A B : World} (h : Kd.R d e A base ok v xs) (hg : A.grownBy B v.ownBlock) : KeepsOthers A B :=
 ⟨hg.size, fun k o hk ho => (hg.block k (Array.getElem?_eq_some_iff.1 hk).1 (fun e => by
  obtain ⟨_, _, _, q, _, cells, hc⟩ := (Kd.R_bound h).1 k e.symm
  rw [hk] at hc
  cases hc
  cases ho)).trans hk⟩
theorem step_store_box {P : Program} {ops : Array Oper} {op : Oper} {a : Act} {w : World} {K : Act → World → Prop} {Q : Exit → Act → World → Prop} {E : Prop} (hw : Region.wanted op (yielded ops a.tmps) = true) (ty : TypeId) (x y : Operand) (ho : op.op = .store ty x y)
 (g : Nat) (T : TypeId) (old new : Array Value) (hx : a.eval x = .pointer (some ⟨g, 0, none⟩)) (hy : a.eval y = .agg new) (hg : w.heap[g]? = some (.cells old T (0, 0))) (hs : old.size = new.size)
 (hi : (P.info? ty).map (·.size) = some new.size) (h1 : new.all (·.oneCell') = true)
 (h : ∀ w', w'.heap[g]? = some (.cells new T (0, 0)) → w.grownBy w' (some g) → w'.heap.size = w.heap.size → K (a.put op.dst undef) w') : if Region.wanted op (yielded ops a.tmps) = true then Oper.wp P op a w K Q else E := by
 rw [if_pos hw]
 unfold Oper.wp execOp
 simp only [ho, hx, hy, Instr.storeAt, Instr.sureAddr, Sem.run_bind, Sem.run_pure, Result.andThen_ok, run_store_box w g ty T old new hg hs hi h1]
 exact h _ (setRow_heap w g old new T _ hg) (setRow_grown w g new) (by simp [World.setRow])
end Go.Proofs.YtlocbpaikdgmbaaGreatDoor.P
end
section
namespace Go.Proofs.YtlocbpaikdgmbaaGreatDoor.P
open Go Go.RowKit Go.Shelf Go.Proofs.YtlocbpaikdgmbaaGreatDoorW.PrintWords Go.Proofs.YtlocbpaikdgmbaaGreatDoorW.PrintLast Go.Proofs.YtlocbpaikdgmbaaGreatDoorW.PrintMore
set_option linter.unusedVariables false
set_option linter.unusedSimpArgs false
attribute [local go_sem] Oper.semAt_some
def chunkE {h : Nat} (ad : Addr) (x : { k : Nat // k < h }) : Array Value := #[.slice (some (ad.add (2 * x.1))) 2 2]
set_option maxRecDepth 100000 in
set_option maxHeartbeats 2000000 in
theorem chunk1 (n l Bs Bn : Nat) (S : Nat → Prop) (ad : Addr) (c h : Nat) (W : World) (J Jx : List { k : Nat // k < h } → World → Prop) (hlen : h < 8796093022208) (hn : 1 ≤ n) (hc : 2 * h ≤ c) (hJ : AbidesFrom W.heap.size J)
 (hY : ∀ pre x W, J pre W → pre.length < h → YieldAt Fence.wide (n - 1) Tryz.prog l (chunkE ad x) W fun e W' =>
  (e = .returned (.bool true) ∧ J (pre ++ [x]) W' ∧ KeepB S W W') ∨ (e = .returned (.bool false) ∧ Jx (pre ++ [x]) W'))
 (hSB : S Bs) (hSN : S Bn) (hBs : W.cell? ⟨Bs, 0, none⟩ = some (.slice (some ad) (2 * h : Nat) c)) (hBn : W.cell? ⟨Bn, 0, none⟩ = some (.int .i64 2)) (h0 : J [] W) :
 CallsIn Fence.wide n Tryz.prog 179 #[.func (.yield l) #[] #[], .pointer (some ⟨Bs, 0, none⟩), .pointer (some ⟨Bn, 0, none⟩)] W fun e W' => (∃ v, e = .returned v) ∧
  ((∃ ys, ys.map (·.1) = List.range h ∧ J ys W') ∨ (∃ pre, True ∧ Jx pre W')) := by
 refine callsIn_of_wp Tryz.func179 rfl trivial ?_ rfl
 simp only [Tryz.ntmps179, List.size_toArray, List.length_cons, List.length_nil, Nat.reduceAdd, Nat.reduceSub, Array.replicate_succ, Array.replicate_zero, List.push_toArray, List.append_toArray, List.nil_append, List.cons_append]
 gi_wp2
 gi_loopw [4] (fun i wr => ∃ (m : Nat) (ys : List { k : Nat // k < h }), m ≤ h ∧ i = .int .i64 ((2 * m : Nat) : Int) ∧ Hid (ys.map (·.1) = List.range m) ∧ J ys wr ∧ Hid (KeepB S W wr))
  (fun i _ => 2 * h - (intOf i).toNat)
 case atStart => exact ⟨0, [], Nat.zero_le _, rfl, Lib.hid rfl, h0, Lib.hid (KeepB.refl _ _)⟩
 case round =>
  obtain ⟨m, ys, hm, rfl, HY, hJs, HK⟩ := hrel
  have hbs := HK.out.cell (p := ⟨Bs, 0, none⟩) hSB hBs
  have hbn := HK.out.cell (p := ⟨Bn, 0, none⟩) hSN hBn
  obtain ⟨i, hi⟩ : ∃ i, i = 2 * m := ⟨_, rfl⟩
  obtain ⟨L, hL⟩ : ∃ L, L = 2 * h := ⟨_, rfl⟩
  rw [← hi]
  rw [← hL] at hbs
  by_cases hlt : m < h
  · have hlen2 : ys.length < h := by
     have := congrArg List.length HY.out
     rw [List.length_map, List.length_range] at this
     omega
    have hgd : wr.grownBy wr.drew none := ⟨rfl, rfl, rfl, Nat.le_refl _, fun _ _ _ => rfl⟩
    have hkd : KeepB S wr wr.drew := KeepB.of_grown hgd (fun k e => by cases e)
    obtain ⟨fn, tmps, assign, body, hy, hR⟩ := hY ys ⟨m, hlt⟩ wr.drew (hJ _ _ _ _ hJs hgd (fun r e => by cases e)) hlen2
    dsimp only [chunkE] at hy
    rw [← hi] at hy
    have i1 : (i : Int) < (L : Int) := by omega
    have i2 : (2 : Int) ≤ (L : Int) - (i : Int) := by omega
    have i3 : (i : Int) ≤ (L : Int) := by omega
    have i4 : (L : Int) ≤ (c : Int) := by omega
    have i5 : (i : Int) + 2 ≤ (c : Int) := by omega
    have i6 : (L : Int) ≤ 140737488355328 := by omega
    have i7 : (i : Int) + 2 ≤ 9223372036854775807 := by omega
    have i8 : (-9223372036854775808 : Int) ≤ (i : Int) + 2 := by omega
    have HI := Lib.hid hi
    have HL := Lib.hid hL
    clear hi hL
    gi_wp2
    gi_region
    have hbs := hkd.cell (p := ⟨Bs, 0, none⟩) hSB hbs
    have hbn := hkd.cell (p := ⟨Bn, 0, none⟩) hSN hbn
    gi_wp2
    refine hR.mono ?_
    rintro e W3 (⟨rfl, hJ3, hk3⟩ | ⟨rfl, hJx3⟩)
    · have hbn3 := hk3.cell (p := ⟨Bn, 0, none⟩) hSN hbn
      gi_wp2
      go_roundw
      case rel => exact ⟨m + 1, _, hlt, by have := HI.out; congr 1; omega, Lib.hid (by rw [List.map_append, HY.out, List.range_succ]; rfl), hJ3, Lib.hid ((HK.out.trans hkd).trans hk3)⟩
      case measure => simp [intOf]; have := HI.out; have := HL.out; omega
    · gi_wp2
      refine bodyPost_ret (results_none rfl _ _ _) rfl ?_
      exact ⟨⟨_, rfl⟩, .inr ⟨_, trivial, hJx3⟩⟩
  · obtain rfl : m = h := by omega
    have i1 : ¬ ((i : Int) < (L : Int)) := by omega
    clear hi hL
    gi_wp2
    go_end0
    exact ⟨⟨_, rfl⟩, .inl ⟨ys, HY.out, hJs⟩⟩
theorem chunk_in (A : Option Addr) (n c : Nat) (w : World) :
 Calls Tryz.prog 172 #[.slice A n c, .int .i64 2] w fun e w' => e = .returned (.func (.func 179) #[] #[.pointer (some ⟨w.heap.size, 0, none⟩), .pointer (some ⟨w.heap.size + 1, 0, none⟩)]) ∧ w' = (w.alloc (.cells #[.slice A n c] 41)).alloc (.cells #[.int .i64 2] 3) := by
 go_enter Tryz.func172, Tryz.ntmps172
 go_wp2
 go_ret
 exact ⟨rfl, rfl⟩
theorem chunk_stops (n Bs Bn : Nat) (S : Nat → Prop) (ad : Addr) (c h : Nat) (w : World) (hlen : h < 8796093022208) (hn : 1 ≤ n) (hc : 2 * h ≤ c) (hSB : S Bs) (hSN : S Bn) (hBl : Bs < w.heap.size) (hNl : Bn < w.heap.size)
 (hBs : w.cell? ⟨Bs, 0, none⟩ = some (.slice (some ad) (2 * h : Nat) c)) (hBn : w.cell? ⟨Bn, 0, none⟩ = some (.int .i64 2)) :
 SeqStopsK Fence.wide n Tryz.prog 179 #[.pointer (some ⟨Bs, 0, none⟩), .pointer (some ⟨Bn, 0, none⟩)] (fun x : { k : Nat // k < h } => chunkE ad x) (KeepB S) (fun ys => ys.map (·.1) = List.range h) (fun _ => True) h w := fun l J Jx W hW hJ _ hY h0 =>
 chunk1 n l Bs Bn S ad c h W J Jx hlen hn hc hJ hY hSB hSN ((hW.cell (p := ⟨Bs, 0, none⟩) hBl).trans hBs) ((hW.cell (p := ⟨Bn, 0, none⟩) hNl).trans hBn) h0
end Go.Proofs.YtlocbpaikdgmbaaGreatDoor.P
end
section
namespace Go.Proofs.YtlocbpaikdgmbaaGreatDoor.P
open Go.RowKit Go.Proofs.YtlocbpaikdgmbaaGreatDoorW.PrintWords Go.Proofs.YtlocbpaikdgmbaaGreatDoorW.PrintLast Go.Proofs.YtlocbpaikdgmbaaGreatDoorW.PrintMore
set_option linter.unusedVariables false
set_option linter.unusedSimpArgs false
def slices_Clone_string_string.f (l : List ByteArray) : Option (List ByteArray) := if l.length < 8796093022208 then some l else none
set_option maxHeartbeats 2000000 in
set_option maxRecDepth 100000 in
theorem slices_Clone_string_string.calls (A : Option Addr) (c : Nat) (l r : List ByteArray) (w : World) (hr : Kd.C Kd.string w A l.length l) (hc : l.length ≤ c) (h : slices_Clone_string_string.f l = some r) :
 Calls Tryz.prog 160 #[.slice A l.length c] w fun e w' => ∃ v0_ : Value, e = .returned v0_ ∧ Kd.R Kd.string 9 w' w.heap.size (fun _ => True) v0_ r ∧ Below w.heap.size w w' := by
 unfold slices_Clone_string_string.f at h
 split at h
 case isFalse => cases h
 rename_i hlen
 injection h with h
 subst h
 have HR := Lib.hid hr
 cases A with
 | none =>
  have h0 : l = [] := by
   refine List.eq_nil_of_length_eq_zero (Nat.eq_zero_of_not_pos fun g => ?_)
   obtain ⟨a, ha, -⟩ := hr.2.2 g
   cases ha
  subst h0
  clear hr
  go_enter Tryz.func160, Tryz.ntmps160
  go_wp2
  rw [Lib.run_eql_slice_nil w _ _ none 0 c 0 0 Tryz.underlying41]
  simp only [Result.andThen]
  rw [Oper.upon_value]
  go_wp2
  go_ret
  exact ⟨_, rfl, Kd.R_nil _ _ _ _ _, Below.refl _ _⟩
 | some a =>
  clear hr
  go_enter Tryz.func160, Tryz.ntmps160
  go_wp2
  rw [Lib.run_eql_slice_nil w _ _ (some a) l.length c 0 0 Tryz.underlying41]
  simp only [Result.andThen]
  rw [Oper.upon_value]
  go_wp2_with (first | ((with_reducible refine gate_dst (N := 5) rfl ?_); refine Kd.R_lit Kd.string _ 9 ?hg (N := 5) ?hd (xs := ([] : List ByteArray)) (inner := []) (ok := fun _ => True) (okp := fun _ => True) ?hr ?hp (fun _ hk => hk) trivial (Below.refl _ _) (Nat.le_refl _) (by simp) ?_; (case hd => rfl); (case hg => rfl); (case hr => first | (go_simp; done) | (go_simp; rfl)); (case hp => exact (Reps.none _ _)); intro v208 w18 ho19 hb hg_ hnew_; clear hg_ hnew_; have HO := Lib.hid ho19; have HB := Lib.hid hb; clear ho19 hb) | ((with_reducible refine gate_builtin (b := .append) (xs := #[.tmp 5, .tmp 6]) rfl ?_); at_builtin; refine Kd.R_append_rows Kd.string (w0 := w) w.heap.size rfl (.tmp 5) (.tmp 6) 41 9 (.string ⟨#[]⟩) 16 rfl Tryz.underlying41 info9 rfl (by decide) (by omega) v208 [] l _ _ _ (fun _ => True) (fun _ => False) rfl rfl ?aO ?aR (fun _ _ h => h) (fun _ h => h.elim) ?aF ?aB ?aS ?aL ?_; (case aR => exact Kd.C_below HR.out HB.out); (case aB => exact HB.out); (case aF => exact (fun _ _ => trivial)); (case aO => exact HO.out); (case aS => exact below_size HB.out); (case aL => simp only [List.nil_append, List.length_nil]; omega); intro v211 w20 ho hb hg hat; have HO2 := Lib.hid ho; have HB2 := Lib.hid hb; clear ho hb hg hat HO HB; obtain ⟨Ao21, co21, eo21⟩ := Kd.R_slice HO2.out; subst eo21))
  go_ret
  exact ⟨_, rfl, HO2.out, HB2.out⟩
end Go.Proofs.YtlocbpaikdgmbaaGreatDoor.P
end
section
namespace Go.Proofs.YtlocbpaikdgmbaaGreatDoor.P
open Go.RowKit Go.Proofs.YtlocbpaikdgmbaaGreatDoorW.PrintWords Go.Proofs.YtlocbpaikdgmbaaGreatDoorW.PrintLast Go.Proofs.YtlocbpaikdgmbaaGreatDoorW.PrintMore
attribute [local go_sem] max2_int min2_int max_two min_two max_three min_three max_four min_four
set_option linter.unusedVariables false
set_option linter.unusedSimpArgs false
def value_Texts.l0 : Nat → List ByteArray → List (S154) → Int → Int → Option (List ByteArray)
 | 0, _, _, _, _ => none
 | k + 1, x3, x21, x22, x23 => if x23 < x22 then (if 0 ≤ x23 then (if x23 < (x21.length : Int) then ((some (([(rd_T154 x21 x23).f0, (rd_T154 x21 x23).f1] : List ByteArray) : List ByteArray)).bind fun y669 => (if x3.length + y669.length < 8796093022208 then (value_Texts.l0 k (x3 ++ y669) x21 x22 (wrap64 (x23 + 1))) else (none))) else (none)) else (none)) else (some x3)
def value_Texts.f (k : Nat) (a0_0 : Int) (a0_1 : ByteArray) (l0_2 : List ByteArray) (l0_3 : List (S154)) : Option (List ByteArray) := if a0_0 = 1 then (some (([a0_1] : List ByteArray))) else (if a0_0 = 2 then ((slices_Clone_string_string.f l0_2).bind fun t664 => (some t664)) else (if a0_0 = 3 then (value_Texts.l0 k ([] : List ByteArray) l0_3 (l0_3.length : Int) 0) else (some ([] : List ByteArray))))
set_option maxHeartbeats 8000000 in
set_option maxRecDepth 100000 in
theorem value_Texts.calls (k : Nat) (a0_0 : Int) (a0_1 : ByteArray) (A0_2 : Option Addr) (c0_2 : Nat) (l0_2 : List ByteArray) (A0_3 : Option Addr) (c0_3 : Nat) (l0_3 : List (S154)) (r : List ByteArray) (w : World) (hr0_2 : Kd.C Kd.string w A0_2 l0_2.length l0_2) (hc0_2 : l0_2.length ≤ c0_2) (hr0_3 : Kd.C k154 w A0_3 l0_3.length l0_3) (hc0_3 : l0_3.length ≤ c0_3) (h : value_Texts.f k a0_0 a0_1 l0_2 l0_3 = some r) :
 Calls Tryz.prog 134 #[.agg #[.int .i64 a0_0, .string a0_1, .slice A0_2 l0_2.length c0_2, .slice A0_3 l0_3.length c0_3]] w fun e w' => ∃ v0_ : Value, e = .returned (v0_) ∧ Kd.R Kd.string 9 w' w.heap.size (fun _ => True) v0_ r ∧ Below w.heap.size w w' := by
 have hu44 := Tryz.underlying44
 have hu154 := Tryz.underlying154
 have HR0_2 := Aside0.mk hr0_2
 have HC0_2 := Aside0.mk hc0_2
 clear hr0_2 hc0_2
 have HR0_3 := Aside0.mk hr0_3
 have HC0_3 := Aside0.mk hc0_3
 clear hr0_3 hc0_3
 have HB := Aside0.mk (Below.refl w.heap.size w)
 have H : (if a0_0 = 1 then (some (([a0_1] : List ByteArray))) else (if a0_0 = 2 then ((slices_Clone_string_string.f l0_2).bind fun t664 => (some t664)) else (if a0_0 = 3 then (value_Texts.l0 k ([] : List ByteArray) l0_3 (l0_3.length : Int) 0) else (some ([] : List ByteArray))))) = some r := h
 clear h
 by_cases c2 : a0_0 = 1
 · rw [if_pos c2] at H
   have c2b0 : (a0_0 == 1) = true := beq_iff_eq.mpr c2
   have c2b1 : (a0_0 != 1) = false := bne_eq_false_iff_eq.mpr c2
   clear c2
   obtain ⟨y661, hy661⟩ : ∃ y_ : List ByteArray, y_ = (([a0_1] : List ByteArray)) := ⟨_, rfl⟩
   replace H : (some y661) = some r := by first | (rw [hy661]; with_reducible exact H) | (have H2_ := (Option.bind_some _ _).symm.trans H; rw [hy661]; with_reducible exact H2_) | (have H2_ := (Option.bind_some _ _).symm.trans H; with_reducible exact H2_) | with_reducible exact H | (rw [hy661]; exact H) | exact H
   have Ny661 := Aside0.mk hy661
   clear hy661
   obtain rfl := Option.some.inj H
   go_enter Tryz.func134, Tryz.ntmps134
   go_wp2_with (first | ((with_reducible refine gate_dst (N := 1) rfl ?_); refine box_event ?hg (N := 1) ?hd (cs := #[.int .i64 a0_0, .string a0_1, .slice A0_2 l0_2.length c0_2, .slice A0_3 l0_3.length c0_3]) (t := 44) ?hr ?_; (case hd => rfl); (case hg => rfl); (case hr => first | (go_simp; done) | (go_simp; rfl)); intro gb660 hg w3 hbox hb; have n0_ := Aside0.mk (below_step (by repeat (first | (with_reducible first | exact HB.out | apply below_alloc | apply pw_below_drewN | apply below_drew1) | exact HB.out)) hb); have n1_ := Aside0.mk (hbox); have n2_ := Aside0.mk ((by rw [hg]; exact (below_size (by repeat (first | (with_reducible first | exact HB.out | apply below_alloc | apply pw_below_drewN | apply below_drew1) | exact HB.out))) : w.heap.size ≤ gb660)); have n3_ := Aside0.mk ((by rw [hg]; exact (below_size (by repeat (first | (with_reducible first | exact HB.out | apply below_alloc | apply pw_below_drewN | apply below_drew1) | exact HB.out))) : w.heap.size ≤ gb660)); clear HB; have HB := n0_; have BK660 := n1_; have GW660 := n2_; have GE660 := n3_; clear n0_ n1_ n2_ n3_; clear hb hbox hg; have hcz4_0 : w3.cell? ⟨gb660, 0, none⟩ = some (.int .i64 a0_0) := (blk_cell BK660.out 0).trans rfl; have hcz4_1 : w3.cell? ⟨gb660, 1, none⟩ = some (.string a0_1) := (blk_cell BK660.out 1).trans rfl; have hcz4_2 : w3.cell? ⟨gb660, 2, none⟩ = some (.slice A0_2 l0_2.length c0_2) := (blk_cell BK660.out 2).trans rfl; have hcz4_3 : w3.cell? ⟨gb660, 3, none⟩ = some (.slice A0_3 l0_3.length c0_3) := (blk_cell BK660.out 3).trans rfl; have hfz4_0 := blk_frozen BK660.out 0; have hfz4_1 := blk_frozen BK660.out 1; have hfz4_2 := blk_frozen BK660.out 2; have hfz4_3 := blk_frozen BK660.out 3) | ((with_reducible refine gate_dst (N := 12) rfl ?_); refine Kd.R_lit Kd.string _ 9 ?hg (N := 12) ?hd (xs := ([a0_1] : List ByteArray)) (inner := [.string a0_1]) (ok := fun _ => True) (okp := fun _ => True) ?hr ?hp (fun _ hk => hk) trivial (Below.refl _ _) (Nat.le_refl _) (by simp) ?_; (case hd => rfl); (case hg => rfl); (case hr => first | (go_simp; done) | (go_simp; rfl)); (case hp => exact (Reps.one (show Kd.M Kd.string _ _ _ a0_1 [.string a0_1] from rfl) (Reps.none _ _))); intro v662 w5 ho6 hb hg_ hnew_; clear hg_ hnew_; (first | rw [← Ny661.out] at ho6 | (simp only [Int.reduceToNat] at ho6; rw [← Ny661.out] at ho6)); have n0_ := Aside0.mk (Kd.R_lower ho6 (below_size (by repeat (first | (with_reducible first | exact HB.out | apply below_alloc | apply pw_below_drewN | apply below_drew1 | refine below_set ?_ GE660.out) | exact HB.out)))); have n1_ := Aside0.mk (blk_below (g := gb660) (o := .cells #[.int .i64 a0_0, .string a0_1, .slice A0_2 l0_2.length c0_2, .slice A0_3 l0_3.length c0_3] 44 (0, 0)) (by (with_reducible repeat (first | refine blk_drewN ?_ _ | refine blk_drew ?_ | refine blk_alloc ?_ _)); exact BK660.out) hb); have n2_ := Aside0.mk (below_step (by repeat (first | (with_reducible first | exact HB.out | apply below_alloc | apply pw_below_drewN | apply below_drew1 | refine below_set ?_ GE660.out) | exact HB.out)) hb); clear BK660; clear HB; have HO663 := n0_; have BK660 := n1_; have HB := n2_; clear n0_ n1_ n2_; clear hb ho6))
   go_ret
   exact ⟨_, by first | rfl | (simp [errW_none, errW_some] <;> rfl) | (simp [*, errW_none, errW_some] <;> rfl), by (with_reducible repeat (first | apply Kd.R_alloc | apply Kd.R_drewN | apply Kd.R_drew)); exact HO663.out, by repeat (first | (with_reducible first | exact HB.out | apply below_alloc | apply pw_below_drewN | apply below_drew1 | refine below_set ?_ GE660.out) | exact HB.out)⟩
 · rw [if_neg c2] at H
   have c2b0 : (a0_0 == 1) = false := beq_eq_false_iff_ne.mpr c2
   have c2b1 : (a0_0 != 1) = true := bne_iff_ne.mpr c2
   by_cases c7 : a0_0 = 2
   · rw [if_pos c7] at H
     have c7b0 : (a0_0 == 2) = true := beq_iff_eq.mpr c7
     have c7b1 : (a0_0 != 2) = false := bne_eq_false_iff_eq.mpr c7
     clear c7
     replace H := Option.bind_eq_some_iff.mp H
     obtain ⟨t664, A80, H⟩ := H
     replace H : (some t664) = some r := H
     have A8 := Aside0.mk A80
     clear A80
     obtain rfl := Option.some.inj H
     go_enter Tryz.func134, Tryz.ntmps134
     go_wp2_with (first | ((with_reducible refine gate_dst (N := 1) rfl ?_); refine box_event ?hg (N := 1) ?hd (cs := #[.int .i64 a0_0, .string a0_1, .slice A0_2 l0_2.length c0_2, .slice A0_3 l0_3.length c0_3]) (t := 44) ?hr ?_; (case hd => rfl); (case hg => rfl); (case hr => first | (go_simp; done) | (go_simp; rfl)); intro gb660 hg w9 hbox hb; have n0_ := Aside0.mk (below_step (by repeat (first | (with_reducible first | exact HB.out | apply below_alloc | apply pw_below_drewN | apply below_drew1) | exact HB.out)) hb); have n1_ := Aside0.mk (hbox); have n2_ := Aside0.mk ((by rw [hg]; exact (below_size (by repeat (first | (with_reducible first | exact HB.out | apply below_alloc | apply pw_below_drewN | apply below_drew1) | exact HB.out))) : w.heap.size ≤ gb660)); have n3_ := Aside0.mk ((by rw [hg]; exact (below_size (by repeat (first | (with_reducible first | exact HB.out | apply below_alloc | apply pw_below_drewN | apply below_drew1) | exact HB.out))) : w.heap.size ≤ gb660)); clear HB; have HB := n0_; have BK660 := n1_; have GW660 := n2_; have GE660 := n3_; clear n0_ n1_ n2_ n3_; clear hb hbox hg; have hcz10_0 : w9.cell? ⟨gb660, 0, none⟩ = some (.int .i64 a0_0) := (blk_cell BK660.out 0).trans rfl; have hcz10_1 : w9.cell? ⟨gb660, 1, none⟩ = some (.string a0_1) := (blk_cell BK660.out 1).trans rfl; have hcz10_2 : w9.cell? ⟨gb660, 2, none⟩ = some (.slice A0_2 l0_2.length c0_2) := (blk_cell BK660.out 2).trans rfl; have hcz10_3 : w9.cell? ⟨gb660, 3, none⟩ = some (.slice A0_3 l0_3.length c0_3) := (blk_cell BK660.out 3).trans rfl; have hfz10_0 := blk_frozen BK660.out 0; have hfz10_1 := blk_frozen BK660.out 1; have hfz10_2 := blk_frozen BK660.out 2; have hfz10_3 := blk_frozen BK660.out 3) | ((with_reducible refine gate_callee (f := 160) rfl ?_); refine goesL_ (some 17) rfl rfl Tryz.func160 (by kernel_rfl) rfl #[.slice A0_2 l0_2.length c0_2] rfl (by (try simp only [List.map_toArray, List.map_cons, List.map_nil]); first | done | rfl | (simp only [List.length_drop, List.length_take]; rfl)) ?_; (with_reducible refine (slices_Clone_string_string.calls _ _ l0_2 t664 _ ?side1 ?side2 A8.out).mono ?_); (case side1 => repeat (first | exact (Kd.C_below HR0_2.out HB.out) | (with_reducible refine Kd.C_alloc ?_ _) | (with_reducible refine Kd.C_drewN ?_ _) | (with_reducible refine Kd.C_drew ?_))); (case side2 => exact HC0_2.out); rintro e w11 ⟨v665, rfl, ho0, hb⟩; refine ⟨_, rfl, ?_⟩; have n0_ := Aside0.mk (Kd.R_lower ho0 (below_size (by repeat (first | (with_reducible first | exact HB.out | apply below_alloc | apply pw_below_drewN | apply below_drew1 | refine below_set ?_ GE660.out) | exact HB.out)))); have n1_ := Aside0.mk (blk_below (g := gb660) (o := .cells #[.int .i64 a0_0, .string a0_1, .slice A0_2 l0_2.length c0_2, .slice A0_3 l0_3.length c0_3] 44 (0, 0)) (by (with_reducible repeat (first | refine blk_drewN ?_ _ | refine blk_drew ?_ | refine blk_alloc ?_ _)); exact BK660.out) hb); have n2_ := Aside0.mk (below_step (by repeat (first | (with_reducible first | exact HB.out | apply below_alloc | apply pw_below_drewN | apply below_drew1 | refine below_set ?_ GE660.out) | exact HB.out)) hb); clear BK660; clear HB; have HO666 := n0_; have BK660 := n1_; have HB := n2_; clear n0_ n1_ n2_; (try clear hb); (try clear hb2); (try clear hk); (try clear hi); (try clear ho0)))
     go_ret
     exact ⟨_, by first | rfl | (simp [errW_none, errW_some] <;> rfl) | (simp [*, errW_none, errW_some] <;> rfl), by (with_reducible repeat (first | apply Kd.R_alloc | apply Kd.R_drewN | apply Kd.R_drew)); exact HO666.out, by repeat (first | (with_reducible first | exact HB.out | apply below_alloc | apply pw_below_drewN | apply below_drew1 | refine below_set ?_ GE660.out) | exact HB.out)⟩
   · rw [if_neg c7] at H
     have c7b0 : (a0_0 == 2) = false := beq_eq_false_iff_ne.mpr c7
     have c7b1 : (a0_0 != 2) = true := bne_iff_ne.mpr c7
     by_cases c12 : a0_0 = 3
     · rw [if_pos c12] at H
       have c12b0 : (a0_0 == 3) = true := beq_iff_eq.mpr c12
       have c12b1 : (a0_0 != 3) = false := bne_eq_false_iff_eq.mpr c12
       clear c12
       have H' := Aside0.mk H
       clear H
       go_enter Tryz.func134, Tryz.ntmps134
       go_wp2_with (first | ((with_reducible refine gate_dst (N := 1) rfl ?_); refine box_event ?hg (N := 1) ?hd (cs := #[.int .i64 a0_0, .string a0_1, .slice A0_2 l0_2.length c0_2, .slice A0_3 l0_3.length c0_3]) (t := 44) ?hr ?_; (case hd => rfl); (case hg => rfl); (case hr => first | (go_simp; done) | (go_simp; rfl)); intro gb660 hg w13 hbox hb; have n0_ := Aside0.mk (below_step (by repeat (first | (with_reducible first | exact HB.out | apply below_alloc | apply pw_below_drewN | apply below_drew1) | exact HB.out)) hb); have n1_ := Aside0.mk (hbox); have n2_ := Aside0.mk ((by rw [hg]; exact (below_size (by repeat (first | (with_reducible first | exact HB.out | apply below_alloc | apply pw_below_drewN | apply below_drew1) | exact HB.out))) : w.heap.size ≤ gb660)); have n3_ := Aside0.mk ((by rw [hg]; exact (below_size (by repeat (first | (with_reducible first | exact HB.out | apply below_alloc | apply pw_below_drewN | apply below_drew1) | exact HB.out))) : w.heap.size ≤ gb660)); clear HB; have HB := n0_; have BK660 := n1_; have GW660 := n2_; have GE660 := n3_; clear n0_ n1_ n2_ n3_; clear hb hbox hg; have hcz14_0 : w13.cell? ⟨gb660, 0, none⟩ = some (.int .i64 a0_0) := (blk_cell BK660.out 0).trans rfl; have hcz14_1 : w13.cell? ⟨gb660, 1, none⟩ = some (.string a0_1) := (blk_cell BK660.out 1).trans rfl; have hcz14_2 : w13.cell? ⟨gb660, 2, none⟩ = some (.slice A0_2 l0_2.length c0_2) := (blk_cell BK660.out 2).trans rfl; have hcz14_3 : w13.cell? ⟨gb660, 3, none⟩ = some (.slice A0_3 l0_3.length c0_3) := (blk_cell BK660.out 3).trans rfl; have hfz14_0 := blk_frozen BK660.out 0; have hfz14_1 := blk_frozen BK660.out 1; have hfz14_2 := blk_frozen BK660.out 2; have hfz14_3 := blk_frozen BK660.out 3))
       go_loopg [3, 23] k (fun kq v3 v23 w' => ∃ (x3_1 : List ByteArray) (x23_1 : Int), v23 = .int .i64 x23_1 ∧ Aside0 (value_Texts.l0 kq x3_1 l0_3 (l0_3.length : Int) x23_1 = some r) ∧ Aside0 (kq ≤ k) ∧ Aside0 (Kd.R Kd.string 9 w' w.heap.size (fun _ => True) v3 x3_1) ∧ Aside0 (w'.heap[gb660]? = some (.cells #[.int .i64 a0_0, .string a0_1, (.slice A0_2 l0_2.length c0_2), (.slice A0_3 l0_3.length c0_3)] 44 (0, 0))) ∧ Aside0 (Below w.heap.size w w'))
       case atStart => exact ⟨(([] : List ByteArray)), (0), (by first | rfl | (simp; done) | (simp [*]; done)), H', ⟨Nat.le_refl _⟩, ⟨by first | exact Kd.R_nil _ _ _ _ _ | exact Kd.N_nil _ _ _ _ _ | exact Kd.V_nil _ _ _ _ _ | exact Kd.Q_nil _ _ _ _ _ | exact Kd.S_nil _ _ _ _ _⟩, ⟨by (with_reducible repeat (first | refine blk_drewN ?_ _ | refine blk_drew ?_ | refine blk_alloc ?_ _)); exact BK660.out⟩, ⟨by repeat (first | (with_reducible first | exact HB.out | apply below_alloc | apply pw_below_drewN | apply below_drew1 | refine below_set ?_ GE660.out) | exact HB.out)⟩⟩
       case round =>
        clear H'
        try clear c1
        try clear c2
        try clear c2b0
        try clear c2b1
        try clear p2
        try clear c7
        try clear c7b0
        try clear c7b1
        try clear c12
        try clear c12b0
        try clear c12b1
        try clear c13
        try clear hcz10_0
        try clear hcz10_1
        try clear hcz10_2
        try clear hcz10_3
        try clear hcz14_0
        try clear hcz14_1
        try clear hcz14_2
        try clear hcz14_3
        try clear hcz4_0
        try clear hcz4_1
        try clear hcz4_2
        try clear hcz4_3
        try clear hfz10_0
        try clear hfz10_1
        try clear hfz10_2
        try clear hfz10_3
        try clear hfz14_0
        try clear hfz14_1
        try clear hfz14_2
        try clear hfz14_3
        try clear hfz4_0
        try clear hfz4_1
        try clear hfz4_2
        try clear hfz4_3
        obtain ⟨x3_1, x23_1, rfl, HA, HK1, HO_3, BK660, HB⟩ := hrel
        cases gk with
        | zero => exact absurd HA.out (by simp [value_Texts.l0])
        | succ k1 =>
         have H := HA.out
         clear HA
         simp only [value_Texts.l0] at H
         by_cases c15 : x23_1 < (l0_3.length : Int)
         · rw [if_pos c15] at H
           have c15b0 : decide (x23_1 < (l0_3.length : Int)) = true := decide_eq_true c15
           clear c15
           by_cases c16 : 0 ≤ x23_1
           · rw [if_pos c16] at H
             have c16b0 : decide (0 ≤ x23_1) = true := decide_eq_true c16
             clear c16
             by_cases c17 : x23_1 < (l0_3.length : Int)
             · rw [if_pos c17] at H
               have c17b0 : decide (x23_1 < (l0_3.length : Int)) = true := decide_eq_true c17
               clear c17
               obtain ⟨y669, hy669⟩ : ∃ y_ : List ByteArray, y_ = (([(rd_T154 l0_3 x23_1).f0, (rd_T154 l0_3 x23_1).f1] : List ByteArray)) := ⟨_, rfl⟩
               replace H : (if x3_1.length + y669.length < 8796093022208 then (value_Texts.l0 k1 (x3_1 ++ y669) l0_3 (l0_3.length : Int) (wrap64 (x23_1 + 1))) else (none)) = some r := by first | (rw [hy669]; with_reducible exact H) | (have H2_ := (Option.bind_some _ _).symm.trans H; rw [hy669]; with_reducible exact H2_) | (have H2_ := (Option.bind_some _ _).symm.trans H; with_reducible exact H2_) | with_reducible exact H | (rw [hy669]; exact H) | exact H
               have Ny669 := Aside0.mk hy669
               clear hy669
               by_cases c18 : x3_1.length + y669.length < 8796093022208
               · rw [if_pos c18] at H
                 have LMc18 := Aside0.mk c18
                 clear c18
                 obtain ⟨y672, hy672⟩ : ∃ y_ : List ByteArray, y_ = (x3_1 ++ y669) := ⟨_, rfl⟩
                 replace H : (value_Texts.l0 k1 y672 l0_3 (l0_3.length : Int) (wrap64 (x23_1 + 1))) = some r := by first | (rw [hy672]; with_reducible exact H) | (have H2_ := (Option.bind_some _ _).symm.trans H; rw [hy672]; with_reducible exact H2_) | (have H2_ := (Option.bind_some _ _).symm.trans H; with_reducible exact H2_) | with_reducible exact H | (rw [hy672]; exact H) | exact H
                 have Ny672 := Aside0.mk hy672
                 clear hy672
                 have H' := Aside0.mk H
                 clear H
                 have p667 : 0 ≤ (x23_1 : Int) := of_decide_eq_true (by first | (with_reducible assumption) | assumption)
                 have q667 : x23_1 < (l0_3.length : Int) := of_decide_eq_true (by first | (with_reducible assumption) | assumption)
                 obtain ⟨ad667, e667, hx667_0, hx667_1⟩ := at_T154 HR0_3.out x23_1 p667 q667
                 cases e667
                 replace hx667_0 := (HB.out.cell (World.block_lt_of_cell? w _ hx667_0)).trans hx667_0
                 replace hx667_1 := (HB.out.cell (World.block_lt_of_cell? w _ hx667_1)).trans hx667_1
                 replace p667 := eq_true p667
                 replace q667 := eq_true q667
                 go_wp2_with (first | ((with_reducible refine gate_dst (N := 5) rfl ?_); refine box_event ?hg (N := 5) ?hd (cs := #[.string (⟨#[]⟩ : ByteArray), .string (⟨#[]⟩ : ByteArray)]) (t := 154) ?hr ?_; (case hd => rfl); (case hg => rfl); (case hr => first | (go_simp; done) | (go_simp; rfl)); intro gb668 hg w19 hbox hb; have n0_ := Aside0.mk (Kd.R_below (by (with_reducible repeat (first | apply Kd.R_alloc | apply Kd.R_drewN | apply Kd.R_drew)); exact HO_3.out) hb); have n1_ := Aside0.mk (blk_below (g := gb660) (o := .cells #[.int .i64 a0_0, .string a0_1, .slice A0_2 l0_2.length c0_2, .slice (some ad667) l0_3.length c0_3] 44 (0, 0)) (by (with_reducible repeat (first | refine blk_drewN ?_ _ | refine blk_drew ?_ | refine blk_alloc ?_ _)); exact BK660.out) hb); have n2_ := Aside0.mk (below_step (by repeat (first | (with_reducible first | exact HB.out | apply below_alloc | apply pw_below_drewN | apply below_drew1 | refine below_set ?_ GE660.out) | exact HB.out)) hb); have n3_ := Aside0.mk (hbox); have n4_ := Aside0.mk ((by rw [hg]; exact (below_size (by repeat (first | (with_reducible first | exact HB.out | apply below_alloc | apply pw_below_drewN | apply below_drew1 | refine below_set ?_ GE660.out) | exact HB.out))) : w.heap.size ≤ gb668)); have n5_ := Aside0.mk ((by rw [hg]; exact (below_size (by repeat (first | (with_reducible first | exact HB.out | apply below_alloc | apply pw_below_drewN | apply below_drew1 | refine below_set ?_ GE660.out) | exact HB.out))) : w.heap.size ≤ gb668)); have n6_ := Aside0.mk ((by rw [hg]; exact Nat.ne_of_lt (blk_lt (g := gb660) (o := .cells #[.int .i64 a0_0, .string a0_1, .slice A0_2 l0_2.length c0_2, .slice (some ad667) l0_3.length c0_3] 44 (0, 0)) (by (with_reducible repeat (first | refine blk_drewN ?_ _ | refine blk_drew ?_ | refine blk_alloc ?_ _)); exact BK660.out)) : gb660 ≠ gb668)); have n7_ := Aside0.mk ((by rw [hg]; exact Nat.ne_of_gt (blk_lt (g := gb660) (o := .cells #[.int .i64 a0_0, .string a0_1, .slice A0_2 l0_2.length c0_2, .slice (some ad667) l0_3.length c0_3] 44 (0, 0)) (by (with_reducible repeat (first | refine blk_drewN ?_ _ | refine blk_drew ?_ | refine blk_alloc ?_ _)); exact BK660.out)) : gb668 ≠ gb660)); clear HO_3; clear BK660; clear HB; have HO_3 := n0_; have BK660 := n1_; have HB := n2_; have BK668 := n3_; have GW668 := n4_; have GE668 := n5_; have NB660_668 := n6_; have NB668_660 := n7_; clear n0_ n1_ n2_ n3_ n4_ n5_ n6_ n7_; clear hb hbox hg; have hnb20 := NB668_660.out; have hnc20 := NB660_668.out; have hcz21_0 : w19.cell? ⟨gb668, 0, none⟩ = some (.string (⟨#[]⟩ : ByteArray)) := (blk_cell BK668.out 0).trans rfl; have hcz21_1 : w19.cell? ⟨gb668, 1, none⟩ = some (.string (⟨#[]⟩ : ByteArray)) := (blk_cell BK668.out 1).trans rfl; have hfz21_0 := blk_frozen BK668.out 0; have hfz21_1 := blk_frozen BK668.out 1) | ((with_reducible refine gate_dst (N := 32) rfl ?_); refine Kd.R_lit Kd.string _ 9 ?hg (N := 32) ?hd (xs := ([(rd_T154 l0_3 x23_1).f0, (rd_T154 l0_3 x23_1).f1] : List ByteArray)) (inner := [.string ((rd_T154 l0_3 x23_1).f0), .string ((rd_T154 l0_3 x23_1).f1)]) (ok := fun _ => True) (okp := fun _ => True) ?hr ?hp (fun _ hk => hk) trivial (Below.refl _ _) (Nat.le_refl _) (by simp) ?_; (case hd => rfl); (case hg => rfl); (case hr => first | (go_simp; done) | (go_simp; rfl)); (case hp => exact (Reps.one (show Kd.M Kd.string _ _ _ ((rd_T154 l0_3 x23_1).f0) [.string ((rd_T154 l0_3 x23_1).f0)] from rfl) (Reps.one (show Kd.M Kd.string _ _ _ ((rd_T154 l0_3 x23_1).f1) [.string ((rd_T154 l0_3 x23_1).f1)] from rfl) (Reps.none _ _)))); intro v670 w22 ho23 hb hg_ hnew_; clear hg_ hnew_; (first | rw [← Ny669.out] at ho23 | (simp only [Int.reduceToNat] at ho23; rw [← Ny669.out] at ho23)); have n0_ := Aside0.mk (Kd.R_elder' (by (with_reducible repeat (first | apply Kd.R_alloc | apply Kd.R_drewN | apply Kd.R_drew)); exact (Kd.R_mono (Kd.R_far (p := ⟨gb668, 1, none⟩) (Kd.R_far (p := ⟨gb668, 0, none⟩) (Kd.R_types HO_3.out BK668.out (by decide)) (fun _ hk => hk.2) (.string ((rd_T154 l0_3 x23_1).f0))) (fun _ hk => hk.2) (.string ((rd_T154 l0_3 x23_1).f1))) (fun _ h_ => h_.1))) (Kd.R_base ho23) hb); have n1_ := Aside0.mk (Kd.R_lower (Kd.R_new' ho23 (Kd.R_lt (by (with_reducible repeat (first | apply Kd.R_alloc | apply Kd.R_drewN | apply Kd.R_drew)); exact (Kd.R_mono (Kd.R_far (p := ⟨gb668, 1, none⟩) (Kd.R_far (p := ⟨gb668, 0, none⟩) (Kd.R_types HO_3.out BK668.out (by decide)) (fun _ hk => hk.2) (.string ((rd_T154 l0_3 x23_1).f0))) (fun _ hk => hk.2) (.string ((rd_T154 l0_3 x23_1).f1))) (fun _ h_ => h_.1))))) (below_size (by repeat (first | (with_reducible first | exact HB.out | apply below_alloc | apply pw_below_drewN | apply below_drew1 | refine below_set ?_ GE660.out | refine below_set ?_ GE668.out) | exact HB.out)))); have n2_ := Aside0.mk (blk_below (g := gb660) (o := .cells #[.int .i64 a0_0, .string a0_1, .slice A0_2 l0_2.length c0_2, .slice (some ad667) l0_3.length c0_3] 44 (0, 0)) (by (with_reducible repeat (first | refine blk_drewN ?_ _ | refine blk_drew ?_ | refine blk_alloc ?_ _)); refine blk_far ?_ NB660_668.out _; (with_reducible repeat (first | refine blk_drewN ?_ _ | refine blk_drew ?_ | refine blk_alloc ?_ _)); refine blk_far ?_ NB660_668.out _; (with_reducible repeat (first | refine blk_drewN ?_ _ | refine blk_drew ?_ | refine blk_alloc ?_ _)); exact BK660.out) hb); have n3_ := Aside0.mk (blk_below (g := gb668) (o := .cells #[.string ((rd_T154 l0_3 x23_1).f0), .string ((rd_T154 l0_3 x23_1).f1)] 154 (0, 0)) (by (with_reducible repeat (first | refine blk_drewN ?_ _ | refine blk_drew ?_ | refine blk_alloc ?_ _)); refine blk_put (cs := #[.string ((rd_T154 l0_3 x23_1).f0), .string (⟨#[]⟩ : ByteArray)]) ?_ 1 _ rfl; (with_reducible repeat (first | refine blk_drewN ?_ _ | refine blk_drew ?_ | refine blk_alloc ?_ _)); refine blk_put (cs := #[.string (⟨#[]⟩ : ByteArray), .string (⟨#[]⟩ : ByteArray)]) ?_ 0 _ rfl; (with_reducible repeat (first | refine blk_drewN ?_ _ | refine blk_drew ?_ | refine blk_alloc ?_ _)); exact BK668.out) hb); have n4_ := Aside0.mk (below_step (by repeat (first | (with_reducible first | exact HB.out | apply below_alloc | apply pw_below_drewN | apply below_drew1 | refine below_set ?_ GE660.out | refine below_set ?_ GE668.out) | exact HB.out)) hb); clear HO_3; clear BK660; clear BK668; clear HB; have HO_3 := n0_; have HO671 := n1_; have BK660 := n2_; have BK668 := n3_; have HB := n4_; clear n0_ n1_ n2_ n3_ n4_; clear hb ho23; obtain ⟨Ao25, co25, eo25⟩ := Kd.R_slice HO671.out; subst eo25) | ((with_reducible refine gate_builtin (b := .append) (xs := #[.tmp 27, .tmp 32]) rfl ?_); at_builtin; refine Kd.R_append_rows Kd.string (w0 := w) w.heap.size rfl (.tmp 27) (.tmp 32) 41 9 (.string ⟨#[]⟩) 16 rfl Tryz.underlying41 info9 rfl (by decide) (by omega) u3 x3_1 y669 _ _ _ (fun k_ => some k_ ≠ (.slice Ao25 y669.length co25 : Value).ownBlock) (fun _ => False) rfl rfl ?aO ?aR (fun _ _ h => h) (fun _ h => h.elim) ?aF ?aB ?aS ?aL ?_; (case aR => repeat (first | exact (Kd.R_reads' HO671.out).2.2 | (with_reducible refine Kd.C_alloc ?_ _) | (with_reducible refine Kd.C_drewN ?_ _) | (with_reducible refine Kd.C_drew ?_))); (case aB => exact (by repeat (first | (with_reducible first | exact HB.out | apply below_alloc | apply pw_below_drewN | apply below_drew1 | refine below_set ?_ GE660.out | refine below_set ?_ GE668.out) | exact HB.out))); (case aF => exact (fun k_ hk => Kd.fresh' (Kd.R_lt (by (with_reducible repeat (first | apply Kd.R_alloc | apply Kd.R_drewN | apply Kd.R_drew)); exact HO671.out)) k_ hk)); (case aO => exact (by (with_reducible repeat (first | apply Kd.R_alloc | apply Kd.R_drewN | apply Kd.R_drew)); exact Kd.R_mono HO_3.out (fun _ hk => hk.2))); (case aS => exact (below_size (by repeat (first | (with_reducible first | exact HB.out | apply below_alloc | apply pw_below_drewN | apply below_drew1 | refine below_set ?_ GE660.out | refine below_set ?_ GE668.out) | exact HB.out)))); (case aL => have := LMc18.out; omega); intro v673 w24 ho hb hg hat; rw [← Ny672.out] at ho; have n0_ := Aside0.mk (blk_grown (g := gb660) (o := .cells #[.int .i64 a0_0, .string a0_1, .slice A0_2 l0_2.length c0_2, .slice (some ad667) l0_3.length c0_3] 44 (0, 0)) (by (with_reducible repeat (first | refine blk_drewN ?_ _ | refine blk_drew ?_ | refine blk_alloc ?_ _)); exact BK660.out) hg (Kd.R_ne HO_3.out BK660.out (by decide))); have n1_ := Aside0.mk (blk_grown (g := gb668) (o := .cells #[.string ((rd_T154 l0_3 x23_1).f0), .string ((rd_T154 l0_3 x23_1).f1)] 154 (0, 0)) (by (with_reducible repeat (first | refine blk_drewN ?_ _ | refine blk_drew ?_ | refine blk_alloc ?_ _)); exact BK668.out) hg (Kd.R_ne HO_3.out BK668.out (by decide))); have n2_ := Aside0.mk (Kd.R_after (ok := (fun _ => True)) (by (with_reducible repeat (first | apply Kd.R_alloc | apply Kd.R_drewN | apply Kd.R_drew)); exact HO671.out) hg hat); have n3_ := Aside0.mk (hb); have n4_ := Aside0.mk (ho); clear BK660; clear BK668; clear HO671; clear HB; clear HO_3; have BK660 := n0_; have BK668 := n1_; have HO671 := n2_; have HB := n3_; have HO674 := n4_; clear n0_ n1_ n2_ n3_ n4_; clear ho hb hg hat))
                 go_roundg k1
                 case measure => have := HK1.out; omega
                 case rel => exact ⟨(y672), (wrap64 (x23_1 + 1)), (by first | rfl | (simp; done) | (simp [*]; done)), H', ⟨by have := HK1.out; omega⟩, ⟨by (with_reducible repeat (first | apply Kd.R_alloc | apply Kd.R_drewN | apply Kd.R_drew)); exact Kd.R_mono HO674.out (fun _ hk => trivial)⟩, ⟨by (with_reducible repeat (first | refine blk_drewN ?_ _ | refine blk_drew ?_ | refine blk_alloc ?_ _)); exact BK660.out⟩, ⟨by repeat (first | (with_reducible first | exact HB.out | apply below_alloc | apply pw_below_drewN | apply below_drew1 | refine below_set ?_ GE660.out | refine below_set ?_ GE668.out) | exact HB.out)⟩⟩
               · rw [if_neg c18] at H
                 exact absurd H (by simp)
             · rw [if_neg c17] at H
               exact absurd H (by simp)
           · rw [if_neg c16] at H
             exact absurd H (by simp)
         · rw [if_neg c15] at H
           have c15b0 : decide (x23_1 < (l0_3.length : Int)) = false := decide_eq_false c15
           clear c15
           obtain rfl := Option.some.inj H
           go_wp2
           go_ret
           exact ⟨_, by first | rfl | (simp [errW_none, errW_some] <;> rfl) | (simp [*, errW_none, errW_some] <;> rfl), by (with_reducible repeat (first | apply Kd.R_alloc | apply Kd.R_drewN | apply Kd.R_drew)); exact HO_3.out, by repeat (first | (with_reducible first | exact HB.out | apply below_alloc | apply pw_below_drewN | apply below_drew1 | refine below_set ?_ GE660.out) | exact HB.out)⟩
     · rw [if_neg c12] at H
       have c12b0 : (a0_0 == 3) = false := beq_eq_false_iff_ne.mpr c12
       have c12b1 : (a0_0 != 3) = true := bne_iff_ne.mpr c12
       obtain rfl := Option.some.inj H
       go_enter Tryz.func134, Tryz.ntmps134
       go_wp2_with (first | ((with_reducible refine gate_dst (N := 1) rfl ?_); refine box_event ?hg (N := 1) ?hd (cs := #[.int .i64 a0_0, .string a0_1, .slice A0_2 l0_2.length c0_2, .slice A0_3 l0_3.length c0_3]) (t := 44) ?hr ?_; (case hd => rfl); (case hg => rfl); (case hr => first | (go_simp; done) | (go_simp; rfl)); intro gb660 hg w26 hbox hb; have n0_ := Aside0.mk (below_step (by repeat (first | (with_reducible first | exact HB.out | apply below_alloc | apply pw_below_drewN | apply below_drew1) | exact HB.out)) hb); have n1_ := Aside0.mk (hbox); have n2_ := Aside0.mk ((by rw [hg]; exact (below_size (by repeat (first | (with_reducible first | exact HB.out | apply below_alloc | apply pw_below_drewN | apply below_drew1) | exact HB.out))) : w.heap.size ≤ gb660)); have n3_ := Aside0.mk ((by rw [hg]; exact (below_size (by repeat (first | (with_reducible first | exact HB.out | apply below_alloc | apply pw_below_drewN | apply below_drew1) | exact HB.out))) : w.heap.size ≤ gb660)); clear HB; have HB := n0_; have BK660 := n1_; have GW660 := n2_; have GE660 := n3_; clear n0_ n1_ n2_ n3_; clear hb hbox hg; have hcz27_0 : w26.cell? ⟨gb660, 0, none⟩ = some (.int .i64 a0_0) := (blk_cell BK660.out 0).trans rfl; have hcz27_1 : w26.cell? ⟨gb660, 1, none⟩ = some (.string a0_1) := (blk_cell BK660.out 1).trans rfl; have hcz27_2 : w26.cell? ⟨gb660, 2, none⟩ = some (.slice A0_2 l0_2.length c0_2) := (blk_cell BK660.out 2).trans rfl; have hcz27_3 : w26.cell? ⟨gb660, 3, none⟩ = some (.slice A0_3 l0_3.length c0_3) := (blk_cell BK660.out 3).trans rfl; have hfz27_0 := blk_frozen BK660.out 0; have hfz27_1 := blk_frozen BK660.out 1; have hfz27_2 := blk_frozen BK660.out 2; have hfz27_3 := blk_frozen BK660.out 3))
       go_ret
       exact ⟨_, by first | rfl | (simp [errW_none, errW_some] <;> rfl) | (simp [*, errW_none, errW_some] <;> rfl), by first | exact Kd.R_nil _ _ _ _ _ | exact Kd.N_nil _ _ _ _ _ | exact Kd.V_nil _ _ _ _ _ | exact Kd.Q_nil _ _ _ _ _ | exact Kd.S_nil _ _ _ _ _, by repeat (first | (with_reducible first | exact HB.out | apply below_alloc | apply pw_below_drewN | apply below_drew1 | refine below_set ?_ GE660.out) | exact HB.out)⟩
end Go.Proofs.YtlocbpaikdgmbaaGreatDoor.P
end
section
namespace Go.Proofs.YtlocbpaikdgmbaaGreatDoor.P
open Go Go.RowKit Go.Shelf Go.Proofs.YtlocbpaikdgmbaaGreatDoorW.PrintWords Go.Proofs.YtlocbpaikdgmbaaGreatDoorW.PrintLast Go.Proofs.YtlocbpaikdgmbaaGreatDoorW.PrintMore
set_option linter.unusedVariables false
set_option linter.unusedSimpArgs false
attribute [local go_sem] Oper.semAt_some
theorem add_one (ad : Addr) (k : Nat) : ad.add (k + 1) = ⟨(ad.add k).block, (ad.add k).off + 1, none⟩ := by
 cases k <;> simp [Addr.add, Nat.add_assoc]
def pairAt (l : List ByteArray) (k : Nat) : S154 := ⟨l.getD (2 * k) ⟨#[]⟩, l.getD (2 * k + 1) ⟨#[]⟩⟩
def pairsOf (l : List ByteArray) : List S154 := (List.range (l.length / 2)).map (pairAt l)
def value_Of.f (kind : Int) (l : List ByteArray) : Option (S44 × Bool) :=
 if l.length < 8796093022208 then
  if kind = 1 ∧ l.length = 1 then some (⟨kind, l.getD 0 ⟨#[]⟩, [], []⟩, true)
  else if kind = 2 ∧ 0 < l.length then some (⟨kind, ⟨#[]⟩, l, []⟩, true)
  else if kind = 3 ∧ 0 < l.length ∧ l.length % 2 = 0 then some (⟨kind, ⟨#[]⟩, [], pairsOf l⟩, true)
  else some (z44, false)
 else none
def ofPost (w : World) (r : S44) (b : Bool) (e : Ending) (w' : World) : Prop :=
 ∃ V2 V3, e = .returned (.tuple #[.agg #[.int .i64 r.f0, .string r.f1, V2, V3], .bool b]) ∧ Kd.R Kd.string 9 w' w.heap.size (fun _ => True) V2 r.f2 ∧ Kd.R k154 154 w' w.heap.size (fun _ => True) V3 r.f3 ∧ Below w.heap.size w w'
set_option maxRecDepth 100000 in
set_option maxHeartbeats 2000000 in
theorem value_Of3 (A : Option Addr) (c : Nat) (l : List ByteArray) (w : World) (hl : l.length < 8796093022208) (hr : Kd.C Kd.string w A l.length l) (hc : l.length ≤ c) (h0 : 0 < l.length) (hm : l.length % 2 = 0) :
 Calls Tryz.prog 159 #[.int .i64 3, .slice A l.length c] w (ofPost w ⟨3, ⟨#[]⟩, [], pairsOf l⟩ true) := by
 refine callsIn_wide.1 (callsIn_of_wp_marks (n := 4) Tryz.func159 rfl trivial ?_ rfl)
 simp only [Tryz.ntmps159, List.size_toArray, List.length_cons, List.length_nil, Nat.reduceAdd, Nat.reduceSub, Array.replicate_succ, Array.replicate_zero, List.push_toArray, List.append_toArray, List.nil_append, List.cons_append]
 refine wpIn_wide.2 ?_
 obtain ⟨ad, rfl, -⟩ := hr.2.2 h0
 obtain ⟨N, hN⟩ : ∃ N, N = l.length := ⟨_, rfl⟩
 obtain ⟨h, hh⟩ : ∃ h, N = 2 * h := ⟨N / 2, by omega⟩
 have hhl : h = l.length / 2 := by omega
 rw [← hN]
 have z1 : ¬ (N : Int) = 1 := by omega
 have z2 : (0 : Int) < (N : Int) := by omega
 have z3 : Int.tmod (N : Int) 2 = 0 := by rw [Int.tmod_eq_emod_of_nonneg (by omega)]; omega
 obtain ⟨Wl, hWl⟩ : ∃ W, W = (((w.alloc (.cells #[.int .i64 0, .string ⟨#[]⟩, .slice none 0 0, .slice none 0 0] 44)).alloc (.cells #[.int .i64 3, .string ⟨#[]⟩, .slice none 0 0, .slice none 0 0] 44)).alloc (.cells #[.slice (some ad) N c] 41)).alloc (.cells #[.int .i64 2] 3) := ⟨_, rfl⟩
 have hsz : Wl.heap.size = w.heap.size + 4 := by rw [hWl]; simp only [World.size_alloc]
 have q0 : Wl.heap[w.heap.size]? = some (.cells #[.int .i64 0, .string ⟨#[]⟩, .slice none 0 0, .slice none 0 0] 44 (0, 0)) := by rw [hWl]; exact alloc_old (alloc_old (alloc_old (alloc_at rfl)))
 have q1 : Wl.heap[w.heap.size + 1]? = some (.cells #[.int .i64 3, .string ⟨#[]⟩, .slice none 0 0, .slice none 0 0] 44 (0, 0)) := by rw [hWl]; exact alloc_old (alloc_old (alloc_at (by simp only [World.size_alloc])))
 have q2 : Wl.heap[w.heap.size + 2]? = some (.cells #[.slice (some ad) N c] 41 (0, 0)) := by rw [hWl]; exact alloc_old (alloc_at (by simp only [World.size_alloc]))
 have q3 : Wl.heap[w.heap.size + 3]? = some (.cells #[.int .i64 2] 3 (0, 0)) := by rw [hWl]; exact alloc_at (by simp only [World.size_alloc])
 have hB : Below w.heap.size w Wl := by rw [hWl]; exact ((((Below.refl _ w).alloc (Nat.le_refl _) _).alloc (by simp) _).alloc (by simp; omega) _).alloc (by simp; omega) _
 have HN := Lib.hid hN
 have HH := Lib.hid hh
 have HW := Lib.hid hWl
 have HR := Lib.hid hr
 have HZ := Lib.hid hsz
 clear hN hr hm h0 hh hWl hsz
 go_wp2_with (go_at_call 172; refine (chunk_in _ _ _ _).mono ?_; rintro e w1 ⟨rfl, rfl⟩)
 rw [← HW.out]
 clear HW
 refine (wpIn_wide (n := 4)).1 ?_
 refine' wpIn_rangeFunc_ownG (F := Fence.wide) (n := 4) rfl (by omega) (gf := 179) (lb := #[.pointer (some ⟨w.heap.size + 2, 0, none⟩), .pointer (some ⟨w.heap.size + 3, 0, none⟩)]) rfl trivial (enters_of Tryz.func179 (by kernel_rfl) rfl)
  (chunk_stops 3 (w.heap.size + 2) (w.heap.size + 3) (fun k => k < w.heap.size ∨ k = w.heap.size + 2 ∨ k = w.heap.size + 3) ad c h Wl (by omega) (by omega) (by have := HN.out; have := HH.out; omega) (.inr (.inl rfl)) (.inr (.inr rfl)) (by rw [HZ.out]; omega) (by rw [HZ.out]; omega) (by rw [← HH.out]; exact Lib.cell_of_heap q2 0) (Lib.cell_of_heap q3 0))
  keepB_t (keepB_b (by rw [HZ.out]; omega)) (Below.refl _ _) (fun _ => rfl)
  (fun pre W => (W.heap[w.heap.size]? = some (.cells #[.int .i64 0, .string ⟨#[]⟩, .slice none 0 0, .slice none 0 0] 44 (0, 0)) ∧ W.heap[w.heap.size + 2]? = some (.cells #[.slice (some ad) N c] 41 (0, 0)) ∧ W.heap[w.heap.size + 3]? = some (.cells #[.int .i64 2] 3 (0, 0)) ∧ ∃ V, W.heap[w.heap.size + 1]? = some (.cells #[.int .i64 3, .string ⟨#[]⟩, .slice none 0 0, V] 44 (0, 0)) ∧ Kd.R k154 154 W w.heap.size (fun _ => True) V (pre.map fun x => pairAt l x.1)) ∧ Below w.heap.size w W)
  (fun _ _ _ => False)
  (OwnFrom.and (Own.from (fun s A B row hs hg hr => ⟨heap_kept hs.1 hg hr, heap_kept hs.2.1 hg hr, heap_kept hs.2.2.1 hg hr, hs.2.2.2.elim fun V hV => ⟨V, heap_kept hV.1 hg hr, R_kept hV.2 hg hr⟩⟩) _) (ownFrom_below (Nat.le_refl _) (by rw [HZ.out]; omega)))
  (fun _ _ _ _ _ hs _ _ => hs)
  ⟨⟨q0, q2, q3, _, q1, Kd.R_nil _ _ _ _ _⟩, hB⟩
  _ ?assign ?body ?done ?stop
 case assign =>
  intro l x W K hK
  unfold chunkE
  gi_wp2
  exact hK
 case body =>
  rintro lo pre x W ⟨⟨hg0, hg2, hg4, V, hg1, hrow⟩, hB1⟩ hlt
  have hx : 2 * x.1 + 1 < l.length := by have := x.2; have := HN.out; have := HH.out; omega
  obtain ⟨ad1, e1, x0⟩ := Kd.at_string HR.out ((2 * x.1 : Nat) : Int) (by omega) (by omega)
  obtain ⟨ad2, e2, x1⟩ := Kd.at_string HR.out ((2 * x.1 + 1 : Nat) : Int) (by omega) (by omega)
  cases e1
  cases e2
  simp only [Int.toNat_natCast] at x0 x1
  obtain ⟨s0, s1, hp, x0, x1⟩ : ∃ s0 s1, pairAt l x.1 = ⟨s0, s1⟩ ∧ w.cell? (ad.add (2 * x.1)) = some (.string s0) ∧ w.cell? (ad.add (2 * x.1 + 1)) = some (.string s1) := ⟨_, _, rfl, x0, x1⟩
  have HP := Lib.hid hp
  clear hp
  have hb0 := World.block_lt_of_cell? w _ x0
  rw [show ad.add (2 * x.1 + 1) = ⟨(ad.add (2 * x.1)).block, (ad.add (2 * x.1)).off + 1, none⟩ from add_one ad _] at x1
  have hb1 := World.block_lt_of_cell? w _ x1
  have hg3 := Lib.cell_of_heap hg1 3
  simp only [List.getElem?_toArray, List.getElem?_cons_zero, List.getElem?_cons_succ] at hg3
  gi_wp2
  refine wpIn_region_round (S := fun W' => Below w.heap.size w W') (by kernel_rfl) (by rfl) (not_letsOut (fun _ _ h => h)) ?_
  have HS : Below w.heap.size w W.drew := below_drew hB1
  have hg3a : (W.alloc (.cells #[.string s0, .string s1] 154)).cell? ⟨w.heap.size + 1, 3, none⟩ = some V := below_cell ((Below.refl W.heap.size W).alloc (Nat.le_refl _) _) hg3 (Array.getElem?_eq_some_iff.1 hg1).1
  have hgd : W.grownBy W.drew none := ⟨rfl, rfl, rfl, Nat.le_refl _, fun _ _ _ => rfl⟩
  (refine wpAnyH_take (i := 0) (oi := ?tp0) (v := ?tv0) ?ti0 (by kernel_rfl) (by kernel_rfl) (by kernel_rfl) (fun _ _ _ h => h) (Or.inl ⟨?tw0, ?ty0⟩) HS ?tr0)
  case ti0 => (simp only [List.getElem?_toArray, List.getElem?_cons_zero, List.getElem?_cons_succ] <;> rfl)
  case tw0 => rfl
  case ty0 => (intro w' hSw; go_simp <;> with_reducible rfl)
  try simp only [Act.put, List.setIfInBounds_toArray, List.set_cons_zero, List.set_cons_succ]
  (refine wpAnyH_take (i := 2) (oi := ?tp2) (v := ?tv2) ?ti2 (by kernel_rfl) (by kernel_rfl) (by kernel_rfl) (fun _ _ _ h => h) (Or.inl ⟨?tw2, ?ty2⟩) HS ?tr2)
  case ti2 => (simp only [List.getElem?_toArray, List.getElem?_cons_zero, List.getElem?_cons_succ] <;> rfl)
  case tw2 => rfl
  case ty2 => (intro w' hSw; go_simp <;> with_reducible rfl)
  try simp only [Act.put, List.setIfInBounds_toArray, List.set_cons_zero, List.set_cons_succ]
  (refine wpAnyH_take (i := 3) (oi := ?tp3) (v := ?tv3) ?ti3 (by kernel_rfl) (by kernel_rfl) (by kernel_rfl) (fun _ _ _ h => h) (Or.inl ⟨?tw3, ?ty3⟩) HS ?tr3)
  case ti3 => (simp only [List.getElem?_toArray, List.getElem?_cons_zero, List.getElem?_cons_succ] <;> rfl)
  case tw3 => rfl
  case ty3 => (intro w' hSw; go_simp <;> with_reducible rfl)
  try simp only [Act.put, List.setIfInBounds_toArray, List.set_cons_zero, List.set_cons_succ]
  (refine wpAnyH_take (i := 5) (oi := ?tp5) (v := ?tv5) ?ti5 (by kernel_rfl) (by kernel_rfl) (by kernel_rfl) (fun _ _ _ h => h) (Or.inl ⟨?tw5, ?ty5⟩) HS ?tr5)
  case ti5 => (simp only [List.getElem?_toArray, List.getElem?_cons_zero, List.getElem?_cons_succ] <;> rfl)
  case tw5 => rfl
  case ty5 => (intro w' hSw; go_simp <;> with_reducible rfl)
  try simp only [Act.put, List.setIfInBounds_toArray, List.set_cons_zero, List.set_cons_succ]
  (refine wpAnyH_take (i := 6) (oi := ?tp6) (v := ?tv6) ?ti6 (by kernel_rfl) (by kernel_rfl) (by kernel_rfl) (fun _ _ _ h => h) (Or.inl ⟨?tw6, ?ty6⟩) HS ?tr6)
  case ti6 => (simp only [List.getElem?_toArray, List.getElem?_cons_zero, List.getElem?_cons_succ] <;> rfl)
  case tw6 => rfl
  case ty6 => (intro w' hSw; go_simp <;> with_reducible rfl)
  try simp only [Act.put, List.setIfInBounds_toArray, List.set_cons_zero, List.set_cons_succ]
  (refine wpAnyH_take (i := 4) (oi := ?tp4) (v := ?tv4) ?ti4 (by kernel_rfl) (by kernel_rfl) (by kernel_rfl) (fun _ _ _ h => h) (Or.inl ⟨?tw4, ?ty4⟩) HS ?tr4)
  case ti4 => (simp only [List.getElem?_toArray, List.getElem?_cons_zero, List.getElem?_cons_succ] <;> rfl)
  case tw4 => rfl
  case ty4 => (intro w' hSw; have x0' := below_cell hSw x0 hb0; go_simp <;> with_reducible rfl)
  try simp only [Act.put, List.setIfInBounds_toArray, List.set_cons_zero, List.set_cons_succ]
  (refine wpAnyH_take (i := 7) (oi := ?tp7) (v := ?tv7) ?ti7 (by kernel_rfl) (by kernel_rfl) (by kernel_rfl) (fun _ _ _ h => h) (Or.inl ⟨?tw7, ?ty7⟩) HS ?tr7)
  case ti7 => (simp only [List.getElem?_toArray, List.getElem?_cons_zero, List.getElem?_cons_succ] <;> rfl)
  case tw7 => rfl
  case ty7 => (intro w' hSw; have x1' := below_cell hSw x1 hb1; go_simp <;> with_reducible rfl)
  try simp only [Act.put, List.setIfInBounds_toArray, List.set_cons_zero, List.set_cons_succ]
  (refine wpAnyH_take (i := 8) (oi := ?tp8) (v := ?tv8) ?ti8 (by kernel_rfl) (by kernel_rfl) (by kernel_rfl) (fun _ _ _ h => h) (Or.inl ⟨?tw8, ?ty8⟩) HS ?tr8)
  case ti8 => (simp only [List.getElem?_toArray, List.getElem?_cons_zero, List.getElem?_cons_succ] <;> rfl)
  case tw8 => rfl
  case ty8 => (intro w' hSw; go_simp <;> with_reducible rfl)
  try simp only [Act.put, List.setIfInBounds_toArray, List.set_cons_zero, List.set_cons_succ]
  refine wpAnyH_ready (rs := [1, 9]) (by kernel_rfl) (by simp) ?_
  (refine AllReadyH.cons (o := ?so1) ?si1 (fun K hK => ?ss1) ?sm1)
  case si1 => (simp only [List.getElem?_toArray, List.getElem?_cons_zero, List.getElem?_cons_succ] <;> rfl)
  case ss1 =>
   rw [if_pos (by rfl)]
   go_simp
   refine hK.out _ _ ?_ (fun HS => ?_)
   · exact HS
   try simp only [Act.put, List.setIfInBounds_toArray, List.set_cons_zero, List.set_cons_succ]
   refine wpAnyH_ready (rs := [9]) (by kernel_rfl) (by simp) ?_
   (refine AllReadyH.cons (o := ?soa9) ?sia9 (fun K hK => ?ssa9) ?sma9)
   case sia9 => (simp only [List.getElem?_toArray, List.getElem?_cons_zero, List.getElem?_cons_succ] <;> rfl)
   case ssa9 =>
    rw [if_pos (by rfl)]
    go_simp
    refine hK.out _ _ ?_ (fun HS => ?_)
    · exact HS.alloc hB1.size _
    try simp only [Act.put, List.setIfInBounds_toArray, List.set_cons_zero, List.set_cons_succ]
    refine wpAnyH_ready (rs := [10]) (by kernel_rfl) (by simp) ?_
    (refine AllReadyH.cons (o := ?soa10) ?sia10 (fun K hK => ?ssa10) ?sma10)
    case sia10 => (simp only [List.getElem?_toArray, List.getElem?_cons_zero, List.getElem?_cons_succ] <;> rfl)
    case ssa10 =>
     rw [show (W.alloc (.cells #[.string s0, .string s1] 154)).drew = W.drew.alloc (.cells #[.string s0, .string s1] 154) from rfl]
     refine Kd.R_append_step k154 (w0 := w) w.heap.size ?aWa (.tmp 51) (.tmp 59) 42 154 (.agg #[.string ⟨#[]⟩, .string ⟨#[]⟩]) 32 rfl Tryz.underlying42 info154 rfl (by decide) (by omega) V (pre.map fun x => pairAt l x.1) (⟨s0, s1⟩ : S154) [.string s0, .string s1] (fun _ => True) (fun _ => False) rfl rfl ?aPa ?aKa (fun _ _ => trivial) ?aOa ?aHa ?aBa ?aLa ?_
     case aWa => rfl
     case aPa => exact k154_mkM _ _ _ (⟨s0, s1⟩ : S154)
     case aKa => exact fun k hk => hk.elim
     case aOa => exact Kd.R_grown hrow hgd (fun k _ e => by cases e)
     case aHa => exact below_drew hB1
     case aBa => exact hB1.size
     case aLa => (rw [List.length_map]; omega)
     intro v1 w1 hR1 hB2 hgr1 _
     refine hK.out _ _ ?_ (fun HS => ?_)
     · exact hB2
     try simp only [Act.put, List.setIfInBounds_toArray, List.set_cons_zero, List.set_cons_succ]
     (refine wpAnyH_take (i := 11) (oi := ?tpa11) (v := ?tva11) ?tia11 (by kernel_rfl) (by kernel_rfl) (by kernel_rfl) (fun _ _ _ h => h) (Or.inl ⟨?twa11, ?tya11⟩) HS ?tra11)
     case tia11 => (simp only [List.getElem?_toArray, List.getElem?_cons_zero, List.getElem?_cons_succ] <;> rfl)
     case twa11 => rfl
     case tya11 => (intro w' hSw; go_simp <;> with_reducible rfl)
     try simp only [Act.put, List.setIfInBounds_toArray, List.set_cons_zero, List.set_cons_succ]
     have hh1 : w1.heap[w.heap.size + 1]? = some (.cells #[.int .i64 3, .string ⟨#[]⟩, .slice none 0 0, V] 44 (0, 0)) := (hgr1.block _ (Array.getElem?_eq_some_iff.1 hg1).1 (Kd.R_ne hrow hg1 (by decide))).trans hg1
     obtain ⟨Ao, M, co, rfl⟩ : ∃ Ao M co, v1 = .slice Ao M co := let ⟨A, c, e⟩ := Kd.R_slice hR1; ⟨A, _, c, e⟩
     have c3 := Lib.cell_of_heap hh1 3
     have f3 : w1.frozen? ⟨w.heap.size + 1, 3, none⟩ = false := by simp [World.frozen?, hh1]
     simp only [List.getElem?_toArray, List.getElem?_cons_zero, List.getElem?_cons_succ] at c3
     refine wpAnyH_ready (rs := [12]) (by kernel_rfl) (by simp) ?_
     (refine AllReadyH.cons (o := ?soa12) ?sia12 (fun K hK => ?ssa12) ?sma12)
     case sia12 => (simp only [List.getElem?_toArray, List.getElem?_cons_zero, List.getElem?_cons_succ] <;> rfl)
     case ssa12 =>
      rw [if_pos (by rfl)]
      go_simp
      refine hK.out _ _ ?_ (fun HS => ?_)
      · exact HS.setCell (p := ⟨w.heap.size + 1, 3, none⟩) (Nat.le_succ _) _
      try simp only [Act.put, List.setIfInBounds_toArray, List.set_cons_zero, List.set_cons_succ]
      refine wpAnyH_done (by kernel_rfl) ?_ _
      have hk1 : ∀ k cells t, W.heap[k]? = some (.cells cells t (0, 0)) → t ≠ 154 → k ≠ w.heap.size + 1 → (w1.setCell ⟨w.heap.size + 1, 3, none⟩ (.slice Ao M co)).heap[k]? = some (.cells cells t (0, 0)) := fun k cells t hk ht hne => by
       rw [Below.heap_setCell _ _ _ _ hne]
       exact (hgr1.block _ (Array.getElem?_eq_some_iff.1 hk).1 (Kd.R_ne hrow hk (fun e => ht e.symm))).trans hk
      refine show KeepsFrom Wl.heap.size W _ ∧ KeepB _ W _ ∧ _ ∧ _ from ⟨?_, ?_, ⟨?_, ?_, ?_, ?_⟩, ?_⟩
      · exact (((⟨Nat.le_refl _, fun _ _ hk _ => hk⟩ : KeepsOthers W W.drew).trans (keeps_append (Kd.R_grown hrow hgd (fun k _ e => by cases e)) hgr1)).trans (KeepsOthers.setCell _ _ _)).from _
      · refine ((KeepB.of_grown hgd (fun k e => by cases e)).trans (KeepB.of_grown hgr1 ?_)).trans (KeepB.of_grown (grownBy_cell _ _ _) ?_)
        · intro k hk hS
          have h1 := ((Kd.R_bound hrow).1 k hk).2.1
          rcases hS with hS | hS | hS
          · omega
          · rw [hS] at hk; exact Kd.R_ne hrow hg2 (by decide) hk.symm
          · rw [hS] at hk; exact Kd.R_ne hrow hg4 (by decide) hk.symm
        · intro k hk hS
          cases hk
          rcases hS with hS | hS | hS
          · have : w.heap.size + 1 < w.heap.size := hS; omega
          · have : w.heap.size + 1 = w.heap.size + 2 := hS; omega
          · have : w.heap.size + 1 = w.heap.size + 3 := hS; omega
      · exact hk1 _ _ _ hg0 (by decide) (by omega)
      · exact hk1 _ _ _ hg2 (by decide) (by omega)
      · exact hk1 _ _ _ hg4 (by decide) (by omega)
      · refine ⟨_, blk_put hh1 3 _ rfl, ?_⟩
        have hR2 := Kd.R_set hR1 hh1 (by decide) 3 (.slice Ao M co)
        rw [List.map_append, List.map_cons, List.map_nil, HP.out]
        exact hR2
      · exact HS
     exact AllReadyH.nil
    exact AllReadyH.nil
   exact AllReadyH.nil
  (refine AllReadyH.cons (o := ?so9) ?si9 (fun K hK => ?ss9) ?sm9)
  case si9 => (simp only [List.getElem?_toArray, List.getElem?_cons_zero, List.getElem?_cons_succ] <;> rfl)
  case ss9 =>
   rw [if_pos (by rfl)]
   go_simp
   refine hK.out _ _ ?_ (fun HS => ?_)
   · exact HS.alloc hB1.size _
   try simp only [Act.put, List.setIfInBounds_toArray, List.set_cons_zero, List.set_cons_succ]
   refine wpAnyH_ready (rs := [1]) (by kernel_rfl) (by simp) ?_
   (refine AllReadyH.cons (o := ?sob1) ?sib1 (fun K hK => ?ssb1) ?smb1)
   case sib1 => (simp only [List.getElem?_toArray, List.getElem?_cons_zero, List.getElem?_cons_succ] <;> rfl)
   case ssb1 =>
    rw [if_pos (by rfl)]
    go_simp
    refine hK.out _ _ ?_ (fun HS => ?_)
    · exact HS
    try simp only [Act.put, List.setIfInBounds_toArray, List.set_cons_zero, List.set_cons_succ]
    refine wpAnyH_ready (rs := [10]) (by kernel_rfl) (by simp) ?_
    (refine AllReadyH.cons (o := ?sob10) ?sib10 (fun K hK => ?ssb10) ?smb10)
    case sib10 => (simp only [List.getElem?_toArray, List.getElem?_cons_zero, List.getElem?_cons_succ] <;> rfl)
    case ssb10 =>
     rw [show (W.alloc (.cells #[.string s0, .string s1] 154)).drew = W.drew.alloc (.cells #[.string s0, .string s1] 154) from rfl]
     refine Kd.R_append_step k154 (w0 := w) w.heap.size ?aWb (.tmp 51) (.tmp 59) 42 154 (.agg #[.string ⟨#[]⟩, .string ⟨#[]⟩]) 32 rfl Tryz.underlying42 info154 rfl (by decide) (by omega) V (pre.map fun x => pairAt l x.1) (⟨s0, s1⟩ : S154) [.string s0, .string s1] (fun _ => True) (fun _ => False) rfl rfl ?aPb ?aKb (fun _ _ => trivial) ?aOb ?aHb ?aBb ?aLb ?_
     case aWb => rfl
     case aPb => exact k154_mkM _ _ _ (⟨s0, s1⟩ : S154)
     case aKb => exact fun k hk => hk.elim
     case aOb => exact Kd.R_grown hrow hgd (fun k _ e => by cases e)
     case aHb => exact below_drew hB1
     case aBb => exact hB1.size
     case aLb => (rw [List.length_map]; omega)
     intro v1 w1 hR1 hB2 hgr1 _
     refine hK.out _ _ ?_ (fun HS => ?_)
     · exact hB2
     try simp only [Act.put, List.setIfInBounds_toArray, List.set_cons_zero, List.set_cons_succ]
     (refine wpAnyH_take (i := 11) (oi := ?tpb11) (v := ?tvb11) ?tib11 (by kernel_rfl) (by kernel_rfl) (by kernel_rfl) (fun _ _ _ h => h) (Or.inl ⟨?twb11, ?tyb11⟩) HS ?trb11)
     case tib11 => (simp only [List.getElem?_toArray, List.getElem?_cons_zero, List.getElem?_cons_succ] <;> rfl)
     case twb11 => rfl
     case tyb11 => (intro w' hSw; go_simp <;> with_reducible rfl)
     try simp only [Act.put, List.setIfInBounds_toArray, List.set_cons_zero, List.set_cons_succ]
     have hh1 : w1.heap[w.heap.size + 1]? = some (.cells #[.int .i64 3, .string ⟨#[]⟩, .slice none 0 0, V] 44 (0, 0)) := (hgr1.block _ (Array.getElem?_eq_some_iff.1 hg1).1 (Kd.R_ne hrow hg1 (by decide))).trans hg1
     obtain ⟨Ao, M, co, rfl⟩ : ∃ Ao M co, v1 = .slice Ao M co := let ⟨A, c, e⟩ := Kd.R_slice hR1; ⟨A, _, c, e⟩
     have c3 := Lib.cell_of_heap hh1 3
     have f3 : w1.frozen? ⟨w.heap.size + 1, 3, none⟩ = false := by simp [World.frozen?, hh1]
     simp only [List.getElem?_toArray, List.getElem?_cons_zero, List.getElem?_cons_succ] at c3
     refine wpAnyH_ready (rs := [12]) (by kernel_rfl) (by simp) ?_
     (refine AllReadyH.cons (o := ?sob12) ?sib12 (fun K hK => ?ssb12) ?smb12)
     case sib12 => (simp only [List.getElem?_toArray, List.getElem?_cons_zero, List.getElem?_cons_succ] <;> rfl)
     case ssb12 =>
      rw [if_pos (by rfl)]
      go_simp
      refine hK.out _ _ ?_ (fun HS => ?_)
      · exact HS.setCell (p := ⟨w.heap.size + 1, 3, none⟩) (Nat.le_succ _) _
      try simp only [Act.put, List.setIfInBounds_toArray, List.set_cons_zero, List.set_cons_succ]
      refine wpAnyH_done (by kernel_rfl) ?_ _
      have hk1 : ∀ k cells t, W.heap[k]? = some (.cells cells t (0, 0)) → t ≠ 154 → k ≠ w.heap.size + 1 → (w1.setCell ⟨w.heap.size + 1, 3, none⟩ (.slice Ao M co)).heap[k]? = some (.cells cells t (0, 0)) := fun k cells t hk ht hne => by
       rw [Below.heap_setCell _ _ _ _ hne]
       exact (hgr1.block _ (Array.getElem?_eq_some_iff.1 hk).1 (Kd.R_ne hrow hk (fun e => ht e.symm))).trans hk
      refine show KeepsFrom Wl.heap.size W _ ∧ KeepB _ W _ ∧ _ ∧ _ from ⟨?_, ?_, ⟨?_, ?_, ?_, ?_⟩, ?_⟩
      · exact (((⟨Nat.le_refl _, fun _ _ hk _ => hk⟩ : KeepsOthers W W.drew).trans (keeps_append (Kd.R_grown hrow hgd (fun k _ e => by cases e)) hgr1)).trans (KeepsOthers.setCell _ _ _)).from _
      · refine ((KeepB.of_grown hgd (fun k e => by cases e)).trans (KeepB.of_grown hgr1 ?_)).trans (KeepB.of_grown (grownBy_cell _ _ _) ?_)
        · intro k hk hS
          have h1 := ((Kd.R_bound hrow).1 k hk).2.1
          rcases hS with hS | hS | hS
          · omega
          · rw [hS] at hk; exact Kd.R_ne hrow hg2 (by decide) hk.symm
          · rw [hS] at hk; exact Kd.R_ne hrow hg4 (by decide) hk.symm
        · intro k hk hS
          cases hk
          rcases hS with hS | hS | hS
          · have : w.heap.size + 1 < w.heap.size := hS; omega
          · have : w.heap.size + 1 = w.heap.size + 2 := hS; omega
          · have : w.heap.size + 1 = w.heap.size + 3 := hS; omega
      · exact hk1 _ _ _ hg0 (by decide) (by omega)
      · exact hk1 _ _ _ hg2 (by decide) (by omega)
      · exact hk1 _ _ _ hg4 (by decide) (by omega)
      · refine ⟨_, blk_put hh1 3 _ rfl, ?_⟩
        have hR2 := Kd.R_set hR1 hh1 (by decide) 3 (.slice Ao M co)
        rw [List.map_append, List.map_cons, List.map_nil, HP.out]
        exact hR2
      · exact HS
     exact AllReadyH.nil
    exact AllReadyH.nil
   exact AllReadyH.nil
  exact AllReadyH.nil
 case done =>
  rintro D ys W hD hS ⟨⟨hg0, hg2, hg4, V, hg1, hrow⟩, hB1⟩ hK
  have hys : (ys.map fun x => pairAt l x.1) = pairsOf l := by
   unfold pairsOf
   rw [← hhl, ← hS, List.map_map]
   rfl
  rw [hys] at hrow
  have b0 := Lib.cell_of_heap hg1 0
  have b1 := Lib.cell_of_heap hg1 1
  have b2 := Lib.cell_of_heap hg1 2
  have b3 := Lib.cell_of_heap hg1 3
  simp only [List.getElem?_toArray, List.getElem?_cons_zero, List.getElem?_cons_succ] at b0 b1 b2 b3
  have HK := Lib.hid hK
  have HZ2 := Lib.hid hD
  clear hK hS hD
  obtain ⟨Av, Mv, cv, hV⟩ : ∃ Av Mv cv, V = .slice Av Mv cv := let ⟨A, c, e⟩ := Kd.R_slice hrow; ⟨A, _, c, e⟩
  subst hV
  go_wp2_with (refine wpList_store_box rfl 44 (.tmp 4) (.tmp 62) rfl w.heap.size 44 #[.int .i64 0, .string ⟨#[]⟩, .slice none 0 0, .slice none 0 0] #[.int .i64 3, .string ⟨#[]⟩, .slice none 0 0, .slice Av Mv cv] (by rfl) (by rfl) hg0 (by rfl) (by kernel_rfl) (by simp [Value.oneCell']) ?_; intro w3 hx3 hgr hsz)
  have hK3 : w3.heap[D]? = some (.deferred (some [])) := (hgr.block _ (Array.getElem?_eq_some_iff.1 HK.out).1 (by intro e; injection e with e; have := HZ2.out; have := HZ.out; omega)).trans HK.out
  refine ⟨by simp, .inl ⟨_, _, rfl, run_takeDeferred hK3, ?_⟩⟩
  have hgp := grownBy_putObj' w3 D (.deferred none)
  have hD4 : D ≠ w.heap.size := by have := HZ2.out; have := HZ.out; omega
  have hx4 := heap_kept hx3 hgp (fun r e => by cases e; exact ⟨_, hK3, rfl⟩)
  refine ⟨_, results_ct rfl _ _ w.heap.size 44 #[.int .i64 3, .string ⟨#[]⟩, .slice none 0 0, .slice Av Mv cv] (0, 0) _ rfl hx4 Tryz.underlying44 rfl (by kernel_rfl), ?_⟩
  refine ⟨_, _, rfl, Kd.R_nil _ _ _ _ _, R_kept (Kd.R_mono (Kd.R_step (Kd.R_types hrow hg0 (by decide)) (fun k hk hl => hgr.block k hl (fun e => hk.2 (by cases e; rfl)))) (fun _ _ => trivial)) hgp (fun r e => by cases e; exact ⟨_, hK3, rfl⟩), (below_grown hB1 (Nat.le_refl _) hgr (Array.getElem?_eq_some_iff.1 hg0).1).trans (belowK_b (w := w) (Nat.le_refl _) w3 D _ _ (by have := HZ2.out; have := HZ.out; omega) hK3 rfl rfl)⟩
 case stop =>
  rintro D c pre W _ _ h _
  exact h.elim
set_option maxRecDepth 100000 in
set_option maxHeartbeats 2000000 in
theorem value_Of1 (A : Option Addr) (c : Nat) (l : List ByteArray) (w : World) (hr : Kd.C Kd.string w A l.length l) (h1 : l.length = 1) :
 Calls Tryz.prog 159 #[.int .i64 1, .slice A l.length c] w (ofPost w ⟨1, l.getD 0 ⟨#[]⟩, [], []⟩ true) := by
 obtain ⟨ad1, rfl, x0⟩ := Kd.at_string hr 0 (by omega) (by omega)
 rw [h1]
 obtain ⟨s0, hs, x0⟩ : ∃ s0, l.getD 0 ⟨#[]⟩ = s0 ∧ w.cell? ad1 = some (.string s0) := ⟨_, rfl, x0⟩
 rw [hs]
 have hb0 := World.block_lt_of_cell? w _ x0
 obtain ⟨Wl, hWl⟩ : ∃ W, W = (w.alloc (.cells #[.int .i64 0, .string ⟨#[]⟩, .slice none 0 0, .slice none 0 0] 44)).alloc (.cells #[.int .i64 1, .string ⟨#[]⟩, .slice none 0 0, .slice none 0 0] 44) := ⟨_, rfl⟩
 have hB : Below w.heap.size w Wl := by rw [hWl]; exact ((Below.refl _ w).alloc (Nat.le_refl _) _).alloc (by simp) _
 have y0 := below_cell hB x0 hb0
 have q0 : Wl.heap[w.heap.size]? = some (.cells #[.int .i64 0, .string ⟨#[]⟩, .slice none 0 0, .slice none 0 0] 44 (0, 0)) := by rw [hWl]; exact alloc_old (alloc_at rfl)
 have q1 : Wl.heap[w.heap.size + 1]? = some (.cells #[.int .i64 1, .string ⟨#[]⟩, .slice none 0 0, .slice none 0 0] 44 (0, 0)) := by rw [hWl]; exact alloc_at (by simp only [World.size_alloc])
 have HW := Lib.hid hWl
 have HR := Lib.hid hr
 clear hr hWl hs h1 x0
 go_enter Tryz.func159, Tryz.ntmps159
 have b1 := Lib.cell_of_heap q1 1
 simp only [List.getElem?_toArray, List.getElem?_cons_zero, List.getElem?_cons_succ] at b1
 have f1 : Wl.frozen? ⟨w.heap.size + 1, 1, none⟩ = false := by simp [World.frozen?, q1]
 go_wp2_with (first
  | ((with_reducible refine gate_dst (N := 12) rfl ?_); rw [← HW.out])
  | ((with_reducible refine gate_dst (N := 62) rfl ?_); obtain ⟨W2, hW2⟩ : ∃ W, W = Wl.setCell ⟨w.heap.size + 1, 1, none⟩ (.string s0) := ⟨_, rfl⟩; have p0 : W2.heap[w.heap.size]? = some (.cells #[.int .i64 0, .string ⟨#[]⟩, .slice none 0 0, .slice none 0 0] 44 (0, 0)) := (by rw [hW2, Below.heap_setCell _ _ _ _ (by simp)]; exact q0); have p1 : W2.heap[w.heap.size + 1]? = some (.cells #[.int .i64 1, .string s0, .slice none 0 0, .slice none 0 0] 44 (0, 0)) := (by rw [hW2]; exact blk_put q1 1 _ rfl); have hB2 : Below w.heap.size w W2 := (by rw [hW2]; exact hB.setCell (p := ⟨w.heap.size + 1, 1, none⟩) (Nat.le_succ _) _); rw [← hW2]; clear hW2; have d0 := Lib.cell_of_heap p1 0; have d1 := Lib.cell_of_heap p1 1; have d2 := Lib.cell_of_heap p1 2; have d3 := Lib.cell_of_heap p1 3; simp only [List.getElem?_toArray, List.getElem?_cons_zero, List.getElem?_cons_succ] at d0 d1 d2 d3)
  | (refine wpList_store_box rfl 44 (.tmp 4) (.tmp 62) rfl w.heap.size 44 #[.int .i64 0, .string ⟨#[]⟩, .slice none 0 0, .slice none 0 0] #[.int .i64 1, .string s0, .slice none 0 0, .slice none 0 0] (by rfl) (by rfl) p0 (by rfl) (by kernel_rfl) (by simp [Value.oneCell']) ?_; intro w3 hx3 hgr hsz))
 refine bodyPost_ret (results_ct rfl _ _ w.heap.size 44 #[.int .i64 1, .string s0, .slice none 0 0, .slice none 0 0] (0, 0) _ rfl hx3 Tryz.underlying44 rfl (by kernel_rfl)) rfl ?_
 exact ⟨_, _, rfl, Kd.R_nil _ _ _ _ _, Kd.R_nil _ _ _ _ _, below_grown hB2 (Nat.le_refl _) hgr (Array.getElem?_eq_some_iff.1 p0).1⟩
set_option maxRecDepth 100000 in
set_option maxHeartbeats 2000000 in
theorem value_Of2 (A : Option Addr) (c : Nat) (l : List ByteArray) (w : World) (hl : l.length < 8796093022208) (hr : Kd.C Kd.string w A l.length l) (hc : l.length ≤ c) (h1 : 0 < l.length) :
 Calls Tryz.prog 159 #[.int .i64 2, .slice A l.length c] w (ofPost w ⟨2, ⟨#[]⟩, l, []⟩ true) := by
 obtain ⟨Wl, hWl⟩ : ∃ W, W = (w.alloc (.cells #[.int .i64 0, .string ⟨#[]⟩, .slice none 0 0, .slice none 0 0] 44)).alloc (.cells #[.int .i64 2, .string ⟨#[]⟩, .slice none 0 0, .slice none 0 0] 44) := ⟨_, rfl⟩
 have hB : Below w.heap.size w Wl := by rw [hWl]; exact ((Below.refl _ w).alloc (Nat.le_refl _) _).alloc (by simp) _
 have hsz0 : Wl.heap.size = w.heap.size + 2 := by rw [hWl]; simp only [World.size_alloc]
 have q0 : Wl.heap[w.heap.size]? = some (.cells #[.int .i64 0, .string ⟨#[]⟩, .slice none 0 0, .slice none 0 0] 44 (0, 0)) := by rw [hWl]; exact alloc_old (alloc_at rfl)
 have q1 : Wl.heap[w.heap.size + 1]? = some (.cells #[.int .i64 2, .string ⟨#[]⟩, .slice none 0 0, .slice none 0 0] 44 (0, 0)) := by rw [hWl]; exact alloc_at (by simp only [World.size_alloc])
 have HW := Lib.hid hWl
 have HR := Lib.hid (Kd.C_below hr hB)
 have HC := Lib.hid (show slices_Clone_string_string.f l = some l from if_pos hl)
 obtain ⟨N, hN⟩ : ∃ N, N = l.length := ⟨_, rfl⟩
 have z2 : (0 : Int) < (N : Int) := by omega
 have HN := Lib.hid hN
 rw [← hN]
 clear hr hWl hN h1
 go_enter Tryz.func159, Tryz.ntmps159
 go_wp2_with (first
  | ((with_reducible refine gate_dst (N := 12) rfl ?_); rw [← HW.out])
  | (go_at_call 160; rw [HN.out]; refine (slices_Clone_string_string.calls A c l l _ HR.out hc HC.out).mono ?_; rintro e w1 ⟨V, rfl, hR1, hb⟩; have r0 := (hb.block _ (Array.getElem?_eq_some_iff.1 q0).1).trans q0; have r1 := (hb.block _ (Array.getElem?_eq_some_iff.1 q1).1).trans q1; obtain ⟨Av, Mv, cv, hV⟩ : ∃ Av Mv cv, V = .slice Av Mv cv := (let ⟨A, c, e⟩ := Kd.R_slice hR1; ⟨A, _, c, e⟩); subst hV; have c2 := Lib.cell_of_heap r1 2; simp only [List.getElem?_toArray, List.getElem?_cons_zero, List.getElem?_cons_succ] at c2; have f2 : w1.frozen? ⟨w.heap.size + 1, 2, none⟩ = false := (by simp [World.frozen?, r1]))
  | ((with_reducible refine gate_dst (N := 62) rfl ?_); obtain ⟨W2, hW2⟩ : ∃ W, W = w1.setCell ⟨w.heap.size + 1, 2, none⟩ (.slice Av Mv cv) := ⟨_, rfl⟩; have p0 : W2.heap[w.heap.size]? = some (.cells #[.int .i64 0, .string ⟨#[]⟩, .slice none 0 0, .slice none 0 0] 44 (0, 0)) := (by rw [hW2, Below.heap_setCell _ _ _ _ (by simp)]; exact r0); have p1 : W2.heap[w.heap.size + 1]? = some (.cells #[.int .i64 2, .string ⟨#[]⟩, .slice Av Mv cv, .slice none 0 0] 44 (0, 0)) := (by rw [hW2]; exact blk_put r1 2 _ rfl); have hB2 : Below w.heap.size w W2 := (by rw [hW2]; exact (hB.trans (hb.mono (by omega))).setCell (p := ⟨w.heap.size + 1, 2, none⟩) (Nat.le_succ _) _); have hR2 : Kd.R Kd.string 9 W2 w.heap.size (fun _ => True) (.slice Av Mv cv) l := (by rw [hW2]; exact Kd.R_lower (Kd.R_set hR1 r1 (by decide) 2 _) (by omega)); rw [← hW2]; clear hW2; have d0 := Lib.cell_of_heap p1 0; have d1 := Lib.cell_of_heap p1 1; have d2 := Lib.cell_of_heap p1 2; have d3 := Lib.cell_of_heap p1 3; simp only [List.getElem?_toArray, List.getElem?_cons_zero, List.getElem?_cons_succ] at d0 d1 d2 d3)
  | (refine wpList_store_box rfl 44 (.tmp 4) (.tmp 62) rfl w.heap.size 44 #[.int .i64 0, .string ⟨#[]⟩, .slice none 0 0, .slice none 0 0] #[.int .i64 2, .string ⟨#[]⟩, .slice Av Mv cv, .slice none 0 0] (by rfl) (by rfl) p0 (by rfl) (by kernel_rfl) (by simp [Value.oneCell']) ?_; intro w3 hx3 hgr hsz))
 refine bodyPost_ret (results_ct rfl _ _ w.heap.size 44 #[.int .i64 2, .string ⟨#[]⟩, .slice Av Mv cv, .slice none 0 0] (0, 0) _ rfl hx3 Tryz.underlying44 rfl (by kernel_rfl)) rfl ?_
 exact ⟨_, _, rfl, Kd.R_mono (Kd.R_step (Kd.R_types hR2 p0 (by decide)) (fun k hk hl => hgr.block k hl (fun e => hk.2 (by cases e; rfl)))) (fun _ _ => trivial), Kd.R_nil _ _ _ _ _, below_grown hB2 (Nat.le_refl _) hgr (Array.getElem?_eq_some_iff.1 p0).1⟩
set_option maxRecDepth 100000 in
set_option maxHeartbeats 2000000 in
theorem value_Of0 (kind : Int) (A : Option Addr) (c : Nat) (l : List ByteArray) (w : World) (h1 : ¬ (kind = 1 ∧ l.length = 1)) (h2 : ¬ (kind = 2 ∧ 0 < l.length)) (h3 : ¬ (kind = 3 ∧ 0 < l.length ∧ l.length % 2 = 0)) :
 Calls Tryz.prog 159 #[.int .i64 kind, .slice A l.length c] w (ofPost w z44 false) := by
 obtain ⟨N, hN⟩ : ∃ N, N = l.length := ⟨_, rfl⟩
 rw [← hN] at h1 h2 h3 ⊢
 clear hN
 have t : Int.tmod (N : Int) 2 = 0 ↔ N % 2 = 0 := by rw [Int.tmod_eq_emod_of_nonneg (by omega)]; omega
 have hall : (kind = 1 ∧ ¬ (N : Int) = 1) ∨ (kind = 2 ∧ (N : Int) = 0) ∨ (kind = 3 ∧ (N : Int) = 0) ∨ (kind = 3 ∧ 0 < (N : Int) ∧ ¬ Int.tmod (N : Int) 2 = 0) ∨ (¬ kind = 1 ∧ ¬ kind = 2 ∧ ¬ kind = 3) := by
  rw [t]
  omega
 clear h1 h2 h3 t
 unfold z44
 rcases hall with ⟨rfl, z⟩ | ⟨rfl, z⟩ | ⟨rfl, z⟩ | ⟨rfl, z, z2⟩ | ⟨z, z1, z2⟩
 all_goals
  try have z3 : ((N : Int) % 2 == 0) = false := beq_eq_false_iff_ne.2 (by rw [← Int.tmod_eq_emod_of_nonneg (by omega)]; exact z2)
  go_enter Tryz.func159, Tryz.ntmps159
  go_wp2
  refine bodyPost_ret (results_ct rfl _ _ w.heap.size 44 #[.int .i64 0, .string ⟨#[]⟩, .slice none 0 0, .slice none 0 0] (0, 0) _ rfl (alloc_old (alloc_at rfl)) Tryz.underlying44 rfl (by kernel_rfl)) rfl ?_
  exact ⟨_, _, rfl, Kd.R_nil _ _ _ _ _, Kd.R_nil _ _ _ _ _, ((Below.refl _ w).alloc (Nat.le_refl _) _).alloc (by simp) _⟩
theorem value_Of.calls (kind : Int) (A : Option Addr) (c : Nat) (l : List ByteArray) (r : S44) (b : Bool) (w : World) (hr : Kd.C Kd.string w A l.length l) (hc : l.length ≤ c) (h : value_Of.f kind l = some (r, b)) :
 Calls Tryz.prog 159 #[.int .i64 kind, .slice A l.length c] w (ofPost w r b) := by
 unfold value_Of.f at h
 split at h
 case isFalse => cases h
 rename_i hl
 split at h
 · rename_i hk
   obtain ⟨rfl, h1⟩ := hk
   cases h
   exact value_Of1 A c l w hr h1
 · rename_i hk1
   split at h
   · rename_i hk
     obtain ⟨rfl, h1⟩ := hk
     cases h
     exact value_Of2 A c l w hl hr hc h1
   · rename_i hk2
     split at h
     · rename_i hk
       obtain ⟨rfl, h1, h2⟩ := hk
       cases h
       exact value_Of3 A c l w hl hr hc h1 h2
     · rename_i hk3
       cases h
       exact value_Of0 kind A c l w hk1 hk2 hk3
end Go.Proofs.YtlocbpaikdgmbaaGreatDoor.P
end
section
namespace Go.Proofs.YtlocbpaikdgmbaaGreatDoor.P
open Go Go.RowKit Go.Proofs.YtlocbpaikdgmbaaGreatDoorW.PrintWords Go.Proofs.YtlocbpaikdgmbaaGreatDoorW.PrintLast Go.Proofs.YtlocbpaikdgmbaaGreatDoorW.PrintMore
set_option linter.unusedVariables false
set_option linter.unusedSimpArgs false
def value_Canon.f (k : Nat) (v : S44) : Option S44 := (value_Texts.f k v.f0 v.f1 v.f2 v.f3).bind fun t => (value_Of.f v.f0 t).map (·.1)
def ValR (w' : World) (base : Nat) (r : S44) (u : Value) : Prop :=
 ∃ V2 V3, u = .agg #[.int .i64 r.f0, .string r.f1, V2, V3] ∧ Kd.R Kd.string 9 w' base (fun _ => True) V2 r.f2 ∧ Kd.R k154 154 w' base (fun _ => True) V3 r.f3
theorem ValR.below {w' w2 : World} {base : Nat} {r : S44} {u : Value} (h : ValR w' base r u) (hb : Below w'.heap.size w' w2) : ValR w2 base r u := let ⟨V2, V3, e, h2, h3⟩ := h; ⟨V2, V3, e, Kd.R_below h2 hb, Kd.R_below h3 hb⟩
theorem ValR.lower {w' : World} {base b2 : Nat} {r : S44} {u : Value} (h : ValR w' base r u) (hb : b2 ≤ base) : ValR w' b2 r u := let ⟨V2, V3, e, h2, h3⟩ := h; ⟨V2, V3, e, Kd.R_lower h2 hb, Kd.R_lower h3 hb⟩
theorem ValR.step {w' w2 : World} {base : Nat} {r : S44} {u : Value} (h : ValR w' base r u) (hb : ∀ k, base ≤ k → k < w'.heap.size → (∃ c t, w'.heap[k]? = some (.cells c t (0, 0))) → w2.heap[k]? = w'.heap[k]?) : ValR w2 base r u := by
 obtain ⟨V2, V3, e, h2, h3⟩ := h
 refine ⟨V2, V3, e, Kd.R_mono (Kd.R_step (Kd.R_bound h2) (fun k hk hl => ?_)) (fun _ h => h.1), Kd.R_mono (Kd.R_step (Kd.R_bound h3) (fun k hk hl => ?_)) (fun _ h => h.1)⟩
 all_goals
  obtain ⟨_, hk, _, q, _, cells, hc⟩ := hk
  exact hb k hk hl ⟨_, _, hc⟩
theorem put4 {w : World} {g : Nat} {T : TypeId} {a0 a1 a2 a3 : Value} (h : w.heap[g]? = some (.cells #[a0, a1, a2, a3] T (0, 0))) (b0 b1 b2 b3 : Value) :
 ((((w.setCell ⟨g, 0, none⟩ b0).setCell ⟨g, 1, none⟩ b1).setCell ⟨g, 2, none⟩ b2).setCell ⟨g, 3, none⟩ b3).heap[g]? = some (.cells #[b0, b1, b2, b3] T (0, 0)) :=
 blk_put (blk_put (blk_put (blk_put h 0 _ rfl) 1 _ rfl) 2 _ rfl) 3 _ rfl
theorem put4_ne {w : World} {g k : Nat} (h : k ≠ g) (b0 b1 b2 b3 : Value) : ((((w.setCell ⟨g, 0, none⟩ b0).setCell ⟨g, 1, none⟩ b1).setCell ⟨g, 2, none⟩ b2).setCell ⟨g, 3, none⟩ b3).heap[k]? = w.heap[k]? := by
 rw [Below.heap_setCell _ _ _ _ h, Below.heap_setCell _ _ _ _ h, Below.heap_setCell _ _ _ _ h, Below.heap_setCell _ _ _ _ h]
theorem below_put4 {n : Nat} {w w1 : World} {g : Nat} (h : Below n w w1) (hg : n ≤ g) (a b c d : Value) : Below n w ((((w1.setCell ⟨g, 0, none⟩ a).setCell ⟨g, 1, none⟩ b).setCell ⟨g, 2, none⟩ c).setCell ⟨g, 3, none⟩ d) :=
 (((h.setCell (p := ⟨g, 0, none⟩) hg _).setCell (p := ⟨g, 1, none⟩) hg _).setCell (p := ⟨g, 2, none⟩) hg _).setCell (p := ⟨g, 3, none⟩) hg _
theorem canon_fin {w3 w5 : World} {base low g : Nat} {r : S44} {V2 V3 : Value} (h2 : Kd.R Kd.string 9 w3 base (fun _ => True) V2 r.f2) (h3 : Kd.R k154 154 w3 base (fun _ => True) V3 r.f3)
 (hs : ∀ k, base ≤ k → k < w3.heap.size → w5.heap[k]? = w3.heap[k]?) (hg : g < base) (hl : low ≤ base) (a b c d : Value) :
 ValR ((((w5.setCell ⟨g, 0, none⟩ a).setCell ⟨g, 1, none⟩ b).setCell ⟨g, 2, none⟩ c).setCell ⟨g, 3, none⟩ d) low r (.agg #[.int .i64 r.f0, .string r.f1, V2, V3]) :=
 ValR.lower (ValR.step (w' := w3) ⟨V2, V3, rfl, h2, h3⟩ (fun k hk hlt _ => (put4_ne (by omega) a b c d).trans (hs k hk hlt))) hl
set_option maxRecDepth 100000 in
set_option maxHeartbeats 2000000 in
theorem value_Canon.calls (k : Nat) (v r : S44) (A2 : Option Addr) (c2 : Nat) (A3 : Option Addr) (c3 : Nat) (w : World)
 (hr2 : Kd.C Kd.string w A2 v.f2.length v.f2) (hc2 : v.f2.length ≤ c2) (hr3 : Kd.C k154 w A3 v.f3.length v.f3) (hc3 : v.f3.length ≤ c3) (h : value_Canon.f k v = some r) :
 Calls Tryz.prog 132 #[.agg #[.int .i64 v.f0, .string v.f1, .slice A2 v.f2.length c2, .slice A3 v.f3.length c3]] w fun e w' => ∃ u, e = .returned u ∧ ValR w' w.heap.size r u ∧ Below w.heap.size w w' := by
 obtain ⟨kind, sv, l2, l3⟩ := v
 unfold value_Canon.f at h
 obtain ⟨t, ht, h⟩ := Option.bind_eq_some_iff.1 h
 obtain ⟨⟨r', b⟩, ho, h⟩ := Option.map_eq_some_iff.1 h
 obtain rfl : r' = r := h
 dsimp only at hr2 hc2 hr3 hc3 ht ho ⊢
 obtain ⟨w1, hw1⟩ : ∃ W, W = (w.alloc (.cells #[.int .i64 kind, .string sv, .slice A2 l2.length c2, .slice A3 l3.length c3] 44)).alloc (.cells #[.int .i64 0, .string ⟨#[]⟩, .slice none 0 0, .slice none 0 0] 44) := ⟨_, rfl⟩
 have hB : Below w.heap.size w w1 := by rw [hw1]; exact ((Below.refl _ w).alloc (Nat.le_refl _) _).alloc (by simp) _
 have q0 : w1.heap[w.heap.size]? = some (.cells #[.int .i64 kind, .string sv, .slice A2 l2.length c2, .slice A3 l3.length c3] 44 (0, 0)) := by rw [hw1]; exact alloc_old (alloc_at rfl)
 have q1 : w1.heap[w.heap.size + 1]? = some (.cells #[.int .i64 0, .string ⟨#[]⟩, .slice none 0 0, .slice none 0 0] 44 (0, 0)) := by rw [hw1]; exact alloc_at (by simp only [World.size_alloc])
 have HW := Lib.hid hw1
 have HT := Lib.hid ht
 have HO := Lib.hid ho
 have H2 := Lib.hid (Kd.C_below hr2 hB)
 have H3 := Lib.hid (Kd.C_below hr3 hB)
 have K2 := Lib.hid hc2
 have K3 := Lib.hid hc3
 have HB := Lib.hid hB
 clear hw1 ht ho hr2 hr3 hc2 hc3
 go_enter Tryz.func132, Tryz.ntmps132
 go_wp2_with fail
 rw [← HW.out]
 have hsz1 : w1.heap.size = w.heap.size + 2 := by rw [HW.out]; simp only [World.size_alloc]
 clear HW
 have g0 := Lib.cell_of_heap q0 0
 have g1 := Lib.cell_of_heap q0 1
 have g2 := Lib.cell_of_heap q0 2
 have g3 := Lib.cell_of_heap q0 3
 simp only [List.getElem?_toArray, List.getElem?_cons_zero, List.getElem?_cons_succ] at g0 g1 g2 g3
 refine wp_region_held (S := fun W' => Below w1.heap.size w1 W') (by kernel_rfl) ?_
 have HS : Below w1.heap.size w1 w1.drew := below_drew (Below.refl _ w1)
 change wpAnyH _ _ _ _ _ _ _ _ w1.drew
 (refine wpAnyH_take (i := 0) (oi := ?tp0) (v := ?tv0) ?ti0 (by kernel_rfl) (by kernel_rfl) (by kernel_rfl) ?tq0 (Or.inl ⟨?tw0, ?ty0⟩) HS ?tr0)
 case ti0 => (simp only [List.getElem?_toArray, List.getElem?_cons_zero, List.getElem?_cons_succ] <;> rfl)
 case tq0 => exact fun _ _ _ h => h
 case tw0 => rfl
 case ty0 => (intro w' hSw; go_simp <;> with_reducible rfl)
 try simp only [Act.put, List.setIfInBounds_toArray, List.set_cons_zero, List.set_cons_succ]
 (refine wpAnyH_take (i := 1) (oi := ?tp1) (v := ?tv1) ?ti1 (by kernel_rfl) (by kernel_rfl) (by kernel_rfl) ?tq1 (Or.inl ⟨?tw1, ?ty1⟩) HS ?tr1)
 case ti1 => (simp only [List.getElem?_toArray, List.getElem?_cons_zero, List.getElem?_cons_succ] <;> rfl)
 case tq1 => exact fun _ _ _ h => h
 case tw1 => rfl
 case ty1 => (intro w' hSw; have g0' := below_cell hSw g0 (Array.getElem?_eq_some_iff.1 q0).1; go_simp <;> with_reducible rfl)
 try simp only [Act.put, List.setIfInBounds_toArray, List.set_cons_zero, List.set_cons_succ]
 (refine wpAnyH_take (i := 2) (oi := ?tp2) (v := ?tv2) ?ti2 (by kernel_rfl) (by kernel_rfl) (by kernel_rfl) ?tq2 (Or.inl ⟨?tw2, ?ty2⟩) HS ?tr2)
 case ti2 => (simp only [List.getElem?_toArray, List.getElem?_cons_zero, List.getElem?_cons_succ] <;> rfl)
 case tq2 => exact fun _ _ _ h => h
 case tw2 => rfl
 case ty2 => (intro w' hSw; have g0' := below_cell hSw g0 (Array.getElem?_eq_some_iff.1 q0).1; have g1' := below_cell hSw g1 (Array.getElem?_eq_some_iff.1 q0).1; have g2' := below_cell hSw g2 (Array.getElem?_eq_some_iff.1 q0).1; have g3' := below_cell hSw g3 (Array.getElem?_eq_some_iff.1 q0).1; go_simp <;> with_reducible rfl)
 try simp only [Act.put, List.setIfInBounds_toArray, List.set_cons_zero, List.set_cons_succ]
 refine wpAnyH_ready (rs := [3, 8]) (by kernel_rfl) (by simp) ?_
 (refine AllReadyH.cons (o := ?soa3) ?sia3 (fun K hK => ?ssa3) ?sma3)
 case sia3 => (simp only [List.getElem?_toArray, List.getElem?_cons_zero, List.getElem?_cons_succ] <;> rfl)
 case ssa3 =>
  refine goes_ Tryz.func134 (by kernel_rfl) rfl #[.agg #[.int .i64 kind, .string sv, .slice A2 l2.length c2, .slice A3 l3.length c3]] (by rfl) rfl rfl (by simp [Act.eval, Act.put]) ?_
  refine (value_Texts.calls k kind sv A2 c2 l2 A3 c3 l3 t _ (Kd.C_below H2.out HS) K2.out (Kd.C_below H3.out HS) K3.out HT.out).mono ?_
  rintro e w2 ⟨v0, rfl, hrow, hb2⟩
  obtain ⟨A, c, rfl, hlc, hC⟩ := Kd.R_reads hrow
  refine ⟨_, rfl, ?_⟩
  refine hK.out _ _ ?_ (fun HS => ?_)
  · exact below_step HS hb2
  try simp only [Act.put, List.setIfInBounds_toArray, List.set_cons_zero, List.set_cons_succ]
  refine wpAnyH_ready (rs := [4, 8]) (by kernel_rfl) (by simp) ?_
  (refine AllReadyH.cons (o := ?soa4) ?sia4 (fun K hK => ?ssa4) ?sma4)
  case sia4 => (simp only [List.getElem?_toArray, List.getElem?_cons_zero, List.getElem?_cons_succ] <;> rfl)
  case ssa4 =>
   refine goes_ Tryz.func159 (by kernel_rfl) rfl #[.int .i64 kind, .slice A t.length c] (by rfl) rfl rfl (by simp [Act.eval, Act.put]) ?_
   refine (value_Of.calls kind A c t r' b _ (hC) hlc HO.out).mono ?_
   rintro e w3 ⟨V2, V3, rfl, hR2, hR3, hb3⟩
   obtain ⟨Ap, Mp, cp, hV⟩ : ∃ Av Mv cv, V2 = .slice Av Mv cv := (let ⟨A, c, e⟩ := Kd.R_slice hR2; ⟨A, _, c, e⟩)
   subst hV
   obtain ⟨Aq, Mq, cq, hV⟩ : ∃ Av Mv cv, V3 = .slice Av Mv cv := (let ⟨A, c, e⟩ := Kd.R_slice hR3; ⟨A, _, c, e⟩)
   subst hV
   refine ⟨_, rfl, ?_⟩
   refine hK.out _ _ ?_ (fun HS => ?_)
   · exact below_step HS hb3
   try simp only [Act.put, List.setIfInBounds_toArray, List.set_cons_zero, List.set_cons_succ]
   (refine wpAnyH_take (i := 5) (oi := ?tpa5) (v := ?tva5) ?tia5 (by kernel_rfl) (by kernel_rfl) (by kernel_rfl) ?tqa5 (Or.inl ⟨?twa5, ?tya5⟩) HS ?tra5)
   case tia5 => (simp only [List.getElem?_toArray, List.getElem?_cons_zero, List.getElem?_cons_succ] <;> rfl)
   case tqa5 => exact fun _ _ _ h => h
   case twa5 => rfl
   case tya5 => (intro w' hSw; go_simp <;> with_reducible rfl)
   try simp only [Act.put, List.setIfInBounds_toArray, List.set_cons_zero, List.set_cons_succ]
   (refine wpAnyH_take (i := 6) (oi := ?tpa6) (v := ?tva6) ?tia6 (by kernel_rfl) (by kernel_rfl) (by kernel_rfl) ?tqa6 (Or.inl ⟨?twa6, ?tya6⟩) HS ?tra6)
   case tia6 => (simp only [List.getElem?_toArray, List.getElem?_cons_zero, List.getElem?_cons_succ] <;> rfl)
   case tqa6 => exact fun _ _ _ h => h
   case twa6 => rfl
   case tya6 => (intro w' hSw; go_simp <;> with_reducible rfl)
   try simp only [Act.put, List.setIfInBounds_toArray, List.set_cons_zero, List.set_cons_succ]
   (refine wpAnyH_take (i := 7) (oi := ?tpa7) (v := ?tva7) ?tia7 (by kernel_rfl) (by kernel_rfl) (by kernel_rfl) ?tqa7 (Or.inl ⟨?twa7, ?tya7⟩) HS ?tra7)
   case tia7 => (simp only [List.getElem?_toArray, List.getElem?_cons_zero, List.getElem?_cons_succ] <;> rfl)
   case tqa7 => exact fun _ _ _ h => h
   case twa7 => rfl
   case tya7 => (intro w' hSw; go_simp <;> with_reducible rfl)
   try simp only [Act.put, List.setIfInBounds_toArray, List.set_cons_zero, List.set_cons_succ]
   refine wpAnyH_ready (rs := [8]) (by kernel_rfl) (by simp) ?_
   (refine AllReadyH.cons (o := ?soa8) ?sia8 (fun K hK => ?ssa8) ?sma8)
   case sia8 => (simp only [List.getElem?_toArray, List.getElem?_cons_zero, List.getElem?_cons_succ] <;> rfl)
   case ssa8 =>
    rw [if_pos (by rfl)]
    go_simp
    refine hK.out _ _ ?_ (fun HS => ?_)
    · exact HS.alloc HS.size _
    try simp only [Act.put, List.setIfInBounds_toArray, List.set_cons_zero, List.set_cons_succ]
    refine wpAnyH_ready (rs := [9]) (by kernel_rfl) (by simp) ?_
    (refine AllReadyH.cons (o := ?soaa9) ?siaa9 (fun K hK => ?ssaa9) ?smaa9)
    case siaa9 => (simp only [List.getElem?_toArray, List.getElem?_cons_zero, List.getElem?_cons_succ] <;> rfl)
    case ssaa9 =>
     refine step_store_box (by rfl) 44 (.tmp 3) (.tmp 11) rfl (w3.heap.size) 44 #[.int .i64 0, .string ⟨#[]⟩, .slice none 0 0, .slice none 0 0] #[.int .i64 r'.f0, .string r'.f1, .slice Ap Mp cp, .slice Aq Mq cq] (by rfl) (by rfl) (alloc_at rfl) (by rfl) (by kernel_rfl) (by simp [Value.oneCell']) ?_
     intro w5 hx5 hgr5 hsz5
     refine hK.out _ _ ?_ (fun HS => ?_)
     · exact below_grown HS (by have a1 : w1.heap.size ≤ w2.heap.size := hb2.size; have a2 := hb3.size; omega) hgr5 (Array.getElem?_eq_some_iff.1 (alloc_at rfl)).1
     try simp only [Act.put, List.setIfInBounds_toArray, List.set_cons_zero, List.set_cons_succ]
     (refine wpAnyH_take (i := 10) (oi := ?tpaa10) (v := ?tvaa10) ?tiaa10 (by kernel_rfl) (by kernel_rfl) (by kernel_rfl) ?tqaa10 (Or.inl ⟨?twaa10, ?tyaa10⟩) HS ?traa10)
     case tiaa10 => (simp only [List.getElem?_toArray, List.getElem?_cons_zero, List.getElem?_cons_succ] <;> rfl)
     case tqaa10 => exact fun _ _ _ h => h
     case twaa10 => rfl
     case tyaa10 => (intro w' hSw; go_simp <;> with_reducible rfl)
     try simp only [Act.put, List.setIfInBounds_toArray, List.set_cons_zero, List.set_cons_succ]
     refine wpAnyH_done (by kernel_rfl) ?_ _
     have hd := hx5
     have he := (HS.block (w.heap.size + 1) (by omega)).trans q1
     have d0 := Lib.cell_of_heap hd 0
     have d1 := Lib.cell_of_heap hd 1
     have d2 := Lib.cell_of_heap hd 2
     have d3 := Lib.cell_of_heap hd 3
     have c0 := Lib.cell_of_heap he 0
     have c1 := Lib.cell_of_heap he 1
     have c2 := Lib.cell_of_heap he 2
     have c3 := Lib.cell_of_heap he 3
     simp only [List.getElem?_toArray, List.getElem?_cons_zero, List.getElem?_cons_succ] at d0 d1 d2 d3 c0 c1 c2 c3
     have f0 := Lib.frozen_of_heap he 0
     have f1 := Lib.frozen_of_heap he 1
     have f2 := Lib.frozen_of_heap he 2
     have f3 := Lib.frozen_of_heap he 3
     have a1 : w1.heap.size ≤ w2.heap.size := hb2.size
     have HSF := Lib.hid (canon_fin (w5 := w5) (g := w.heap.size + 1) (low := w.heap.size) hR2 hR3 (fun k _ hl => (below_grown ((Below.refl _ w3).alloc (Nat.le_refl _) _) (Nat.le_refl _) hgr5 (by rw [World.size_alloc]; exact Nat.lt_succ_self _)).block k hl) (by first | omega | (simp only [World.size_alloc]; omega)) (by first | omega | (simp only [World.size_alloc]; omega)) (.int .i64 r'.f0) (.string r'.f1) (.slice Ap Mp cp) (.slice Aq Mq cq))
     have HBF := Lib.hid (below_put4 (g := w.heap.size + 1) (below_step HB.out HS) (by omega) (.int .i64 r'.f0) (.string r'.f1) (.slice Ap Mp cp) (.slice Aq Mq cq))
     have HPF := Lib.hid (put4 he (.int .i64 r'.f0) (.string r'.f1) (.slice Ap Mp cp) (.slice Aq Mq cq))
     clear hd he hx5 hgr5 hsz5 HS
     go_wp2
     refine bodyPost_ret (results_cell_row rfl _ _ (w.heap.size + 1) 44 #[.int .i64 r'.f0, .string r'.f1, .slice Ap Mp cp, .slice Aq Mq cq] (0, 0) _ rfl HPF.out Tryz.underlying44 rfl (by kernel_rfl)) rfl ?_
     exact ⟨_, rfl, HSF.out, HBF.out⟩
    exact AllReadyH.nil
   exact AllReadyH.nil
  (refine AllReadyH.cons (o := ?sob8) ?sib8 (fun K hK => ?ssb8) ?smb8)
  case sib8 => (simp only [List.getElem?_toArray, List.getElem?_cons_zero, List.getElem?_cons_succ] <;> rfl)
  case ssb8 =>
   rw [if_pos (by rfl)]
   go_simp
   refine hK.out _ _ ?_ (fun HS => ?_)
   · exact HS.alloc HS.size _
   try simp only [Act.put, List.setIfInBounds_toArray, List.set_cons_zero, List.set_cons_succ]
   refine wpAnyH_ready (rs := [4]) (by kernel_rfl) (by simp) ?_
   (refine AllReadyH.cons (o := ?sob4) ?sib4 (fun K hK => ?ssb4) ?smb4)
   case sib4 => (simp only [List.getElem?_toArray, List.getElem?_cons_zero, List.getElem?_cons_succ] <;> rfl)
   case ssb4 =>
    refine goes_ Tryz.func159 (by kernel_rfl) rfl #[.int .i64 kind, .slice A t.length c] (by rfl) rfl rfl (by simp [Act.eval, Act.put]) ?_
    refine (value_Of.calls kind A c t r' b _ (Kd.C_below hC ((Below.refl _ _).alloc (Nat.le_refl _) _)) hlc HO.out).mono ?_
    rintro e w3 ⟨V2, V3, rfl, hR2, hR3, hb3⟩
    obtain ⟨Ap, Mp, cp, hV⟩ : ∃ Av Mv cv, V2 = .slice Av Mv cv := (let ⟨A, c, e⟩ := Kd.R_slice hR2; ⟨A, _, c, e⟩)
    subst hV
    obtain ⟨Aq, Mq, cq, hV⟩ : ∃ Av Mv cv, V3 = .slice Av Mv cv := (let ⟨A, c, e⟩ := Kd.R_slice hR3; ⟨A, _, c, e⟩)
    subst hV
    refine ⟨_, rfl, ?_⟩
    refine hK.out _ _ ?_ (fun HS => ?_)
    · exact below_step HS hb3
    try simp only [Act.put, List.setIfInBounds_toArray, List.set_cons_zero, List.set_cons_succ]
    (refine wpAnyH_take (i := 5) (oi := ?tpb5) (v := ?tvb5) ?tib5 (by kernel_rfl) (by kernel_rfl) (by kernel_rfl) ?tqb5 (Or.inl ⟨?twb5, ?tyb5⟩) HS ?trb5)
    case tib5 => (simp only [List.getElem?_toArray, List.getElem?_cons_zero, List.getElem?_cons_succ] <;> rfl)
    case tqb5 => exact fun _ _ _ h => h
    case twb5 => rfl
    case tyb5 => (intro w' hSw; go_simp <;> with_reducible rfl)
    try simp only [Act.put, List.setIfInBounds_toArray, List.set_cons_zero, List.set_cons_succ]
    (refine wpAnyH_take (i := 6) (oi := ?tpb6) (v := ?tvb6) ?tib6 (by kernel_rfl) (by kernel_rfl) (by kernel_rfl) ?tqb6 (Or.inl ⟨?twb6, ?tyb6⟩) HS ?trb6)
    case tib6 => (simp only [List.getElem?_toArray, List.getElem?_cons_zero, List.getElem?_cons_succ] <;> rfl)
    case tqb6 => exact fun _ _ _ h => h
    case twb6 => rfl
    case tyb6 => (intro w' hSw; go_simp <;> with_reducible rfl)
    try simp only [Act.put, List.setIfInBounds_toArray, List.set_cons_zero, List.set_cons_succ]
    (refine wpAnyH_take (i := 7) (oi := ?tpb7) (v := ?tvb7) ?tib7 (by kernel_rfl) (by kernel_rfl) (by kernel_rfl) ?tqb7 (Or.inl ⟨?twb7, ?tyb7⟩) HS ?trb7)
    case tib7 => (simp only [List.getElem?_toArray, List.getElem?_cons_zero, List.getElem?_cons_succ] <;> rfl)
    case tqb7 => exact fun _ _ _ h => h
    case twb7 => rfl
    case tyb7 => (intro w' hSw; go_simp <;> with_reducible rfl)
    try simp only [Act.put, List.setIfInBounds_toArray, List.set_cons_zero, List.set_cons_succ]
    refine wpAnyH_ready (rs := [9]) (by kernel_rfl) (by simp) ?_
    (refine AllReadyH.cons (o := ?soab9) ?siab9 (fun K hK => ?ssab9) ?smab9)
    case siab9 => (simp only [List.getElem?_toArray, List.getElem?_cons_zero, List.getElem?_cons_succ] <;> rfl)
    case ssab9 =>
     refine step_store_box (by rfl) 44 (.tmp 3) (.tmp 11) rfl (w2.heap.size) 44 #[.int .i64 0, .string ⟨#[]⟩, .slice none 0 0, .slice none 0 0] #[.int .i64 r'.f0, .string r'.f1, .slice Ap Mp cp, .slice Aq Mq cq] (by rfl) (by rfl) ((hb3.block _ (by simp)).trans (alloc_at rfl)) (by rfl) (by kernel_rfl) (by simp [Value.oneCell']) ?_
     intro w5 hx5 hgr5 hsz5
     refine hK.out _ _ ?_ (fun HS => ?_)
     · exact below_grown HS (hb2.size : w1.heap.size ≤ w2.heap.size) hgr5 (Array.getElem?_eq_some_iff.1 ((hb3.block _ (by simp)).trans (alloc_at rfl))).1
     try simp only [Act.put, List.setIfInBounds_toArray, List.set_cons_zero, List.set_cons_succ]
     (refine wpAnyH_take (i := 10) (oi := ?tpab10) (v := ?tvab10) ?tiab10 (by kernel_rfl) (by kernel_rfl) (by kernel_rfl) ?tqab10 (Or.inl ⟨?twab10, ?tyab10⟩) HS ?trab10)
     case tiab10 => (simp only [List.getElem?_toArray, List.getElem?_cons_zero, List.getElem?_cons_succ] <;> rfl)
     case tqab10 => exact fun _ _ _ h => h
     case twab10 => rfl
     case tyab10 => (intro w' hSw; go_simp <;> with_reducible rfl)
     try simp only [Act.put, List.setIfInBounds_toArray, List.set_cons_zero, List.set_cons_succ]
     refine wpAnyH_done (by kernel_rfl) ?_ _
     have hd := hx5
     have he := (HS.block (w.heap.size + 1) (by omega)).trans q1
     have d0 := Lib.cell_of_heap hd 0
     have d1 := Lib.cell_of_heap hd 1
     have d2 := Lib.cell_of_heap hd 2
     have d3 := Lib.cell_of_heap hd 3
     have c0 := Lib.cell_of_heap he 0
     have c1 := Lib.cell_of_heap he 1
     have c2 := Lib.cell_of_heap he 2
     have c3 := Lib.cell_of_heap he 3
     simp only [List.getElem?_toArray, List.getElem?_cons_zero, List.getElem?_cons_succ] at d0 d1 d2 d3 c0 c1 c2 c3
     have f0 := Lib.frozen_of_heap he 0
     have f1 := Lib.frozen_of_heap he 1
     have f2 := Lib.frozen_of_heap he 2
     have f3 := Lib.frozen_of_heap he 3
     have a1 : w1.heap.size ≤ w2.heap.size := hb2.size
     have HSF := Lib.hid (canon_fin (w5 := w5) (g := w.heap.size + 1) (low := w.heap.size) hR2 hR3 (fun k hk hl => hgr5.block k hl (fun e => by cases e; simp only [World.size_alloc] at hk; omega)) (by first | omega | (simp only [World.size_alloc]; omega)) (by first | omega | (simp only [World.size_alloc]; omega)) (.int .i64 r'.f0) (.string r'.f1) (.slice Ap Mp cp) (.slice Aq Mq cq))
     have HBF := Lib.hid (below_put4 (g := w.heap.size + 1) (below_step HB.out HS) (by omega) (.int .i64 r'.f0) (.string r'.f1) (.slice Ap Mp cp) (.slice Aq Mq cq))
     have HPF := Lib.hid (put4 he (.int .i64 r'.f0) (.string r'.f1) (.slice Ap Mp cp) (.slice Aq Mq cq))
     clear hd he hx5 hgr5 hsz5 HS
     go_wp2
     refine bodyPost_ret (results_cell_row rfl _ _ (w.heap.size + 1) 44 #[.int .i64 r'.f0, .string r'.f1, .slice Ap Mp cp, .slice Aq Mq cq] (0, 0) _ rfl HPF.out Tryz.underlying44 rfl (by kernel_rfl)) rfl ?_
     exact ⟨_, rfl, HSF.out, HBF.out⟩
    exact AllReadyH.nil
   exact AllReadyH.nil
  exact AllReadyH.nil
 (refine AllReadyH.cons (o := ?soc8) ?sic8 (fun K hK => ?ssc8) ?smc8)
 case sic8 => (simp only [List.getElem?_toArray, List.getElem?_cons_zero, List.getElem?_cons_succ] <;> rfl)
 case ssc8 =>
  rw [if_pos (by rfl)]
  go_simp
  refine hK.out _ _ ?_ (fun HS => ?_)
  · exact HS.alloc HS.size _
  try simp only [Act.put, List.setIfInBounds_toArray, List.set_cons_zero, List.set_cons_succ]
  refine wpAnyH_ready (rs := [3]) (by kernel_rfl) (by simp) ?_
  (refine AllReadyH.cons (o := ?soc3) ?sic3 (fun K hK => ?ssc3) ?smc3)
  case sic3 => (simp only [List.getElem?_toArray, List.getElem?_cons_zero, List.getElem?_cons_succ] <;> rfl)
  case ssc3 =>
   refine goes_ Tryz.func134 (by kernel_rfl) rfl #[.agg #[.int .i64 kind, .string sv, .slice A2 l2.length c2, .slice A3 l3.length c3]] (by rfl) rfl rfl (by simp [Act.eval, Act.put]) ?_
   refine (value_Texts.calls k kind sv A2 c2 l2 A3 c3 l3 t _ (Kd.C_below H2.out HS) K2.out (Kd.C_below H3.out HS) K3.out HT.out).mono ?_
   rintro e w2 ⟨v0, rfl, hrow, hb2⟩
   obtain ⟨A, c, rfl, hlc, hC⟩ := Kd.R_reads hrow
   refine ⟨_, rfl, ?_⟩
   refine hK.out _ _ ?_ (fun HS => ?_)
   · exact below_step HS hb2
   try simp only [Act.put, List.setIfInBounds_toArray, List.set_cons_zero, List.set_cons_succ]
   refine wpAnyH_ready (rs := [4]) (by kernel_rfl) (by simp) ?_
   (refine AllReadyH.cons (o := ?soc4) ?sic4 (fun K hK => ?ssc4) ?smc4)
   case sic4 => (simp only [List.getElem?_toArray, List.getElem?_cons_zero, List.getElem?_cons_succ] <;> rfl)
   case ssc4 =>
    refine goes_ Tryz.func159 (by kernel_rfl) rfl #[.int .i64 kind, .slice A t.length c] (by rfl) rfl rfl (by simp [Act.eval, Act.put]) ?_
    refine (value_Of.calls kind A c t r' b _ (hC) hlc HO.out).mono ?_
    rintro e w3 ⟨V2, V3, rfl, hR2, hR3, hb3⟩
    obtain ⟨Ap, Mp, cp, hV⟩ : ∃ Av Mv cv, V2 = .slice Av Mv cv := (let ⟨A, c, e⟩ := Kd.R_slice hR2; ⟨A, _, c, e⟩)
    subst hV
    obtain ⟨Aq, Mq, cq, hV⟩ : ∃ Av Mv cv, V3 = .slice Av Mv cv := (let ⟨A, c, e⟩ := Kd.R_slice hR3; ⟨A, _, c, e⟩)
    subst hV
    refine ⟨_, rfl, ?_⟩
    refine hK.out _ _ ?_ (fun HS => ?_)
    · exact below_step HS hb3
    try simp only [Act.put, List.setIfInBounds_toArray, List.set_cons_zero, List.set_cons_succ]
    (refine wpAnyH_take (i := 5) (oi := ?tpc5) (v := ?tvc5) ?tic5 (by kernel_rfl) (by kernel_rfl) (by kernel_rfl) ?tqc5 (Or.inl ⟨?twc5, ?tyc5⟩) HS ?trc5)
    case tic5 => (simp only [List.getElem?_toArray, List.getElem?_cons_zero, List.getElem?_cons_succ] <;> rfl)
    case tqc5 => exact fun _ _ _ h => h
    case twc5 => rfl
    case tyc5 => (intro w' hSw; go_simp <;> with_reducible rfl)
    try simp only [Act.put, List.setIfInBounds_toArray, List.set_cons_zero, List.set_cons_succ]
    (refine wpAnyH_take (i := 6) (oi := ?tpc6) (v := ?tvc6) ?tic6 (by kernel_rfl) (by kernel_rfl) (by kernel_rfl) ?tqc6 (Or.inl ⟨?twc6, ?tyc6⟩) HS ?trc6)
    case tic6 => (simp only [List.getElem?_toArray, List.getElem?_cons_zero, List.getElem?_cons_succ] <;> rfl)
    case tqc6 => exact fun _ _ _ h => h
    case twc6 => rfl
    case tyc6 => (intro w' hSw; go_simp <;> with_reducible rfl)
    try simp only [Act.put, List.setIfInBounds_toArray, List.set_cons_zero, List.set_cons_succ]
    (refine wpAnyH_take (i := 7) (oi := ?tpc7) (v := ?tvc7) ?tic7 (by kernel_rfl) (by kernel_rfl) (by kernel_rfl) ?tqc7 (Or.inl ⟨?twc7, ?tyc7⟩) HS ?trc7)
    case tic7 => (simp only [List.getElem?_toArray, List.getElem?_cons_zero, List.getElem?_cons_succ] <;> rfl)
    case tqc7 => exact fun _ _ _ h => h
    case twc7 => rfl
    case tyc7 => (intro w' hSw; go_simp <;> with_reducible rfl)
    try simp only [Act.put, List.setIfInBounds_toArray, List.set_cons_zero, List.set_cons_succ]
    refine wpAnyH_ready (rs := [9]) (by kernel_rfl) (by simp) ?_
    (refine AllReadyH.cons (o := ?soac9) ?siac9 (fun K hK => ?ssac9) ?smac9)
    case siac9 => (simp only [List.getElem?_toArray, List.getElem?_cons_zero, List.getElem?_cons_succ] <;> rfl)
    case ssac9 =>
     refine step_store_box (by rfl) 44 (.tmp 3) (.tmp 11) rfl (w.heap.size + 2) 44 #[.int .i64 0, .string ⟨#[]⟩, .slice none 0 0, .slice none 0 0] #[.int .i64 r'.f0, .string r'.f1, .slice Ap Mp cp, .slice Aq Mq cq] (by rfl) (by rfl) ((hb3.block _ (Nat.lt_of_lt_of_le (by simp; omega) hb2.size)).trans ((hb2.block _ (by simp; omega)).trans (alloc_at hsz1.symm))) (by rfl) (by kernel_rfl) (by simp [Value.oneCell']) ?_
     intro w5 hx5 hgr5 hsz5
     refine hK.out _ _ ?_ (fun HS => ?_)
     · exact below_grown HS (by omega) hgr5 (Array.getElem?_eq_some_iff.1 ((hb3.block _ (Nat.lt_of_lt_of_le (by simp; omega) hb2.size)).trans ((hb2.block _ (by simp; omega)).trans (alloc_at hsz1.symm)))).1
     try simp only [Act.put, List.setIfInBounds_toArray, List.set_cons_zero, List.set_cons_succ]
     (refine wpAnyH_take (i := 10) (oi := ?tpac10) (v := ?tvac10) ?tiac10 (by kernel_rfl) (by kernel_rfl) (by kernel_rfl) ?tqac10 (Or.inl ⟨?twac10, ?tyac10⟩) HS ?trac10)
     case tiac10 => (simp only [List.getElem?_toArray, List.getElem?_cons_zero, List.getElem?_cons_succ] <;> rfl)
     case tqac10 => exact fun _ _ _ h => h
     case twac10 => rfl
     case tyac10 => (intro w' hSw; go_simp <;> with_reducible rfl)
     try simp only [Act.put, List.setIfInBounds_toArray, List.set_cons_zero, List.set_cons_succ]
     refine wpAnyH_done (by kernel_rfl) ?_ _
     have hd := hx5
     have he := (HS.block (w.heap.size + 1) (by omega)).trans q1
     have d0 := Lib.cell_of_heap hd 0
     have d1 := Lib.cell_of_heap hd 1
     have d2 := Lib.cell_of_heap hd 2
     have d3 := Lib.cell_of_heap hd 3
     have c0 := Lib.cell_of_heap he 0
     have c1 := Lib.cell_of_heap he 1
     have c2 := Lib.cell_of_heap he 2
     have c3 := Lib.cell_of_heap he 3
     simp only [List.getElem?_toArray, List.getElem?_cons_zero, List.getElem?_cons_succ] at d0 d1 d2 d3 c0 c1 c2 c3
     have f0 := Lib.frozen_of_heap he 0
     have f1 := Lib.frozen_of_heap he 1
     have f2 := Lib.frozen_of_heap he 2
     have f3 := Lib.frozen_of_heap he 3
     have a1 : w.heap.size + 3 ≤ w2.heap.size := by have := hb2.size; simp at this; omega
     have HSF := Lib.hid (canon_fin (w5 := w5) (g := w.heap.size + 1) (low := w.heap.size) hR2 hR3 (fun k hk hl => hgr5.block k hl (fun e => by cases e; omega)) (by first | omega | (simp only [World.size_alloc]; omega)) (by first | omega | (simp only [World.size_alloc]; omega)) (.int .i64 r'.f0) (.string r'.f1) (.slice Ap Mp cp) (.slice Aq Mq cq))
     have HBF := Lib.hid (below_put4 (g := w.heap.size + 1) (below_step HB.out HS) (by omega) (.int .i64 r'.f0) (.string r'.f1) (.slice Ap Mp cp) (.slice Aq Mq cq))
     have HPF := Lib.hid (put4 he (.int .i64 r'.f0) (.string r'.f1) (.slice Ap Mp cp) (.slice Aq Mq cq))
     clear hd he hx5 hgr5 hsz5 HS
     go_wp2
     refine bodyPost_ret (results_cell_row rfl _ _ (w.heap.size + 1) 44 #[.int .i64 r'.f0, .string r'.f1, .slice Ap Mp cp, .slice Aq Mq cq] (0, 0) _ rfl HPF.out Tryz.underlying44 rfl (by kernel_rfl)) rfl ?_
     exact ⟨_, rfl, HSF.out, HBF.out⟩
    exact AllReadyH.nil
   exact AllReadyH.nil
  exact AllReadyH.nil
 exact AllReadyH.nil
end Go.Proofs.YtlocbpaikdgmbaaGreatDoor.P
end
section
namespace Go.Proofs.YtlocbpaikdgmbaaGreatDoor.P
open Go Go.RowKit Go.Shelf Go.Proofs.YtlocbpaikdgmbaaGreatDoorW.PrintWords Go.Proofs.YtlocbpaikdgmbaaGreatDoorW.PrintLast Go.Proofs.YtlocbpaikdgmbaaGreatDoorW.PrintMore
set_option linter.unusedVariables false
set_option linter.unusedSimpArgs false
attribute [local go_sem] Oper.semAt_some
structure BindX (w : World) (xs : List S46) where
 k : Nat
 lt : k < xs.length
 A2 : Option Addr
 c2 : Nat
 A3 : Option Addr
 c3 : Nat
 l2 : (rd_T46 xs k).f1.f2.length ≤ c2
 C2 : Kd.C Kd.string w A2 (rd_T46 xs k).f1.f2.length (rd_T46 xs k).f1.f2
 l3 : (rd_T46 xs k).f1.f3.length ≤ c3
 C3 : Kd.C k154 w A3 (rd_T46 xs k).f1.f3.length (rd_T46 xs k).f1.f3
def bindC {w : World} {xs : List S46} (x : BindX w xs) : Array Value := #[.string (rd_T46 xs x.k).f0, .int .i64 (rd_T46 xs x.k).f1.f0, .string (rd_T46 xs x.k).f1.f1, .slice x.A2 (rd_T46 xs x.k).f1.f2.length x.c2, .slice x.A3 (rd_T46 xs x.k).f1.f3.length x.c3]
def bindE {w : World} {xs : List S46} (x : BindX w xs) : Array Value := #[.int .i64 (x.k : Int), .agg (bindC x)]
theorem range'_snoc_rev (k m : Nat) : (List.range' (k + 1) m).reverse ++ [k] = (List.range' k (m + 1)).reverse := by
 rw [List.range'_succ, List.reverse_cons]
set_option maxRecDepth 100000 in
set_option maxHeartbeats 2000000 in
theorem backward1 (n l Bs : Nat) (S : Nat → Prop) (A : Option Addr) (c : Nat) (xs : List S46) (w0 W : World) (J Jx : List (BindX w0 xs) → World → Prop) (hlen : xs.length < 8796093022208) (hn : 1 ≤ n)
 (hY : ∀ pre x W, J pre W → pre.length < xs.length → YieldAt Fence.wide (n - 1) Tryz.prog l (bindE x) W fun e W' =>
  (e = .returned (.bool true) ∧ J (pre ++ [x]) W' ∧ KeepB S W W') ∨ (e = .returned (.bool false) ∧ Jx (pre ++ [x]) W'))
 (hb : Below w0.heap.size w0 W) (hS : ∀ k, k < w0.heap.size → S k) (hSB : S Bs) (hC : Kd.C k46 w0 A xs.length xs) (hBs : W.cell? ⟨Bs, 0, none⟩ = some (.slice A xs.length c)) (h0 : J [] W) :
 CallsIn Fence.wide n Tryz.prog 158 #[.func (.yield l) #[] #[], .pointer (some ⟨Bs, 0, none⟩)] W fun e W' => (∃ v, e = .returned v) ∧
  ((∃ ys, ys.map (·.k) = (List.range xs.length).reverse ∧ J ys W') ∨ (∃ pre, True ∧ Jx pre W')) := by
 refine callsIn_of_wp Tryz.func158 rfl trivial ?_ rfl
 simp only [Tryz.ntmps158, List.size_toArray, List.length_cons, List.length_nil, Nat.reduceAdd, Nat.reduceSub, Array.replicate_succ, Array.replicate_zero, List.push_toArray, List.append_toArray, List.nil_append, List.cons_append]
 have HC := Lib.hid hC
 have HL := Lib.hid hlen
 clear hC
 gi_wp2
 gi_loopw [3] (fun i wr => ∃ (m : Nat) (ys : List (BindX w0 xs)), m ≤ xs.length ∧ i = .int .i64 ((m : Int) - 1) ∧ Hid (ys.map (·.k) = (List.range' m (xs.length - m)).reverse) ∧ J ys wr ∧ Hid (KeepB S W wr))
  (fun i _ => (intOf i + 1).toNat)
 case atStart => exact ⟨xs.length, [], Nat.le_refl _, rfl, Lib.hid (by rw [Nat.sub_self]; rfl), h0, Lib.hid (KeepB.refl _ _)⟩
 case round =>
  obtain ⟨m, ys, hm, rfl, HY, hJs, HK⟩ := hrel
  have hbs := HK.out.cell (p := ⟨Bs, 0, none⟩) hSB hBs
  cases m with
  | zero =>
   gi_wp2
   go_end0
   refine ⟨⟨_, rfl⟩, .inl ⟨ys, ?_, hJs⟩⟩
   rw [HY.out, Nat.sub_zero, List.range_eq_range']
  | succ j =>
   have hbw : Below w0.heap.size w0 wr := hb.trans (HK.out.below hS hb.size)
   obtain ⟨ad, A3, c3, A4, c4, rfl, x0, x1, x2, x3, x4, l3, g3, l4, g4⟩ := at_T46 HC.out (j : Int) (by omega) (by omega)
   simp only [Int.toNat_natCast] at x0 x1 x2 x3 x4
   have hblk : (ad.add (j * 5)).block < w0.heap.size := World.block_lt_of_cell? w0 _ x0
   have y0 := below_cell hbw x0 hblk
   have y1 := below_cell hbw x1 hblk
   have y2 := below_cell hbw x2 hblk
   have y3 := below_cell hbw x3 hblk
   have y4 := below_cell hbw x4 hblk
   clear x0 x1 x2 x3 x4
   have hlen2 : ys.length < xs.length := by
    have := congrArg List.length HY.out
    rw [List.length_map, List.length_reverse, List.length_range'] at this
    omega
   obtain ⟨fn, tmps, assign, body, hy, hR⟩ := hY ys ⟨j, by omega, A3, c3, A4, c4, l3, g3, l4, g4⟩ wr hJs hlen2
   dsimp only [bindE, bindC] at hy
   have e1 : ((j + 1 : Nat) : Int) - 1 = (j : Int) := by omega
   rw [e1]
   clear hlen2
   have e2 : xs.length - j = (xs.length - (j + 1)) + 1 := by omega
   gi_wp2
   refine hR.mono ?_
   rintro e W3 (⟨rfl, hJ3, hk3⟩ | ⟨rfl, hJx3⟩)
   · gi_wp2
     go_roundw
     case rel => exact ⟨j, _, by omega, rfl, Lib.hid (by rw [List.map_append, HY.out, e2]; exact range'_snoc_rev _ _), hJ3, Lib.hid (HK.out.trans hk3)⟩
     case measure => simp [intOf]
   · gi_wp2
     refine bodyPost_ret (results_none rfl _ _ _) rfl ?_
     exact ⟨⟨_, rfl⟩, .inr ⟨_, trivial, hJx3⟩⟩
theorem backward_in (A : Option Addr) (n c : Nat) (w : World) :
 Calls Tryz.prog 131 #[.slice A n c] w fun e w' => e = .returned (.func (.func 158) #[] #[.pointer (some ⟨w.heap.size, 0, none⟩)]) ∧ w' = w.alloc (.cells #[.slice A n c] 23) := by
 go_enter Tryz.func131, Tryz.ntmps131
 go_wp2
 go_ret
 exact ⟨rfl, rfl⟩
theorem backward_stops (n Bs : Nat) (S : Nat → Prop) (A : Option Addr) (c : Nat) (xs : List S46) (w0 w : World) (hlen : xs.length < 8796093022208) (hn : 1 ≤ n) (hb : Below w0.heap.size w0 w) (hS : ∀ k, k < w0.heap.size → S k) (hSB : S Bs) (hBl : Bs < w.heap.size)
 (hC : Kd.C k46 w0 A xs.length xs) (hBs : w.cell? ⟨Bs, 0, none⟩ = some (.slice A xs.length c)) :
 SeqStopsK Fence.wide n Tryz.prog 158 #[.pointer (some ⟨Bs, 0, none⟩)] (fun x : BindX w0 xs => bindE x) (KeepB S) (fun ys => ys.map (·.k) = (List.range xs.length).reverse) (fun _ => True) xs.length w := fun l J Jx W hW _ _ hY h0 =>
 backward1 n l Bs S A c xs w0 W J Jx hlen hn hY (hb.trans (hW.mono hb.size)) hS hSB hC ((hW.cell (p := ⟨Bs, 0, none⟩) hBl).trans hBs) h0
end Go.Proofs.YtlocbpaikdgmbaaGreatDoor.P
end
section
namespace Go.Proofs.YtlocbpaikdgmbaaGreatDoor.P
open Go Go.MapKept Go.ChangeMaps
set_option linter.unusedVariables false
set_option linter.unusedSimpArgs false
variable {P : Program} {w : World} {r : Nat}
def MapS (w : World) (r : Nat) (H : ByteArray → Value → Prop) : Prop :=
 ∃ (es : Array MapEntry) (clock : Nat), w.heap[r]? = some (.map es clock) ∧ (∀ x ∈ es.toList, IsKey .string x.key) ∧ es.toList.Pairwise (fun a b => a.key ≠ b.key) ∧ ∀ s v, H s v ↔ ∃ x ∈ es.toList, x.key = .string s ∧ x.val = v
theorem MapS.lt {H : ByteArray → Value → Prop} (h : MapS w r H) : r < w.heap.size := by
 obtain ⟨es, clock, h1, -⟩ := h
 exact (Array.getElem?_eq_some_iff.1 h1).1
theorem MapS.same {w' : World} {H : ByteArray → Value → Prop} (h : MapS w r H) (e : w'.heap[r]? = w.heap[r]?) : MapS w' r H := by
 obtain ⟨es, clock, h1, h2⟩ := h
 exact ⟨es, clock, e.trans h1, h2⟩
theorem MapS.made (w : World) : MapS (w.alloc (.map #[] 0)) w.heap.size (fun _ _ => False) :=
 ⟨#[], 0, (MapKept.heap_alloc w _).1, by simp, by simp, fun s v => by simp⟩
theorem pair_key {es : List MapEntry} (hp : es.Pairwise (fun a b => a.key ≠ b.key)) {x y : MapEntry} (hx : x ∈ es) (hy : y ∈ es) (h : x.key = y.key) : x = y := by
 induction es with
 | nil => cases hx
 | cons a l ih =>
  rw [List.pairwise_cons] at hp
  rcases List.mem_cons.1 hx with e1 | hx
  · rcases List.mem_cons.1 hy with e2 | hy
    · rw [e1, e2]
    · rw [e1] at h
      exact absurd h (hp.1 y hy)
  · rcases List.mem_cons.1 hy with e2 | hy
    · rw [e2] at h
      exact absurd h.symm (hp.1 x hx)
    · exact ih hp.2 hx hy
theorem MapS.lookup {H : ByteArray → Value → Prop} (h : MapS w r H) {t k e : TypeId} (ht : P.underlying t = some (.map k e)) (hk : P.underlying k = some .string) {z : Value} (hz : (zeroValue e).run P w = .ok z w) (s : ByteArray) :
 ((Instr.lookup t (.map (some r)) (.string s) true).run P w = .ok (.tuple #[z, .bool false]) w ∧ ∀ v, ¬ H s v) ∨ ∃ v, H s v ∧ (Instr.lookup t (.map (some r)) (.string s) true).run P w = .ok (.tuple #[v, .bool true]) w := by
 obtain ⟨es, clock, h1, h2, h3, h4⟩ := h
 have hkey : IsKey .string (.string s) := trivial
 rcases findNow_spec hkey es.toList 0 h2 with ⟨g1, g2⟩ | ⟨j, e0, g1, g2, g3⟩
 · refine .inl ⟨?_, fun v hv => ?_⟩
   · simp [Instr.lookup, run_underlying ht, MapKept.run_getObj_map h1, run_checkKey hk hkey, run_findKey hk g1, hz, Result.andThen]
   · obtain ⟨x, hx, hx2, -⟩ := (h4 s v).1 hv
     exact g2 x hx hx2
 · refine .inr ⟨e0.val, (h4 s _).2 ⟨e0, List.mem_of_getElem? g2, g3, rfl⟩, ?_⟩
   simp [Instr.lookup, run_underlying ht, MapKept.run_getObj_map h1, run_checkKey hk hkey, run_findKey hk g1, Result.andThen]
theorem grown_set (w : World) (r : Nat) (o : Obj) : w.grownBy (setBlock w r o) (some r) :=
 ⟨rfl, rfl, rfl, by simp [setBlock], fun k hk hne => by
  unfold setBlock
  exact Array.getElem?_setIfInBounds_ne (fun e => hne (by rw [e]))⟩
theorem MapS.update {H : ByteArray → Value → Prop} (h : MapS w r H) {t k e : TypeId} (ht : P.underlying t = some (.map k e)) (hk : P.underlying k = some .string) (s : ByteArray) (v : Value) :
 ∃ w', (Instr.mapUpdate t (.map (some r)) (.string s) v).run P w = .ok () w' ∧ MapS w' r (fun s' v' => (s' = s ∧ v' = v) ∨ (s' ≠ s ∧ H s' v')) ∧ w.grownBy w' (some r) := by
 obtain ⟨es, clock, h1, h2, h3, h4⟩ := h
 have hkey : IsKey .string (.string s) := trivial
 rcases findNow_spec hkey es.toList 0 h2 with ⟨g1, g2⟩ | ⟨j, e0, g1, g2, g3⟩
 · refine ⟨setBlock w r (.map (es.push ⟨.string s, v, clock⟩) (clock + 1)), ?_, ⟨es.push ⟨.string s, v, clock⟩, clock + 1, (heap_set h1).1, ?_, ?_, ?_⟩, grown_set w r _⟩
   · simp [Instr.mapUpdate, run_underlying ht, MapKept.run_getObj_map h1, run_checkKey hk hkey, run_findKey hk g1, MapKept.run_setObj_map _ h1, Result.andThen, setBlock]
   · intro x hx
     simp only [Array.toList_push, List.mem_append, List.mem_singleton] at hx
     rcases hx with hx | rfl
     · exact h2 x hx
     · exact hkey
   · rw [Array.toList_push, List.pairwise_append]
     refine ⟨h3, by simp, fun a ha b hb => ?_⟩
     rw [List.mem_singleton] at hb
     rw [hb]
     exact g2 a ha
   · intro s' v'
     rw [Array.toList_push]
     constructor
     · rintro (⟨rfl, rfl⟩ | ⟨hne, hh⟩)
       · exact ⟨_, List.mem_append.2 (.inr (List.mem_singleton.2 rfl)), rfl, rfl⟩
       · obtain ⟨x, hx, hx2⟩ := (h4 s' v').1 hh
         exact ⟨x, List.mem_append.2 (.inl hx), hx2⟩
     · rintro ⟨x, hx, hx2, hx3⟩
       rcases List.mem_append.1 hx with hx | hx
       · refine .inr ⟨fun e => ?_, (h4 s' v').2 ⟨x, hx, hx2, hx3⟩⟩
         rw [e] at hx2
         exact g2 x hx hx2
       · rw [List.mem_singleton] at hx
         subst hx
         injection hx2 with hx2
         exact .inl ⟨hx2.symm, hx3.symm⟩
 · have hj : es[j]? = some e0 := by simpa using g2
   have hjl : j < es.toList.length := (List.getElem?_eq_some_iff.1 g2).1
   have hm0 : e0 ∈ es.toList := List.mem_of_getElem? g2
   have hkeyf : ∀ e', es[j]? = some e' → ({ e' with key := .string s, val := v } : MapEntry).key = e'.key := fun e' he' => by rw [hj] at he'; cases he'; exact g3.symm
   have hset : (es.modify j fun e' => { e' with key := .string s, val := v }).toList = es.toList.set j { e0 with key := .string s, val := v } := by
    rw [Array.toList_modify, modify_eq_set _ _ _ _ g2]
   refine ⟨setBlock w r (.map (es.modify j fun e' => { e' with key := .string s, val := v }) clock), ?_, ⟨_, clock, (heap_set h1).1, isKey_modify h2 _ _ hkeyf, ?_, ?_⟩, grown_set w r _⟩
   · simp [Instr.mapUpdate, run_underlying ht, MapKept.run_getObj_map h1, run_checkKey hk hkey, run_findKey hk g1, hj, g3, run_keyThatStays hkey, MapKept.run_setObj_map _ h1, Result.andThen, setBlock]
   · have hkeys := modify_keys j (fun e' : MapEntry => { e' with key := .string s, val := v }) hkeyf
     have h3' : (es.toList.map (·.key)).Pairwise (· ≠ ·) := by rw [List.pairwise_map]; exact h3
     rw [← hkeys, List.pairwise_map] at h3'
     exact h3'
   · intro s' v'
     rw [hset]
     have hmem : ∀ x, x ∈ es.toList.set j { e0 with key := .string s, val := v } ↔ x = { e0 with key := .string s, val := v } ∨ (x ∈ es.toList ∧ x ≠ e0) := by
      intro x
      constructor
      · intro hx
        rw [List.mem_iff_getElem?] at hx
        obtain ⟨i, hi⟩ := hx
        rw [List.getElem?_set] at hi
        by_cases hij : j = i
        · subst hij
          rw [if_pos rfl, if_pos hjl] at hi
          exact .inl (Option.some.inj hi).symm
        · rw [if_neg hij] at hi
          refine .inr ⟨List.mem_of_getElem? hi, fun e => ?_⟩
          subst e
          obtain ⟨hi1, hi2⟩ := List.getElem?_eq_some_iff.1 hi
          obtain ⟨hj1, hj2⟩ := List.getElem?_eq_some_iff.1 g2
          have := List.pairwise_iff_getElem.1 h3
          rcases Nat.lt_or_gt_of_ne hij with hlt | hlt
          · exact this j i hj1 hi1 hlt (by rw [hi2, hj2])
          · exact this i j hi1 hj1 hlt (by rw [hi2, hj2])
      · rintro (rfl | ⟨hx, hne⟩)
        · exact List.mem_set hjl _
        · obtain ⟨i, hi⟩ := List.mem_iff_getElem?.1 hx
          refine List.mem_iff_getElem?.2 ⟨i, ?_⟩
          rw [List.getElem?_set]
          by_cases hij : j = i
          · subst hij
            rw [g2] at hi
            exact absurd (Option.some.inj hi).symm hne
          · rw [if_neg hij]
            exact hi
     constructor
     · rintro (⟨rfl, rfl⟩ | ⟨hne, hh⟩)
       · exact ⟨_, (hmem _).2 (.inl rfl), rfl, rfl⟩
       · obtain ⟨x, hx, hx2, hx3⟩ := (h4 s' v').1 hh
         refine ⟨x, (hmem _).2 (.inr ⟨hx, fun e => ?_⟩), hx2, hx3⟩
         rw [e, g3] at hx2
         injection hx2 with hx2
         exact hne hx2.symm
     · rintro ⟨x, hx, hx2, hx3⟩
       rcases (hmem x).1 hx with rfl | ⟨hx, hne⟩
       · injection hx2 with hx2
         exact .inl ⟨hx2.symm, hx3.symm⟩
       · refine .inr ⟨fun e => ?_, (h4 s' v').2 ⟨x, hx, hx2, hx3⟩⟩
         rw [e] at hx2
         exact hne (pair_key h3 hx hm0 (hx2.trans g3.symm))
theorem MapS.delete {H : ByteArray → Value → Prop} (h : MapS w r H) {t k e ty : TypeId} (ht : P.underlying t = some (.map k e)) (hk : P.underlying k = some .string) (s : ByteArray) :
 ∃ w', (Builtin.delete_ #[t, k] ty #[.map (some r), .string s]).run P w = .ok (.tuple #[]) w' ∧ MapS w' r (fun s' v' => s' ≠ s ∧ H s' v') ∧ w.grownBy w' (some r) := by
 obtain ⟨es, clock, h1, h2, h3, h4⟩ := h
 have hkey : IsKey .string (.string s) := trivial
 rcases findNow_spec hkey es.toList 0 h2 with ⟨g1, g2⟩ | ⟨j, e0, g1, g2, g3⟩
 · refine ⟨setBlock w r (.map es clock), ?_, ⟨es, clock, (heap_set h1).1, h2, h3, fun s' v' => ?_⟩, grown_set w r _⟩
   · simp [Builtin.delete_, run_underlying ht, MapKept.run_getObj_map h1, run_checkKey hk hkey, run_findKey hk g1, MapKept.run_setObj_map _ h1, Result.andThen, setBlock]
   · show (s' ≠ s ∧ H s' v') ↔ _
     rw [h4]
     refine ⟨fun hh => hh.2, fun hh => ⟨fun e => ?_, hh⟩⟩
     obtain ⟨x, hx, hx2, -⟩ := hh
     rw [e] at hx2
     exact g2 x hx hx2
 · have hjl : j < es.toList.length := (List.getElem?_eq_some_iff.1 g2).1
   have hjs : j < es.size := by simpa using hjl
   have hm0 : e0 ∈ es.toList := List.mem_of_getElem? g2
   have hsub : (es.eraseIdxIfInBounds j).toList = es.toList.eraseIdx j := by
    unfold Array.eraseIdxIfInBounds
    rw [dif_pos hjs]
    simp
   have hsl : (es.toList.eraseIdx j).Sublist es.toList := List.eraseIdx_sublist _ _
   refine ⟨setBlock w r (.map (es.eraseIdxIfInBounds j) clock), ?_, ⟨es.eraseIdxIfInBounds j, clock, (heap_set h1).1, ?_, ?_, ?_⟩, grown_set w r _⟩
   · simp [Builtin.delete_, run_underlying ht, MapKept.run_getObj_map h1, run_checkKey hk hkey, run_findKey hk g1, MapKept.run_setObj_map _ h1, Result.andThen, setBlock]
   · rw [hsub]
     exact fun x hx => h2 x (hsl.subset hx)
   · rw [hsub]
     exact h3.sublist hsl
   · intro s' v'
     rw [hsub]
     show (s' ≠ s ∧ H s' v') ↔ _
     rw [h4]
     have hmem : ∀ x, x ∈ es.toList.eraseIdx j ↔ x ∈ es.toList ∧ x ≠ e0 := by
      intro x
      have hp : es.toList.Perm (e0 :: es.toList.eraseIdx j) := by
       have := (set_perm es.toList j hjl e0)
       rwa [show es.toList.set j e0 = es.toList from by
        apply List.ext_getElem?
        intro i
        rw [List.getElem?_set]
        by_cases hij : j = i
        · subst hij
          rw [if_pos rfl, if_pos hjl, g2]
        · rw [if_neg hij]] at this
      have hnd : (e0 :: es.toList.eraseIdx j).Pairwise (fun a b => a.key ≠ b.key) := hp.pairwise h3 (fun h => h.symm)
      rw [List.pairwise_cons] at hnd
      constructor
      · intro hx
        exact ⟨hsl.subset hx, fun e => hnd.1 x hx (by rw [e])⟩
      · rintro ⟨hx, hne⟩
        rcases List.mem_cons.1 (hp.mem_iff.1 hx) with e | hx
        · exact absurd e hne
        · exact hx
     constructor
     · rintro ⟨hne, x, hx, hx2, hx3⟩
       refine ⟨x, (hmem x).2 ⟨hx, fun e => ?_⟩, hx2, hx3⟩
       rw [e, g3] at hx2
       injection hx2 with hx2
       exact hne hx2.symm
     · rintro ⟨x, hx, hx2, hx3⟩
       obtain ⟨hx, hne⟩ := (hmem x).1 hx
       refine ⟨fun e => ?_, x, hx, hx2, hx3⟩
       rw [e] at hx2
       exact hne (pair_key h3 hx hm0 (hx2.trans g3.symm))
end Go.Proofs.YtlocbpaikdgmbaaGreatDoor.P
end
section
namespace Go.Proofs.YtlocbpaikdgmbaaGreatDoor.P
open Go.RowKit Go.Proofs.YtlocbpaikdgmbaaGreatDoorW.PrintWords Go.Proofs.YtlocbpaikdgmbaaGreatDoorW.PrintLast Go.Proofs.YtlocbpaikdgmbaaGreatDoorW.PrintMore
attribute [local go_sem] max2_int min2_int max_two min_two max_three min_three max_four min_four
set_option linter.unusedVariables false
set_option linter.unusedSimpArgs false
def value_Defined.f (k : Nat) (a0_0 : Int) (a0_1 : ByteArray) (l0_2 : List ByteArray) (l0_3 : List (S154)) : Option (Bool) := (value_Texts.f k a0_0 a0_1 l0_2 l0_3).bind fun t687 => (some (decide ((t687.length : Int) > 0)))
set_option maxHeartbeats 8000000 in
set_option maxRecDepth 100000 in
theorem value_Defined.calls (k : Nat) (a0_0 : Int) (a0_1 : ByteArray) (A0_2 : Option Addr) (c0_2 : Nat) (l0_2 : List ByteArray) (A0_3 : Option Addr) (c0_3 : Nat) (l0_3 : List (S154)) (r : Bool) (w : World) (hr0_2 : Kd.C Kd.string w A0_2 l0_2.length l0_2) (hc0_2 : l0_2.length ≤ c0_2) (hr0_3 : Kd.C k154 w A0_3 l0_3.length l0_3) (hc0_3 : l0_3.length ≤ c0_3) (h : value_Defined.f k a0_0 a0_1 l0_2 l0_3 = some r) :
 Calls Tryz.prog 108 #[.agg #[.int .i64 a0_0, .string a0_1, .slice A0_2 l0_2.length c0_2, .slice A0_3 l0_3.length c0_3]] w fun e w' => e = .returned (.bool r) ∧ Below w.heap.size w w' := by
 have hu44 := Tryz.underlying44
 have HR0_2 := Aside0.mk hr0_2
 have HC0_2 := Aside0.mk hc0_2
 clear hr0_2 hc0_2
 have HR0_3 := Aside0.mk hr0_3
 have HC0_3 := Aside0.mk hc0_3
 clear hr0_3 hc0_3
 have HB := Aside0.mk (Below.refl w.heap.size w)
 have H : ((value_Texts.f k a0_0 a0_1 l0_2 l0_3).bind fun t687 => (some (decide ((t687.length : Int) > 0)))) = some r := h
 clear h
 replace H := Option.bind_eq_some_iff.mp H
 obtain ⟨t687, A20, H⟩ := H
 replace H : (some (decide ((t687.length : Int) > 0))) = some r := H
 have A2 := Aside0.mk A20
 clear A20
 obtain rfl := Option.some.inj H
 go_enter Tryz.func108, Tryz.ntmps108
 go_wp2_with (first | ((with_reducible refine gate_dst (N := 1) rfl ?_); refine box_event ?hg (N := 1) ?hd (cs := #[.int .i64 a0_0, .string a0_1, .slice A0_2 l0_2.length c0_2, .slice A0_3 l0_3.length c0_3]) (t := 44) ?hr ?_; (case hd => rfl); (case hg => rfl); (case hr => first | (go_simp; done) | (go_simp; rfl)); intro gb686 hg w3 hbox hb; have n0_ := Aside0.mk (below_step (by repeat (first | (with_reducible first | exact HB.out | apply below_alloc | apply pw_below_drewN | apply below_drew1) | exact HB.out)) hb); have n1_ := Aside0.mk (hbox); have n2_ := Aside0.mk ((by rw [hg]; exact (below_size (by repeat (first | (with_reducible first | exact HB.out | apply below_alloc | apply pw_below_drewN | apply below_drew1) | exact HB.out))) : w.heap.size ≤ gb686)); have n3_ := Aside0.mk ((by rw [hg]; exact (below_size (by repeat (first | (with_reducible first | exact HB.out | apply below_alloc | apply pw_below_drewN | apply below_drew1) | exact HB.out))) : w.heap.size ≤ gb686)); clear HB; have HB := n0_; have BK686 := n1_; have GW686 := n2_; have GE686 := n3_; clear n0_ n1_ n2_ n3_; clear hb hbox hg; have hcz4_0 : w3.cell? ⟨gb686, 0, none⟩ = some (.int .i64 a0_0) := (blk_cell BK686.out 0).trans rfl; have hcz4_1 : w3.cell? ⟨gb686, 1, none⟩ = some (.string a0_1) := (blk_cell BK686.out 1).trans rfl; have hcz4_2 : w3.cell? ⟨gb686, 2, none⟩ = some (.slice A0_2 l0_2.length c0_2) := (blk_cell BK686.out 2).trans rfl; have hcz4_3 : w3.cell? ⟨gb686, 3, none⟩ = some (.slice A0_3 l0_3.length c0_3) := (blk_cell BK686.out 3).trans rfl; have hfz4_0 := blk_frozen BK686.out 0; have hfz4_1 := blk_frozen BK686.out 1; have hfz4_2 := blk_frozen BK686.out 2; have hfz4_3 := blk_frozen BK686.out 3) | ((with_reducible refine gate_callee (f := 134) rfl ?_); refine goesL_ (some 4) rfl rfl Tryz.func134 (by kernel_rfl) rfl #[.agg #[.int .i64 a0_0, .string a0_1, .slice A0_2 l0_2.length c0_2, .slice A0_3 l0_3.length c0_3]] rfl (by (try simp only [List.map_toArray, List.map_cons, List.map_nil]); first | done | rfl | (simp only [List.length_drop, List.length_take]; rfl)) ?_; (with_reducible refine (value_Texts.calls k a0_0 a0_1 _ _ l0_2 _ _ l0_3 t687 _ ?side1 ?side2 ?side3 ?side4 A2.out).mono ?_); (case side1 => repeat (first | exact (Kd.C_below HR0_2.out HB.out) | (with_reducible refine Kd.C_alloc ?_ _) | (with_reducible refine Kd.C_drewN ?_ _) | (with_reducible refine Kd.C_drew ?_))); (case side2 => exact HC0_2.out); (case side3 => repeat (first | exact (Kd.C_below HR0_3.out HB.out) | (with_reducible refine Kd.C_alloc ?_ _) | (with_reducible refine Kd.C_drewN ?_ _) | (with_reducible refine Kd.C_drew ?_))); (case side4 => exact HC0_3.out); rintro e w5 ⟨v688, rfl, ho0, hb⟩; refine ⟨_, rfl, ?_⟩; have n0_ := Aside0.mk (Kd.R_lower ho0 (below_size (by repeat (first | (with_reducible first | exact HB.out | apply below_alloc | apply pw_below_drewN | apply below_drew1 | refine below_set ?_ GE686.out) | exact HB.out)))); have n1_ := Aside0.mk (blk_below (g := gb686) (o := .cells #[.int .i64 a0_0, .string a0_1, .slice A0_2 l0_2.length c0_2, .slice A0_3 l0_3.length c0_3] 44 (0, 0)) (by (with_reducible repeat (first | refine blk_drewN ?_ _ | refine blk_drew ?_ | refine blk_alloc ?_ _)); exact BK686.out) hb); have n2_ := Aside0.mk (below_step (by repeat (first | (with_reducible first | exact HB.out | apply below_alloc | apply pw_below_drewN | apply below_drew1 | refine below_set ?_ GE686.out) | exact HB.out)) hb); clear BK686; clear HB; have HO689 := n0_; have BK686 := n1_; have HB := n2_; clear n0_ n1_ n2_; (try clear hb); (try clear hb2); (try clear hk); (try clear hi); (try clear ho0); obtain ⟨Ao6, co6, eo6⟩ := Kd.R_slice HO689.out; subst eo6))
 go_ret
 exact ⟨by first | rfl | (simp [errW_none, errW_some] <;> rfl) | (simp [*, errW_none, errW_some] <;> rfl), by repeat (first | (with_reducible first | exact HB.out | apply below_alloc | apply pw_below_drewN | apply below_drew1 | refine below_set ?_ GE686.out) | exact HB.out)⟩
end Go.Proofs.YtlocbpaikdgmbaaGreatDoor.P
end
section
namespace Go.Proofs.YtlocbpaikdgmbaaGreatDoor.P
open Go Go.RowKit Go.Shelf Go.Proofs.YtlocbpaikdgmbaaGreatDoorW.PrintWords Go.Proofs.YtlocbpaikdgmbaaGreatDoorW.PrintLast Go.Proofs.YtlocbpaikdgmbaaGreatDoorW.PrintMore
set_option linter.unusedVariables false
set_option linter.unusedSimpArgs false
attribute [local go_sem] Oper.semAt_some
def getB (k : Nat) : List S46 → ByteArray → Option S44
 | [], _ => none
 | b :: r, s => if b.f0 = s then (if value_Defined.f k b.f1.f0 b.f1.f1 b.f1.f2 b.f1.f3 = some true then value_Canon.f k b.f1 else none) else getB k r s
def okB1 (k : Nat) (b : S46) : Prop := ∃ d, value_Defined.f k b.f1.f0 b.f1.f1 b.f1.f2 b.f1.f3 = some d ∧ (d = true → ∃ c, value_Canon.f k b.f1 = some c)
def MapX (k : Nat) (W : World) (base M : Nat) (a : List S46) : Prop :=
 ∃ H, MapS W M H ∧ (∀ s v, H s v → ∃ r, getB k a s = some r ∧ ValR W base r v) ∧ ∀ s r, getB k a s = some r → ∃ v, H s v
theorem ValR.kept {A B : World} {row : Option Nat} {base : Nat} {r : S44} {u : Value} (h : ValR A base r u) (hg : A.grownBy B row) (hr : ∀ k, row = some k → ∃ o : Obj, A.heap[k]? = some o ∧ o.isCells = false) : ValR B base r u :=
 h.step fun k _ _ ⟨c, t, hk⟩ => (heap_kept hk hg hr).trans hk.symm
theorem MapX.kept {k : Nat} {A B : World} {row : Option Nat} {base M : Nat} {a : List S46} (h : MapX k A base M a) (hg : A.grownBy B row) (hr : ∀ k, row = some k → ∃ o : Obj, A.heap[k]? = some o ∧ o.isCells = false) (hM : row ≠ some M) : MapX k B base M a := by
 obtain ⟨H, h1, h2, h3⟩ := h
 exact ⟨H, h1.same (hg.block M h1.lt (fun e => hM e.symm)), fun s v hv => let ⟨r, e, hr'⟩ := h2 s v hv; ⟨r, e, hr'.kept hg hr⟩, h3⟩
theorem MapX.below {k : Nat} {A B : World} {base M : Nat} {a : List S46} (h : MapX k A base M a) (hb : Below A.heap.size A B) : MapX k B base M a := by
 obtain ⟨H, h1, h2, h3⟩ := h
 exact ⟨H, h1.same (hb.block M h1.lt), fun s v hv => let ⟨r, e, hr'⟩ := h2 s v hv; ⟨r, e, hr'.below hb⟩, h3⟩
theorem MapX.made (k : Nat) (w : World) (base : Nat) : MapX k (w.alloc (.map #[] 0)) base w.heap.size [] := ⟨_, MapS.made w, fun s v h => h.elim, fun s r h => by cases h⟩
theorem MapX.put {k : Nat} {A B : World} {base M : Nat} {a : List S46} {b : S46} {r : S44} {v : Value} (h : MapX k A base M a) (hd : value_Defined.f k b.f1.f0 b.f1.f1 b.f1.f2 b.f1.f3 = some true) (hc : value_Canon.f k b.f1 = some r) (hv : ValR A base r v)
 {H' : ByteArray → Value → Prop} (hB : MapS B M H') (hH : ∀ H, MapS A M H → ∀ s' v', H' s' v' ↔ (s' = b.f0 ∧ v' = v) ∨ (s' ≠ b.f0 ∧ H s' v')) (hg : A.grownBy B (some M)) : MapX k B base M (b :: a) := by
 obtain ⟨H, h1, h2, h3⟩ := h
 have hk : ∀ k, some M = some k → ∃ o : Obj, A.heap[k]? = some o ∧ o.isCells = false := by
  intro j e
  cases e
  obtain ⟨es, cl, h0, -⟩ := h1
  exact ⟨_, h0, rfl⟩
 refine ⟨H', hB, fun s u hu => ?_, fun s x hx => ?_⟩
 · rcases (hH H h1 s u).1 hu with ⟨rfl, rfl⟩ | ⟨hne, hh⟩
   · exact ⟨r, by unfold getB; rw [if_pos rfl, if_pos hd, hc], hv.kept hg hk⟩
   · obtain ⟨x, hx, hxr⟩ := h2 s u hh
     exact ⟨x, by unfold getB; rw [if_neg (fun e => hne e.symm), hx], hxr.kept hg hk⟩
 · unfold getB at hx
   by_cases e : b.f0 = s
   · exact ⟨v, (hH H h1 s v).2 (.inl ⟨e.symm, rfl⟩)⟩
   · rw [if_neg e] at hx
     obtain ⟨u, hu⟩ := h3 s x hx
     exact ⟨u, (hH H h1 s u).2 (.inr ⟨fun e' => e e'.symm, hu⟩)⟩
theorem MapX.drop {k : Nat} {A B : World} {base M : Nat} {a : List S46} {b : S46} (h : MapX k A base M a) (hd : value_Defined.f k b.f1.f0 b.f1.f1 b.f1.f2 b.f1.f3 = some false)
 {H' : ByteArray → Value → Prop} (hB : MapS B M H') (hH : ∀ H, MapS A M H → ∀ s' v', H' s' v' ↔ s' ≠ b.f0 ∧ H s' v') (hg : A.grownBy B (some M)) : MapX k B base M (b :: a) := by
 obtain ⟨H, h1, h2, h3⟩ := h
 have hk : ∀ k, some M = some k → ∃ o : Obj, A.heap[k]? = some o ∧ o.isCells = false := by
  intro j e
  cases e
  obtain ⟨es, cl, h0, -⟩ := h1
  exact ⟨_, h0, rfl⟩
 refine ⟨H', hB, fun s u hu => ?_, fun s x hx => ?_⟩
 · obtain ⟨hne, hh⟩ := (hH H h1 s u).1 hu
   obtain ⟨x, hx, hxr⟩ := h2 s u hh
   exact ⟨x, by unfold getB; rw [if_neg (fun e => hne e.symm), hx], hxr.kept hg hk⟩
 · unfold getB at hx
   by_cases e : b.f0 = s
   · rw [if_pos e, if_neg (by rw [hd]; decide)] at hx
     cases hx
   · rw [if_neg e] at hx
     obtain ⟨u, hu⟩ := h3 s x hx
     exact ⟨u, (hH H h1 s u).2 ⟨fun e' => e e'.symm, hu⟩⟩
theorem MapS.uniq {w : World} {r : Nat} {H H' : ByteArray → Value → Prop} (h : MapS w r H) (h' : MapS w r H') : ∀ s v, H s v ↔ H' s v := by
 obtain ⟨es, cl, h1, -, -, h4⟩ := h
 obtain ⟨es', cl', h1', -, -, h4'⟩ := h'
 rw [h1] at h1'
 injection h1' with h1'
 injection h1' with e1 e2
 subst e1
 exact fun s v => (h4 s v).trans (h4' s v).symm
def cameB {w : World} {xs : List S46} (pre : List (BindX w xs)) : List S46 := (pre.map fun x => rd_T46 xs x.k).reverse
theorem cameB_snoc {w : World} {xs : List S46} (pre : List (BindX w xs)) (x : BindX w xs) : cameB (pre ++ [x]) = rd_T46 xs x.k :: cameB pre := by
 unfold cameB
 rw [List.map_append, List.reverse_append]
 rfl
theorem cameB_all {w : World} {xs : List S46} {ys : List (BindX w xs)} (h : ys.map (·.k) = (List.range xs.length).reverse) : cameB ys = xs := by
 unfold cameB
 rw [show (ys.map fun x => rd_T46 xs x.k) = (ys.map (·.k)).map (fun (k : Nat) => rd_T46 xs (k : Int)) from by rw [List.map_map]; rfl, h, ← List.map_reverse, List.reverse_reverse]
 apply List.ext_getElem (by simp)
 intro i h1 h2
 simp [rd_T46, h2]
theorem bindX_mem {w : World} {xs : List S46} (x : BindX w xs) : rd_T46 xs (x.k : Int) ∈ xs := by
 have h := x.lt
 have e : rd_T46 xs (x.k : Int) = xs[x.k] := by simp [rd_T46, h]
 rw [e]
 exact List.getElem_mem h
theorem bindX_parts {w : World} {xs : List S46} (x : BindX w xs) : ∃ (nm sv : ByteArray) (kind : Int) (l2 : List ByteArray) (l3 : List S154) (A2 A3 : Option Addr) (c2 c3 : Nat), rd_T46 xs (x.k : Int) = ⟨nm, ⟨kind, sv, l2, l3⟩⟩ ∧
 bindC x = #[.string nm, .int .i64 kind, .string sv, .slice A2 l2.length c2, .slice A3 l3.length c3] ∧ l2.length ≤ c2 ∧ Kd.C Kd.string w A2 l2.length l2 ∧ l3.length ≤ c3 ∧ Kd.C k154 w A3 l3.length l3 :=
 ⟨_, _, _, _, _, _, _, _, _, rfl, rfl, x.l2, x.C2, x.l3, x.C3⟩
theorem step_mapUpdate {P : Program} {ops : Array Oper} {op : Oper} {a : Act} {w w' : World} {K : Act → World → Prop} {Q : Exit → Act → World → Prop} {E : Prop} (hw : Region.wanted op (yielded ops a.tmps) = true) (ty : TypeId) (x y z : Operand) (ho : op.op = .mapUpdate ty x y z)
 (hr : (Instr.mapUpdate ty (a.eval x) (a.eval y) (a.eval z)).run P w = .ok () w') (h : K (a.put op.dst undef) w') : if Region.wanted op (yielded ops a.tmps) = true then Oper.wp P op a w K Q else E := by
 rw [if_pos hw]
 unfold Oper.wp execOp
 simp only [ho, Sem.run_bind, Sem.run_pure, Result.andThen_ok, hr]
 exact h
def mapPost (k : Nat) (w : World) (xs : List S46) (e : Ending) (w' : World) : Prop := ∃ M, e = .returned (.map (some M)) ∧ MapX k w' w.heap.size M xs ∧ Below w.heap.size w w'
set_option maxRecDepth 100000 in
set_option maxHeartbeats 2000000 in
theorem bind_all.calls (k : Nat) (A : Option Addr) (c : Nat) (xs : List S46) (w : World) (hlen : xs.length < 8796093022208) (hr : Kd.C k46 w A xs.length xs) (hok : ∀ b ∈ xs, okB1 k b) :
 Calls Tryz.prog 106 #[.slice A xs.length c] w (mapPost k w xs) := by
 refine callsIn_wide.1 (callsIn_of_wp_marks (n := 4) Tryz.func106 rfl trivial ?_ rfl)
 simp only [Tryz.ntmps106, List.size_toArray, List.length_cons, List.length_nil, Nat.reduceAdd, Nat.reduceSub, Array.replicate_succ, Array.replicate_zero, List.push_toArray, List.append_toArray, List.nil_append, List.cons_append]
 refine wpIn_wide.2 ?_
 obtain ⟨Wl, hWl⟩ : ∃ W, W = ((w.alloc (.map #[] 0)).alloc (.cells #[.map (some w.heap.size)] 159)).alloc (.cells #[.slice A xs.length c] 23) := ⟨_, rfl⟩
 have hsz : Wl.heap.size = w.heap.size + 3 := by rw [hWl]; simp only [World.size_alloc]
 have q0 : MapX k Wl w.heap.size w.heap.size [] := by
  rw [hWl]
  exact ((MapX.made k w w.heap.size).below ((Below.refl _ _).alloc (Nat.le_refl _) _)).below ((Below.refl _ _).alloc (Nat.le_refl _) _)
 have q1 : Wl.heap[w.heap.size + 1]? = some (.cells #[.map (some w.heap.size)] 159 (0, 0)) := by rw [hWl]; exact alloc_old (alloc_at (by simp only [World.size_alloc]))
 have q2 : Wl.heap[w.heap.size + 2]? = some (.cells #[.slice A xs.length c] 23 (0, 0)) := by rw [hWl]; exact alloc_at (by simp only [World.size_alloc])
 have hB : Below w.heap.size w Wl := by rw [hWl]; exact (((Below.refl _ w).alloc (Nat.le_refl _) _).alloc (by simp) _).alloc (by simp; omega) _
 have hmm := @run_makeMap Tryz.prog
 have HW := Lib.hid hWl
 have HR := Lib.hid hr
 have HL := Lib.hid hlen
 have HOK := Lib.hid hok
 clear hr hlen hok hWl
 go_wp2_with (go_at_call 131; refine (backward_in _ _ _ _).mono ?_; rintro e w1 ⟨rfl, rfl⟩)
 rw [← HW.out]
 clear HW hmm
 refine (wpIn_wide (n := 4)).1 ?_
 refine' wpIn_rangeFunc_ownH (F := Fence.wide) (n := 4) rfl (by omega) (gf := 158) (lb := #[.pointer (some ⟨w.heap.size + 2, 0, none⟩)]) rfl trivial (enters_of Tryz.func158 (by kernel_rfl) rfl)
  (backward_stops 3 (w.heap.size + 2) (fun k => k < w.heap.size ∨ k = w.heap.size + 2) A c xs w Wl HL.out (by omega) hB (fun k hk => .inl hk) (.inr rfl) (by omega) HR.out (Lib.cell_of_heap q2 0))
  keepB_t (keepB_b (by intro k hk; have := hsz; omega)) (Below.refl _ _) (fun _ => rfl)
  (fun pre W => (MapX k W w.heap.size w.heap.size (cameB pre) ∧ W.heap[w.heap.size + 1]? = some (.cells #[.map (some w.heap.size)] 159 (0, 0)) ∧ W.heap[w.heap.size + 2]? = some (.cells #[.slice A xs.length c] 23 (0, 0))) ∧ Below w.heap.size w W)
  (fun _ _ _ => False)
  (OwnFrom.and (fun s X Y row hs hg hr => ⟨hs.1.kept hg (fun r e => (hr r e).2) (fun e => by have := (hr _ e).1; omega), heap_kept hs.2.1 hg (fun r e => (hr r e).2), heap_kept hs.2.2 hg (fun r e => (hr r e).2)⟩) (ownFrom_below (Nat.le_refl _) (by omega)))
  (fun _ _ _ _ _ hs _ _ => hs)
  ⟨⟨q0, q1, q2⟩, hB⟩
  (fun x a' W => ∃ Bx, W.heap[Bx]? = some (.cells (bindC x) 46 (0, 0)) ∧ a' = { tmps := #[.slice A xs.length c, undef, .map none, .pointer (some ⟨w.heap.size + 1, 0, none⟩), undef, .pointer (some ⟨Bx, 0, none⟩), .map (some w.heap.size), .slice A xs.length c, .func (.func 158) #[] #[.pointer (some ⟨w.heap.size + 2, 0, none⟩)], .int .i64 (x.k : Int), .agg (bindC x), undef, undef, undef, undef, undef, undef, undef, undef, undef, undef, undef, undef, undef], defers := [] })
  (fun x a' s X Y row hs hg hr => let ⟨Bx, h, e⟩ := hs; ⟨Bx, heap_kept h hg (fun r e => (hr r e).2), e⟩)
  ?assign ?body ?done ?stop
 case assign =>
  rintro lo pre x W K ⟨⟨hM, hx1, hx2⟩, hB1⟩ hK
  unfold bindE bindC at *
  gi_wp2
  exact hK _ _ ((KeepsOthers.alloc _ _).from _) (KeepB.of_new ((Below.refl _ _).alloc (Nat.le_refl _) _)) ⟨⟨hM.below ((Below.refl _ _).alloc (Nat.le_refl _) _), alloc_old hx1, alloc_old hx2⟩, hB1.alloc hB1.size _⟩ ⟨W.heap.size, alloc_at rfl, rfl⟩
 case body =>
  rintro lo pre x a' W hl _ ⟨⟨hM, hx1, hx2⟩, hB1⟩ ⟨Bx, hx, rfl⟩ hlt
  have hmem := bindX_mem x
  obtain ⟨nm, sv, kind, l2, l3, A2, A3, c2, c3, hrd, hbc, hc2, hC2, hc3, hC3⟩ := bindX_parts x
  rw [hbc] at hx ⊢
  obtain ⟨d, hd, hcan⟩ := HOK.out _ hmem
  rw [hrd] at hd hcan
  have HCM : Hid (cameB (pre ++ [x]) = ⟨nm, ⟨kind, sv, l2, l3⟩⟩ :: cameB pre) := Lib.hid (by rw [cameB_snoc, hrd])
  dsimp only at hd hcan
  have HC2 := Lib.hid (Kd.C_below hC2 hB1)
  have HC3 := Lib.hid (Kd.C_below hC3 hB1)
  have K2 := Lib.hid hc2
  have K3 := Lib.hid hc3
  have HD := Lib.hid hd
  have HCan := Lib.hid hcan
  have HM := Lib.hid hM
  have HX := Lib.hid hx
  have HX1 := Lib.hid hx1
  have HX2 := Lib.hid hx2
  have HB1 := Lib.hid hB1
  have y0 := Lib.cell_of_heap hx 0
  have y1 := Lib.cell_of_heap hx 1
  have y2 := Lib.cell_of_heap hx 2
  have y3 := Lib.cell_of_heap hx 3
  have y4 := Lib.cell_of_heap hx 4
  have m0 := Lib.cell_of_heap hx1 0
  simp only [List.getElem?_toArray, List.getElem?_cons_zero, List.getElem?_cons_succ] at y0 y1 y2 y3 y4 m0
  clear hx hx1 hx2 hM hd hcan hC2 hC3 hc2 hc3 hbc hmem hB1 hrd
  cases d with
  | false =>
   gi_wp2_with (refine ⟨trivial, ?_⟩; gi_at_call 108; refine (CallsIn.inRound lo (callsIn_wide.2 (value_Defined.calls k kind sv A2 c2 l2 A3 c3 l3 _ _ HC2.out K2.out HC3.out K3.out HD.out))).mono ?_; rintro e w1 ⟨rfl, hb1⟩; have HM1 := Lib.hid (HM.out.below hb1); have HX1a := Lib.hid ((hb1.block _ (Array.getElem?_eq_some_iff.1 HX1.out).1).trans HX1.out); have HX2a := Lib.hid ((hb1.block _ (Array.getElem?_eq_some_iff.1 HX2.out).1).trans HX2.out); have HXa := Lib.hid ((hb1.block _ (Array.getElem?_eq_some_iff.1 HX.out).1).trans HX.out); have HB2 := Lib.hid (HB1.out.trans (hb1.mono HB1.out.size)); have HKB := Lib.hid hb1; clear y0 y1 y2 y3 y4 m0 hb1; have y0 := Lib.cell_of_heap HXa.out 0; have y1 := Lib.cell_of_heap HXa.out 1; have y2 := Lib.cell_of_heap HXa.out 2; have y3 := Lib.cell_of_heap HXa.out 3; have y4 := Lib.cell_of_heap HXa.out 4; have m0 := Lib.cell_of_heap HX1a.out 0; simp only [List.getElem?_toArray, List.getElem?_cons_zero, List.getElem?_cons_succ] at y0 y1 y2 y3 y4 m0)
   obtain ⟨H, hS, -, -⟩ := id HM1.out
   obtain ⟨w2, hrun, hS2, hgr⟩ := hS.delete (P := Tryz.prog) (ty := 0) (t := 159) (k := 9) (e := 44) Tryz.underlying159 Tryz.underlying9 nm
   rw [hrun]
   gi_wp2
   refine show KeepsFrom Wl.heap.size W _ ∧ KeepB _ W _ ∧ _ ∧ _ from ⟨?_, ?_, ⟨?_, ?_, ?_⟩, ?_⟩
   · exact (keepsFrom_new HKB.out).trans (KeepsFrom.of_grownBy hgr (fun j e => by cases e; omega))
   · exact (KeepB.of_new HKB.out).grown hgr (fun j e hj => by cases e; rcases hj with hj | hj <;> omega)
   · rw [HCM.out]
     exact HM1.out.drop HD.out hS2 (fun H' h' s' v' => by rw [hS.uniq h' s' v']) hgr
   · exact (hgr.block _ (Array.getElem?_eq_some_iff.1 HX1a.out).1 (fun e => by injection e with e; omega)).trans HX1a.out
   · exact (hgr.block _ (Array.getElem?_eq_some_iff.1 HX2a.out).1 (fun e => by injection e with e; omega)).trans HX2a.out
   · exact HB2.out.grown hgr HB2.out.size (fun j e => by cases e; exact Nat.le_refl _)
  | true =>
   gi_wp2_with (refine ⟨trivial, ?_⟩; gi_at_call 108; refine (CallsIn.inRound lo (callsIn_wide.2 (value_Defined.calls k kind sv A2 c2 l2 A3 c3 l3 _ _ HC2.out K2.out HC3.out K3.out HD.out))).mono ?_; rintro e w1 ⟨rfl, hb1⟩; have HM1 := Lib.hid (HM.out.below hb1); have HX1a := Lib.hid ((hb1.block _ (Array.getElem?_eq_some_iff.1 HX1.out).1).trans HX1.out); have HX2a := Lib.hid ((hb1.block _ (Array.getElem?_eq_some_iff.1 HX2.out).1).trans HX2.out); have HXa := Lib.hid ((hb1.block _ (Array.getElem?_eq_some_iff.1 HX.out).1).trans HX.out); have HB2 := Lib.hid (HB1.out.trans (hb1.mono HB1.out.size)); have HKB := Lib.hid hb1; clear y0 y1 y2 y3 y4 m0 hb1; have y0 := Lib.cell_of_heap HXa.out 0; have y1 := Lib.cell_of_heap HXa.out 1; have y2 := Lib.cell_of_heap HXa.out 2; have y3 := Lib.cell_of_heap HXa.out 3; have y4 := Lib.cell_of_heap HXa.out 4; have m0 := Lib.cell_of_heap HX1a.out 0; simp only [List.getElem?_toArray, List.getElem?_cons_zero, List.getElem?_cons_succ] at y0 y1 y2 y3 y4 m0)
   obtain ⟨r, hr⟩ := HCan.out trivial
   have HR2 := Lib.hid hr
   clear hr
   have HBx : Bx ≠ w.heap.size := by intro e; obtain ⟨H, ⟨es, cl, h0, -⟩, -⟩ := HM1.out; have := HXa.out; rw [e, h0] at this; cases this
   refine wpIn_region_round (S := fun W' => KeepB (fun k => k ≠ w.heap.size) w1 W') (by kernel_rfl) (by rfl) (not_letsOut (fun _ _ h => h)) ?_
   have HS : KeepB (fun k => k ≠ w.heap.size) w1 w1.drew := .of_new (below_drew (Below.refl _ w1))
   (refine wpAnyH_take (i := 0) (oi := ?tp0) (v := ?tv0) ?ti0 (by kernel_rfl) (by kernel_rfl) (by kernel_rfl) ?tq0 (Or.inl ⟨?tw0, ?ty0⟩) HS ?tr0)
   case ti0 => (simp only [List.getElem?_toArray, List.getElem?_cons_zero, List.getElem?_cons_succ] <;> rfl)
   case tq0 => exact fun _ _ _ h => h
   case tw0 => rfl
   case ty0 => (intro w' hSw; have m0' := hSw.cell (by show w.heap.size + 1 ≠ w.heap.size; omega) m0; go_simp <;> with_reducible rfl)
   try simp only [Act.put, List.setIfInBounds_toArray, List.set_cons_zero, List.set_cons_succ]
   (refine wpAnyH_take (i := 1) (oi := ?tp1) (v := ?tv1) ?ti1 (by kernel_rfl) (by kernel_rfl) (by kernel_rfl) ?tq1 (Or.inl ⟨?tw1, ?ty1⟩) HS ?tr1)
   case ti1 => (simp only [List.getElem?_toArray, List.getElem?_cons_zero, List.getElem?_cons_succ] <;> rfl)
   case tq1 => exact fun _ _ _ h => h
   case tw1 => rfl
   case ty1 => (intro w' hSw; go_simp <;> with_reducible rfl)
   try simp only [Act.put, List.setIfInBounds_toArray, List.set_cons_zero, List.set_cons_succ]
   (refine wpAnyH_take (i := 2) (oi := ?tp2) (v := ?tv2) ?ti2 (by kernel_rfl) (by kernel_rfl) (by kernel_rfl) ?tq2 (Or.inl ⟨?tw2, ?ty2⟩) HS ?tr2)
   case ti2 => (simp only [List.getElem?_toArray, List.getElem?_cons_zero, List.getElem?_cons_succ] <;> rfl)
   case tq2 => exact fun _ _ _ h => h
   case tw2 => rfl
   case ty2 => (intro w' hSw; have y0' := hSw.cell HBx y0; go_simp <;> with_reducible rfl)
   try simp only [Act.put, List.setIfInBounds_toArray, List.set_cons_zero, List.set_cons_succ]
   (refine wpAnyH_take (i := 3) (oi := ?tp3) (v := ?tv3) ?ti3 (by kernel_rfl) (by kernel_rfl) (by kernel_rfl) ?tq3 (Or.inl ⟨?tw3, ?ty3⟩) HS ?tr3)
   case ti3 => (simp only [List.getElem?_toArray, List.getElem?_cons_zero, List.getElem?_cons_succ] <;> rfl)
   case tq3 => exact fun _ _ _ h => h
   case tw3 => rfl
   case ty3 => (intro w' hSw; go_simp <;> with_reducible rfl)
   try simp only [Act.put, List.setIfInBounds_toArray, List.set_cons_zero, List.set_cons_succ]
   (refine wpAnyH_take (i := 4) (oi := ?tp4) (v := ?tv4) ?ti4 (by kernel_rfl) (by kernel_rfl) (by kernel_rfl) ?tq4 (Or.inl ⟨?tw4, ?ty4⟩) HS ?tr4)
   case ti4 => (simp only [List.getElem?_toArray, List.getElem?_cons_zero, List.getElem?_cons_succ] <;> rfl)
   case tq4 => exact fun _ _ _ h => h
   case tw4 => rfl
   case ty4 => (intro w' hSw; have y1' := hSw.cell HBx y1; have y2' := hSw.cell HBx y2; have y3' := hSw.cell HBx y3; have y4' := hSw.cell HBx y4; go_simp <;> with_reducible rfl)
   try simp only [Act.put, List.setIfInBounds_toArray, List.set_cons_zero, List.set_cons_succ]
   refine wpAnyH_ready (rs := [5]) (by kernel_rfl) (by simp) ?_
   (refine AllReadyH.cons (o := ?so5) ?si5 (fun K hK => ?ss5) ?sm5)
   case si5 => (simp only [List.getElem?_toArray, List.getElem?_cons_zero, List.getElem?_cons_succ] <;> rfl)
   case ss5 =>
    refine goes_ Tryz.func132 (by kernel_rfl) rfl #[.agg #[.int .i64 kind, .string sv, .slice A2 l2.length c2, .slice A3 l3.length c3]] (by rfl) rfl rfl (by simp [Act.eval, Act.put]) ?_
    refine (value_Canon.calls k ⟨kind, sv, l2, l3⟩ r A2 c2 A3 c3 _ (Kd.C_below HC2.out (below_drew HKB.out)) K2.out (Kd.C_below HC3.out (below_drew HKB.out)) K3.out HR2.out).mono ?_
    rintro e w2 ⟨u, rfl, hV, hb2⟩
    refine ⟨_, rfl, ?_⟩
    refine hK.out _ _ ?_ (fun HS => ?_)
    · exact HS.trans (.of_new hb2)
    try simp only [Act.put, List.setIfInBounds_toArray, List.set_cons_zero, List.set_cons_succ]
    refine wpAnyH_ready (rs := [6]) (by kernel_rfl) (by simp) ?_
    (refine AllReadyH.cons (o := ?sox6) ?six6 (fun K hK => ?ssx6) ?smx6)
    case six6 => (simp only [List.getElem?_toArray, List.getElem?_cons_zero, List.getElem?_cons_succ] <;> rfl)
    case ssx6 =>
     have hb3 : Below w1.heap.size w1 w2 := below_step (below_drew (Below.refl _ w1)) hb2
     have hM2 := HM1.out.below hb3
     have hM3 := hM2
     obtain ⟨H, hS, -, -⟩ := hM3
     obtain ⟨w3, hrun, hS3, hgr⟩ := hS.update (P := Tryz.prog) (t := 159) (k := 9) (e := 44) Tryz.underlying159 Tryz.underlying9 nm u
     refine step_mapUpdate (by rfl) 159 (.tmp 14) (.tmp 16) (.tmp 19) rfl (w' := w3) (by exact hrun) ?_
     refine hK.out _ _ ?_ (fun HS => ?_)
     · exact HS.grown hgr (fun k e hk => by cases e; exact hk rfl)
     try simp only [Act.put, List.setIfInBounds_toArray, List.set_cons_zero, List.set_cons_succ]
     refine wpAnyH_done (by kernel_rfl) ?_ _
     have e1 := (hb3.block _ (Array.getElem?_eq_some_iff.1 HX1a.out).1).trans HX1a.out
     have e2 := (hb3.block _ (Array.getElem?_eq_some_iff.1 HX2a.out).1).trans HX2a.out
     refine show KeepsFrom Wl.heap.size W _ ∧ KeepB _ W _ ∧ _ ∧ _ from ⟨?_, ?_, ⟨?_, ?_, ?_⟩, ?_⟩
     · exact ((keepsFrom_new HKB.out).trans (keepsFrom_new hb3)).trans (KeepsFrom.of_grownBy hgr (fun j e => by cases e; omega))
     · exact ((KeepB.of_new HKB.out).trans (KeepB.of_new hb3)).grown hgr (fun j e hj => by cases e; rcases hj with hj | hj <;> omega)
     · rw [HCM.out]
       exact hM2.put HD.out HR2.out (hV.lower HB2.out.size) hS3 (fun H' h' s' v' => by rw [hS.uniq h' s' v']) hgr
     · exact (hgr.block _ (Array.getElem?_eq_some_iff.1 e1).1 (fun e => by injection e with e; omega)).trans e1
     · exact (hgr.block _ (Array.getElem?_eq_some_iff.1 e2).1 (fun e => by injection e with e; omega)).trans e2
     · exact (HB2.out.trans (hb3.mono HB2.out.size)).grown hgr (HB2.out.trans (hb3.mono HB2.out.size)).size (fun j e => by cases e; exact Nat.le_refl _)
    exact AllReadyH.nil
   exact AllReadyH.nil
 case done =>
  rintro D ys W hD hys ⟨⟨hM, hx1, hx2⟩, hB1⟩ hK
  rw [cameB_all hys] at hM
  have m0 := Lib.cell_of_heap hx1 0
  simp only [List.getElem?_toArray, List.getElem?_cons_zero, List.getElem?_cons_succ] at m0
  have HK := Lib.hid hK
  have HM := Lib.hid hM
  have HB1 := Lib.hid hB1
  clear hK hM hB1 hx1 hx2 hys
  go_wp2
  refine ⟨by simp, .inl ⟨_, _, rfl, run_takeDeferred HK.out, ?_⟩⟩
  exact ⟨_, results_tmp rfl _ _ _, w.heap.size, rfl, HM.out.kept (grownBy_putObj' W D (.deferred none)) (fun r e => by cases e; exact ⟨_, HK.out, rfl⟩) (fun e => by injection e with e; omega), HB1.out.trans (belowK_b (w := w) (Nat.le_refl _) W D _ _ (by omega) HK.out rfl rfl)⟩
 case stop =>
  rintro D c pre W hD _ h _
  exact h.elim
end Go.Proofs.YtlocbpaikdgmbaaGreatDoor.P
end
section
namespace Go.Proofs.YtlocbpaikdgmbaaGreatDoor.P
open Go Go.RowKit Go.Proofs.YtlocbpaikdgmbaaGreatDoorW.PrintWords Go.Proofs.YtlocbpaikdgmbaaGreatDoorW.PrintLast Go.Proofs.YtlocbpaikdgmbaaGreatDoorW.PrintMore
set_option linter.unusedVariables false
set_option linter.unusedSimpArgs false
def okB2 (k : Nat) (b : S46) : Bool := match value_Defined.f k b.f1.f0 b.f1.f1 b.f1.f2 b.f1.f3 with
 | none => false
 | some false => true
 | some true => (value_Canon.f k b.f1).isSome
theorem okB2_1 {k : Nat} {b : S46} (h : okB2 k b = true) : okB1 k b := by
 unfold okB2 at h
 cases e : value_Defined.f k b.f1.f0 b.f1.f1 b.f1.f2 b.f1.f3 with
 | none => rw [e] at h; cases h
 | some d =>
  refine ⟨d, e, fun hd => ?_⟩
  subst hd
  rw [e] at h
  exact Option.isSome_iff_exists.1 h
def getP (k : Nat) (a : List S46) (s : ByteArray) : S44 × Bool := match getB k a s with
 | none => (z44, false)
 | some r => (r, true)
def bind_Get.f (k : Nat) (a : List S46) (s : ByteArray) : Option (S44 × Bool) := if a.length < 8796093022208 ∧ a.all (okB2 k) = true then some (getP k a s) else none
theorem ValR.parts {w' : World} {base : Nat} {r : S44} {u : Value} (h : ValR w' base r u) : ∃ A2 c2 A3 c3, u = .agg #[.int .i64 r.f0, .string r.f1, .slice A2 r.f2.length c2, .slice A3 r.f3.length c3] := by
 obtain ⟨V2, V3, rfl, h2, h3⟩ := h
 obtain ⟨A2, c2, rfl⟩ := Kd.R_slice h2
 obtain ⟨A3, c3, rfl⟩ := Kd.R_slice h3
 exact ⟨A2, c2, A3, c3, rfl⟩
theorem zeroV (w : World) : (zeroValue 44).run Tryz.prog w = .ok (.agg #[.int .i64 0, .string ⟨#[]⟩, .slice none 0 0, .slice none 0 0]) w := by kernel_rfl
theorem MapX.lookup {k : Nat} {W : World} {base M : Nat} {a : List S46} (h : MapX k W base M a) (s : ByteArray) : ∃ r b A2 c2 A3 c3, getP k a s = (r, b) ∧ ValR W base r (.agg #[.int .i64 r.f0, .string r.f1, .slice A2 r.f2.length c2, .slice A3 r.f3.length c3]) ∧
 (Instr.lookup 159 (.map (some M)) (.string s) true).run Tryz.prog W = .ok (.tuple #[.agg #[.int .i64 r.f0, .string r.f1, .slice A2 r.f2.length c2, .slice A3 r.f3.length c3], .bool b]) W := by
 obtain ⟨H, h1, h2, h3⟩ := h
 rcases h1.lookup (P := Tryz.prog) Tryz.underlying159 Tryz.underlying9 (zeroV W) s with ⟨hr, hn⟩ | ⟨v, hv, hr⟩
 · refine ⟨z44, false, none, 0, none, 0, ?_, ⟨_, _, rfl, Kd.R_nil _ _ _ _ _, Kd.R_nil _ _ _ _ _⟩, hr⟩
   unfold getP
   cases e : getB k a s with
   | none => rfl
   | some r => exact absurd (h3 s r e).choose_spec (hn _)
 · obtain ⟨r, hg, hR⟩ := h2 s v hv
   obtain ⟨A2, c2, A3, c3, rfl⟩ := hR.parts
   exact ⟨r, true, A2, c2, A3, c3, by unfold getP; rw [hg], hR, hr⟩
set_option maxRecDepth 100000 in
set_option maxHeartbeats 2000000 in
theorem bind_Get.calls (k : Nat) (A : Option Addr) (c : Nat) (a : List S46) (s : ByteArray) (r : S44) (b : Bool) (w : World) (hr : Kd.C k46 w A a.length a) (hc : a.length ≤ c) (h : bind_Get.f k a s = some (r, b)) :
 Calls Tryz.prog 80 #[.slice A a.length c, .string s] w fun e w' => ∃ A2 c2 A3 c3, e = .returned (.tuple #[.agg #[.int .i64 r.f0, .string r.f1, .slice A2 r.f2.length c2, .slice A3 r.f3.length c3], .bool b]) ∧ ValR w' w.heap.size r (.agg #[.int .i64 r.f0, .string r.f1, .slice A2 r.f2.length c2, .slice A3 r.f3.length c3]) ∧ Below w.heap.size w w' := by
 unfold bind_Get.f at h
 obtain ⟨⟨hlen, hall⟩, h⟩ : (a.length < 8796093022208 ∧ a.all (okB2 k) = true) ∧ getP k a s = (r, b) := by
  by_cases hc : a.length < 8796093022208 ∧ a.all (okB2 k) = true
  · rw [if_pos hc] at h
    exact ⟨hc, by injection h⟩
  · rw [if_neg hc] at h
    cases h
 have hok : ∀ b ∈ a, okB1 k b := fun b hb => okB2_1 (List.all_eq_true.1 hall b hb)
 obtain ⟨w1, hw1⟩ : ∃ W, W = w.alloc (.cells #[.int .i64 0, .string ⟨#[]⟩, .slice none 0 0, .slice none 0 0] 44) := ⟨_, rfl⟩
 have hB : Below w.heap.size w w1 := by rw [hw1]; exact (Below.refl _ w).alloc (Nat.le_refl _) _
 have q0 : w1.heap[w.heap.size]? = some (.cells #[.int .i64 0, .string ⟨#[]⟩, .slice none 0 0, .slice none 0 0] 44 (0, 0)) := by rw [hw1]; exact alloc_at rfl
 have hsz : w1.heap.size = w.heap.size + 1 := by rw [hw1, World.size_alloc]
 have HW := Lib.hid hw1
 have HC := Lib.hid (Kd.C_below hr hB)
 have HL := Lib.hid hlen
 have HOK := Lib.hid hok
 have HG := Lib.hid h
 have HB := Lib.hid hB
 have HQ := Lib.hid q0
 have HZ := Lib.hid hsz
 clear hw1 hr hlen hok h hB q0 hc hall hsz
 go_enter Tryz.func80, Tryz.ntmps80
 go_wp2_with fail
 rw [← HW.out]
 clear HW
 refine (bind_all.calls k A c a w1 HL.out HC.out HOK.out).mono ?_
 rintro e w2 ⟨M, rfl, hM, hb⟩
 obtain ⟨r', b', A2, c2, A3, c3, hg, hV, hrun⟩ := hM.lookup s
 obtain ⟨rfl, rfl⟩ : r' = r ∧ b' = b := by rw [HG.out] at hg; injection hg with e1 e2; exact ⟨e1.symm, e2.symm⟩
 have HB2 := Lib.hid (below_step HB.out hb)
 have he := (hb.block _ (Array.getElem?_eq_some_iff.1 HQ.out).1).trans HQ.out
 have HE := Lib.hid (alloc_old (o := .cells #[.int .i64 r'.f0, .string r'.f1, .slice A2 r'.f2.length c2, .slice A3 r'.f3.length c3] 44) he)
 have HV := Lib.hid hV
 clear hg hV hb hM
 have c0 := Lib.cell_of_heap HE.out 0
 have c1 := Lib.cell_of_heap HE.out 1
 have c2' := Lib.cell_of_heap HE.out 2
 have c3' := Lib.cell_of_heap HE.out 3
 simp only [List.getElem?_toArray, List.getElem?_cons_zero, List.getElem?_cons_succ] at c0 c1 c2' c3'
 have f0 := Lib.frozen_of_heap HE.out 0
 have f1 := Lib.frozen_of_heap HE.out 1
 have f2 := Lib.frozen_of_heap HE.out 2
 have f3 := Lib.frozen_of_heap HE.out 3
 clear he
 go_wp2
 have hz := HZ.out
 refine bodyPost_ret (results_ct rfl _ _ w.heap.size 44 #[.int .i64 r'.f0, .string r'.f1, .slice A2 r'.f2.length c2, .slice A3 r'.f3.length c3] (0, 0) _ rfl (put4 HE.out _ _ _ _) Tryz.underlying44 rfl (by kernel_rfl)) rfl ?_
 exact ⟨A2, c2, A3, c3, rfl, (HV.out.step (fun j hj hl _ => (put4_ne (by omega) _ _ _ _).trans (Below.heap_alloc _ _ _ hl))).lower (by omega), below_put4 (HB2.out.alloc HB2.out.size _) (Nat.le_refl _) _ _ _ _⟩
end Go.Proofs.YtlocbpaikdgmbaaGreatDoor.P
end
section
namespace Go.Proofs.YtlocbpaikdgmbaaGreatDoor.P
open Go.RowKit
def wordN (P : Nat → Bool) : Nat → Nat
 | 0 => 0
 | n + 1 => wordN P n ||| if P n then 2 ^ n else 0
theorem wordN_lt (P : Nat → Bool) (n : Nat) : wordN P n < 2 ^ n := by
 induction n with
 | zero => simp [wordN]
 | succ n ih =>
  simp only [wordN]
  refine Nat.or_lt_two_pow (by omega) ?_
  split
  · exact Nat.pow_lt_pow_right (by omega) (by omega)
  · exact Nat.two_pow_pos _
theorem testBit_wordN (P : Nat → Bool) (n j : Nat) : (wordN P n).testBit j = (decide (j < n) && P j) := by
 induction n with
 | zero => simp [wordN]
 | succ n ih =>
  simp only [wordN, Nat.testBit_or, ih]
  by_cases hp : P n
  · rw [if_pos hp, Nat.testBit_two_pow]
    by_cases e : n = j
    · subst e; simp [hp]
    · by_cases h : j < n
      · simp [h, show j < n + 1 by omega, e]
      · simp [h, show ¬ j < n + 1 by omega, e]
  · rw [if_neg hp, Nat.zero_testBit]
    by_cases e : n = j
    · subst e; simp [hp]
    · by_cases h : j < n
      · simp [h, show j < n + 1 by omega]
      · simp [h, show ¬ j < n + 1 by omega]
theorem wordN_ext {P Q : Nat → Bool} (n : Nat) (h : ∀ j, j < n → P j = Q j) : wordN P n = wordN Q n := by
 apply Nat.eq_of_testBit_eq
 intro j
 rw [testBit_wordN, testBit_wordN]
 by_cases hj : j < n
 · rw [h j hj]
 · simp [hj]
def wd (P : Nat → Bool) (i : Nat) : Int := (wordN (fun j => P (64 * i + j)) 64 : Nat)
theorem wd_lo (P : Nat → Bool) (i : Nat) : 0 ≤ wd P i := by unfold wd; omega
theorem wd_hi (P : Nat → Bool) (i : Nat) : wd P i < 18446744073709551616 := by
 have := wordN_lt (fun j => P (64 * i + j)) 64
 unfold wd; omega
theorem wd_ext {P Q : Nat → Bool} (i : Nat) (h : ∀ j, j < 64 → P (64 * i + j) = Q (64 * i + j)) : wd P i = wd Q i := by
 unfold wd; rw [wordN_ext 64 h]
theorem wd_or (P Q : Nat → Bool) (i : Nat) : Go.bits .or .u64 (wd P i) (wd Q i) = wd (fun j => P j || Q j) i := by
 rw [u64_or _ _ (wd_lo P i) (wd_hi P i) (wd_lo Q i) (wd_hi Q i)]
 unfold wd
 simp only [Int.toNat_natCast]
 congr 1
 apply Nat.eq_of_testBit_eq
 intro j
 rw [Nat.testBit_or, testBit_wordN, testBit_wordN, testBit_wordN]
 cases decide (j < 64) <;> simp
theorem testBit_compl (n j : Nat) (h : n < 2 ^ 64) : (18446744073709551615 - n).testBit j = (decide (j < 64) && !n.testBit j) := by
 have := @Nat.testBit_two_pow_sub_succ n 64 h j
 rw [← this, show 2 ^ 64 - (n + 1) = 18446744073709551615 - n by omega]
theorem wd_andNot (P Q : Nat → Bool) (i : Nat) : Go.bits .andNot .u64 (wd P i) (wd Q i) = wd (fun j => P j && !Q j) i := by
 rw [u64_andNot _ _ (wd_lo P i) (wd_hi P i) (wd_lo Q i) (wd_hi Q i)]
 unfold wd
 simp only [Int.toNat_natCast]
 congr 1
 apply Nat.eq_of_testBit_eq
 intro j
 rw [Nat.testBit_and, testBit_compl _ _ (wordN_lt _ _), testBit_wordN, testBit_wordN, testBit_wordN]
 cases decide (j < 64) <;> simp
theorem wd_add (P : Nat → Bool) (c : Int) (h0 : 0 ≤ c) : Go.bits .or .u64 (wd P (c / 64).toNat) (IntKind.u64.wrap (2 ^ (c % 64).toNat)) = wd (fun j => P j || j == c.toNat) (c / 64).toNat := by
 have hk : (c % 64).toNat < 64 := by omega
 have e : IntKind.u64.wrap (2 ^ (c % 64).toNat) = wd (fun j => j == c.toNat) (c / 64).toNat := by
  have e1 : wordN (fun j => 64 * (c / 64).toNat + j == c.toNat) 64 = 2 ^ (c % 64).toNat := by
   apply Nat.eq_of_testBit_eq
   intro j
   rw [testBit_wordN, Nat.testBit_two_pow]
   by_cases e : (c % 64).toNat = j
   · subst e; simp [hk]; omega
   · by_cases h : j < 64
     · simp [h, e]; omega
     · simp [h, e]
  unfold wd
  rw [e1]
  have hl : (2 : Nat) ^ (c % 64).toNat < 2 ^ 64 := Nat.pow_lt_pow_right (by omega) hk
  generalize (c % 64).toNat = k at hl ⊢
  have : ((2 : Int) ^ k) = ((2 ^ k : Nat) : Int) := by simp
  rw [this]
  generalize 2 ^ k = q at hl ⊢
  simp [IntKind.wrap, IntKind.bits, IntKind.signed]
  omega
 rw [e, wd_or]
theorem wd_has (P : Nat → Bool) (c : Int) (h0 : 0 ≤ c) : (Go.bits .and .u64 (wd P (c / 64).toNat / 2 ^ (c % 64).toNat) 1 == 1) = P c.toNat := by
 have hk : (c % 64).toNat < 64 := by omega
 have hl := wd_lo P (c / 64).toNat
 have hh := wd_hi P (c / 64).toNat
 have e2 : wd P (c / 64).toNat / 2 ^ (c % 64).toNat = ((wordN (fun j => P (64 * (c / 64).toNat + j)) 64 / 2 ^ (c % 64).toNat : Nat) : Int) := by
  unfold wd; simp
 have hb := wordN_lt (fun j => P (64 * (c / 64).toNat + j)) 64
 have hd := Nat.div_le_self (wordN (fun j => P (64 * (c / 64).toNat + j)) 64) (2 ^ (c % 64).toNat)
 have ht := testBit_wordN (fun j => P (64 * (c / 64).toNat + j)) 64 (c % 64).toNat
 rw [show 64 * (c / 64).toNat + (c % 64).toNat = c.toNat by omega, Nat.testBit_eq_decide_div_mod_eq] at ht
 rw [e2]
 clear e2 hl hh
 generalize wordN (fun j => P (64 * (c / 64).toNat + j)) 64 / 2 ^ (c % 64).toNat = q at *
 rw [u64_and _ _ (by omega) (by omega) (by omega) (by omega)]
 simp only [Int.toNat_natCast]
 rw [show (1 : Int).toNat = 1 from rfl, nat_mask1]
 simp only [hk, decide_true, Bool.true_and] at ht
 rw [← ht]
 by_cases hq : q % 2 = 1
 · simp [hq]
 · have : q % 2 = 0 := by omega
   simp [this]
def setV (P : Nat → Bool) : Value := .agg #[.int .u64 (wd P 0), .int .u64 (wd P 1), .int .u64 (wd P 2), .int .u64 (wd P 3)]
theorem setV_ext {P Q : Nat → Bool} (h : ∀ j, j < 256 → P j = Q j) : setV P = setV Q := by
 unfold setV
 rw [wd_ext 0 (fun j hj => h _ (by omega)), wd_ext 1 (fun j hj => h _ (by omega)), wd_ext 2 (fun j hj => h _ (by omega)), wd_ext 3 (fun j hj => h _ (by omega))]
theorem wd_empty (i : Nat) : wd (fun _ => false) i = 0 := by
 have : ∀ n, wordN (fun _ => false) n = 0 := by
  intro n
  induction n with
  | zero => rfl
  | succ n ih => simp [wordN, ih]
 unfold wd; rw [this]; rfl
end Go.Proofs.YtlocbpaikdgmbaaGreatDoor.P
end
section
namespace Go.Proofs.YtlocbpaikdgmbaaGreatDoor.P
def inText (s : ByteArray) (j : Nat) : Bool := s.data.toList.any fun b => b.toNat == j
def isDigit (j : Nat) : Bool := decide (48 ≤ (j : Int)) && decide ((j : Int) ≤ 57)
def isUpper (j : Nat) : Bool := decide (65 ≤ (j : Int)) && decide ((j : Int) ≤ 90)
def isLower (j : Nat) : Bool := decide (97 ≤ (j : Int)) && decide ((j : Int) ≤ 122)
def isAF (j : Nat) : Bool := decide (65 ≤ (j : Int)) && decide ((j : Int) ≤ 70)
def isaf (j : Nat) : Bool := decide (97 ≤ (j : Int)) && decide ((j : Int) ≤ 102)
def isAlpha (j : Nat) : Bool := isUpper j || isLower j
def isHex (j : Nat) : Bool := isDigit j || isAF j || isaf j
def isWord (j : Nat) : Bool := isAlpha j || isDigit j || 95 == j
def isLit (j : Nat) : Bool := (decide (33 ≤ (j : Int)) && decide ((j : Int) ≤ 126)) && !inText ⟨#[34, 39, 37, 60, 62, 92, 94, 96, 123, 124, 125]⟩ j
def spanLo (k : Nat) : Int := if k = 0 then 160 else if k = 1 then 57344 else if k = 2 then 65008 else if k = 16 then 921600 else ((k - 2 : Nat) : Int) * 65536
def spanHi (k : Nat) : Int := if k = 0 then 55295 else if k = 1 then 64975 else if k = 2 then 65519 else ((k - 2 : Nat) : Int) * 65536 + 65533
def meetsFrom (low high : Int) : Nat → Nat → Bool
 | 0, _ => false
 | d + 1, k => (decide (low ≤ spanHi k) && decide (high ≥ spanLo k)) || meetsFrom low high d (k + 1)
end Go.Proofs.YtlocbpaikdgmbaaGreatDoor.P
end
section
namespace Go.Proofs.YtlocbpaikdgmbaaGreatDoor.P
open Go.RowKit Go.Proofs.YtlocbpaikdgmbaaGreatDoorW.PrintWords Go.Proofs.YtlocbpaikdgmbaaGreatDoorW.PrintLast Go.Proofs.YtlocbpaikdgmbaaGreatDoorW.PrintMore
structure SetAt (w : World) (g : Nat) (P : Nat → Bool) : Prop where
 cell : ∀ i, i < 4 → w.cell? ⟨g, i, none⟩ = some (.int .u64 (wd P i))
 free : ∀ i, i < 4 → w.frozen? ⟨g, i, none⟩ = false
set_option maxHeartbeats 400000 in
theorem Set_add.calls (P : Nat → Bool) (c : Int) (h0 : 0 ≤ c) (h1 : c ≤ 255) (g : Nat) (w : World) (hs : SetAt w g P) :
 Calls Tryz.prog 145 #[.pointer (some ⟨g, 0, none⟩), .int .u8 c] w fun e w' => e = .returned (.tuple #[]) ∧ SetAt w' g (fun j => P j || j == c.toNat) ∧ w.grownBy w' (some g) ∧ w'.heap.size = w.heap.size := by
 have hc := hs.cell (c / 64).toNat (by omega)
 have hf := hs.free (c / 64).toNat (by omega)
 have h2 : 0 ≤ c / 64 := by omega
 have h3 : c / 64 < 4 := by omega
 have h4 : 0 ≤ c % 64 := by omega
 have h5 : c % 64 < 64 := by omega
 have K := Lib.hid hs
 clear hs
 go_enter Tryz.func145, Tryz.ntmps145
 go_wp2
 go_region
 go_end0
 rw [wd_add P c h0]
 have hs := K.out
 refine ⟨rfl, ⟨fun i hi => ?_, fun i hi => ?_⟩, ⟨rfl, rfl, rfl, by simp [World.drew], fun k _ hk => ?_⟩, by simp [World.drew]⟩
 · show (w.setCell _ _).cell? _ = _
   by_cases e : i = (c / 64).toNat
   · subst e
     rw [World.cell?_setCell_same _ _ _ hc]
   · rw [World.cell?_setCell_other _ _ _ _ (fun h => e (by injection h with _ h2 _; exact h2.symm)), hs.cell i hi]
     rw [wd_ext i fun j hj => ?_]
     have : ¬ (64 * i + j = c.toNat) := by omega
     simp [this]
 · show (w.setCell _ _).frozen? _ = _
   rw [World.frozen?_setCell, hs.free i hi]
 · show (w.setCell _ _).heap[k]? = _
   exact heap_setCell_other w _ k _ (fun e => hk (by rw [e]))
theorem SetAt.new (W : World) : SetAt (W.alloc (.cells #[.int .u64 0, .int .u64 0, .int .u64 0, .int .u64 0] 141)) W.heap.size (fun _ => false) := by
 refine ⟨fun i hi => ?_, fun i hi => ?_⟩
 · rw [wd_empty]
   have : i = 0 ∨ i = 1 ∨ i = 2 ∨ i = 3 := by omega
   rcases this with rfl | rfl | rfl | rfl <;> simp [go_sem]
 · have : i = 0 ∨ i = 1 ∨ i = 2 ∨ i = 3 := by omega
   rcases this with rfl | rfl | rfl | rfl <;> simp [go_sem]
theorem SetAt.lt {w : World} {g : Nat} {P : Nat → Bool} (h : SetAt w g P) : g < w.heap.size := World.block_lt_of_cell? w _ (h.cell 0 (by omega))
theorem SetAt.kept {w w' : World} {g : Nat} {P : Nat → Bool} (h : SetAt w g P) (hb : w'.heap[g]? = w.heap[g]?) : SetAt w' g P :=
 ⟨fun i hi => by have := h.cell i hi; unfold World.cell? at this ⊢; rw [hb]; exact this, fun i hi => by have := h.free i hi; unfold World.frozen? at this ⊢; rw [hb]; exact this⟩
theorem SetAt.alloc {w : World} {g : Nat} {P : Nat → Bool} (h : SetAt w g P) (o : Obj) : SetAt (w.alloc o) g P :=
 h.kept (heap_alloc_old w o h.lt)
structure Two (w wr : World) (P : Nat → Bool) : Prop where
 s : SetAt wr (w.heap.size + 1) P
 r : SetAt wr w.heap.size (fun _ => false)
 b : Below w.heap.size w wr
 z : wr.heap.size = w.heap.size + 2
theorem Two.add {w wr w1 : World} {P Q : Nat → Bool} (h : Two w wr P) (hs : SetAt w1 (w.heap.size + 1) Q) (hg : wr.grownBy w1 (some (w.heap.size + 1))) (hz : w1.heap.size = wr.heap.size) : Two w w1 Q :=
 ⟨hs, h.r.kept (hg.block _ h.r.lt (by simp)), h.b.grown hg h.b.size (fun k e => by cases e; omega), by rw [hz, h.z]⟩
theorem Two.new (w : World) : Two w ((w.alloc (.cells #[.int .u64 0, .int .u64 0, .int .u64 0, .int .u64 0] 141)).alloc (.cells #[.int .u64 0, .int .u64 0, .int .u64 0, .int .u64 0] 141)) (fun _ => false) :=
 ⟨by have := SetAt.new (w.alloc (.cells #[.int .u64 0, .int .u64 0, .int .u64 0, .int .u64 0] 141)); simpa using this, (SetAt.new w).alloc _, ((Below.refl _ _).alloc (Nat.le_refl _) _).alloc (by simp) _, by simp⟩
theorem Two.done {w wr : World} {P : Nat → Bool} (h : Two w wr P) : ∀ a b c d : Value, Below w.heap.size w ((((wr.setCell ⟨w.heap.size, 0, none⟩ a).setCell ⟨w.heap.size, 1, none⟩ b).setCell ⟨w.heap.size, 2, none⟩ c).setCell ⟨w.heap.size, 3, none⟩ d) := fun a b c d =>
 (((h.b.setCell (Nat.le_refl _) a).setCell (Nat.le_refl _) b).setCell (Nat.le_refl _) c).setCell (Nat.le_refl _) d
set_option maxHeartbeats 400000 in
theorem chars_Range.calls (lo hi : Int) (h0 : 0 ≤ lo) (h1 : lo ≤ 255) (h2 : 0 ≤ hi) (h3 : hi ≤ 255) (w : World) :
 Calls Tryz.prog 144 #[.int .u8 lo, .int .u8 hi] w fun e w' => e = .returned (setV fun j => decide (lo ≤ j) && decide ((j : Int) ≤ hi)) ∧ Below w.heap.size w w' := by
 go_enter Tryz.func144, Tryz.ntmps144
 go_wp2
 go_loopw [6] (fun i wr => ∃ k : Int, lo ≤ k ∧ k ≤ 256 ∧ (k ≤ hi + 1 ∨ k = lo) ∧ i = .int .i64 k ∧ Hid (Two w wr (fun j => decide (lo ≤ j) && decide ((j : Int) < k)))) (fun i _ => (256 - intOf i).toNat)
 case atStart =>
  refine ⟨lo, by omega, by omega, .inr rfl, rfl, Lib.hid ?_⟩
  have e : (fun j : Nat => decide (lo ≤ j) && decide ((j : Int) < lo)) = fun _ => false := by funext j; by_cases h : lo ≤ (j : Int) <;> simp [h]
  rw [e]
  exact Two.new w
 case round =>
  obtain ⟨k, hk0, hk1, hk2, rfl, HT⟩ := hrel
  by_cases hlt : k ≤ hi
  · go_wp2_with fail
    refine (Set_add.calls _ k (by omega) (by omega) _ _ HT.out.s).mono ?_
    rintro e w' ⟨rfl, hs, hg, hz⟩
    have HT1 := Lib.hid (HT.out.add hs hg hz)
    clear hs hg hz HT
    go_wp2
    go_roundw
    case rel =>
     refine ⟨k + 1, by omega, by omega, by omega, by go_num, Lib.hid ?_⟩
     have e : (fun j : Nat => (decide (lo ≤ j) && decide ((j : Int) < k)) || j == k.toNat) = fun j : Nat => decide (lo ≤ j) && decide ((j : Int) < k + 1) := by
      funext j
      by_cases e : j = k.toNat
      · subst e; simp; omega
      · by_cases h : (j : Int) < k
        · simp [h, e, show (j : Int) < k + 1 by omega]
        · simp [h, e, show ¬ (j : Int) < k + 1 by omega]
     have h := HT1.out
     rw [e] at h
     exact h
    case measure => simp [intOf]; omega
  · have e : setV (fun j => decide (lo ≤ j) && decide ((j : Int) < k)) = setV fun j => decide (lo ≤ j) && decide ((j : Int) ≤ hi) := by
     apply setV_ext
     intro j hj
     by_cases h1 : lo ≤ (j : Int) <;> by_cases h2 : (j : Int) < k <;> by_cases h3 : (j : Int) ≤ hi <;> simp [h1, h2, h3] <;> omega
    have E := Lib.hid e
    clear e
    obtain ⟨P, hP⟩ : ∃ P : Nat → Bool, P = fun j : Nat => decide (lo ≤ j) && decide ((j : Int) < k) := ⟨_, rfl⟩
    rw [← hP] at HT E
    clear hP
    have c0 := HT.out.s.cell 0 (by omega)
    have c1 := HT.out.s.cell 1 (by omega)
    have c2 := HT.out.s.cell 2 (by omega)
    have c3 := HT.out.s.cell 3 (by omega)
    have r0 := HT.out.r.cell 0 (by omega)
    have r1 := HT.out.r.cell 1 (by omega)
    have r2 := HT.out.r.cell 2 (by omega)
    have r3 := HT.out.r.cell 3 (by omega)
    have f0 := HT.out.r.free 0 (by omega)
    have f1 := HT.out.r.free 1 (by omega)
    have f2 := HT.out.r.free 2 (by omega)
    have f3 := HT.out.r.free 3 (by omega)
    go_wp2
    refine bodyPost_ret (v := setV P) ?_ rfl ⟨by rw [E.out], HT.out.done _ _ _ _⟩
    simp [results, Tryz.results144, go_sem, setV, r0, r1, r2, r3]
set_option maxHeartbeats 400000 in
theorem chars_Of.calls (s : ByteArray) (hs : s.size ≤ 9223372036854775807) (w : World) :
 Calls Tryz.prog 116 #[.string s] w fun e w' => e = .returned (setV (inText s)) ∧ Below w.heap.size w w' := by
 go_enter Tryz.func116, Tryz.ntmps116
 go_wp2
 go_loopw [4, 7] (fun _ i wr => ∃ k : Nat, k ≤ s.size ∧ i = .int .i64 k ∧ Hid (Two w wr (fun j => (s.data.toList.take k).any fun b => b.toNat == j))) (fun _ i _ => s.size - (intOf i).toNat)
 case atStart => exact ⟨0, Nat.zero_le _, rfl, Lib.hid (Two.new w)⟩
 case round =>
  obtain ⟨k, hk, rfl, HT⟩ := hrel
  by_cases hlt : k < s.size
  · have hb : ((s[k]'hlt).toNat : Int) ≤ 255 := by have := (s[k]'hlt).toNat_lt; omega
    have hb0 : (0 : Int) ≤ ((s[k]'hlt).toNat : Int) := by omega
    go_wp2_with fail
    refine (Set_add.calls _ _ hb0 hb _ _ HT.out.s).mono ?_
    rintro e w' ⟨rfl, hs1, hg, hz⟩
    have HT1 := Lib.hid (HT.out.add hs1 hg hz)
    clear hs1 hg hz HT
    go_wp2
    go_roundw
    case rel =>
     refine ⟨k + 1, by omega, by go_num, Lib.hid ?_⟩
     have e : (fun j : Nat => ((s.data.toList.take k).any fun b => b.toNat == j) || j == ((s[k]'hlt).toNat : Int).toNat) = fun j : Nat => (s.data.toList.take (k + 1)).any fun b => b.toNat == j := by
      funext j
      have hl : k < s.data.toList.length := by simpa using hlt
      have e2 : s.data.toList[k] = s[k]'hlt := rfl
      rw [List.take_succ_eq_append_getElem hl, List.any_append, e2]
      simp only [List.any_cons, List.any_nil, Bool.or_false, Int.toNat_natCast]
      congr 1
      rw [Bool.eq_iff_iff]; simp; omega
     have h := HT1.out
     rw [e] at h
     exact h
    case measure => simp [intOf]; omega
  · have e : setV (fun j => (s.data.toList.take k).any fun b => b.toNat == j) = setV (inText s) := by
     have : s.data.toList.take k = s.data.toList := List.take_of_length_le (by simp; have : s.data.size = s.size := rfl; omega)
     rw [this]; rfl
    have E := Lib.hid e
    clear e
    obtain ⟨P, hP⟩ : ∃ P : Nat → Bool, P = fun j : Nat => (s.data.toList.take k).any fun b => b.toNat == j := ⟨_, rfl⟩
    rw [← hP] at HT E
    clear hP
    have c0 := HT.out.s.cell 0 (by omega)
    have c1 := HT.out.s.cell 1 (by omega)
    have c2 := HT.out.s.cell 2 (by omega)
    have c3 := HT.out.s.cell 3 (by omega)
    have r0 := HT.out.r.cell 0 (by omega)
    have r1 := HT.out.r.cell 1 (by omega)
    have r2 := HT.out.r.cell 2 (by omega)
    have r3 := HT.out.r.cell 3 (by omega)
    have f0 := HT.out.r.free 0 (by omega)
    have f1 := HT.out.r.free 1 (by omega)
    have f2 := HT.out.r.free 2 (by omega)
    have f3 := HT.out.r.free 3 (by omega)
    go_wp2
    refine bodyPost_ret (v := setV P) ?_ rfl ⟨by rw [E.out], HT.out.done _ _ _ _⟩
    simp [results, Tryz.results116, go_sem, setV, r0, r1, r2, r3]
structure Four (w : World) (g : Nat) (x : Nat → Int) : Prop where
 cell : ∀ i, i < 4 → w.cell? ⟨g, i, none⟩ = some (.int .u64 (x i))
 free : ∀ i, i < 4 → w.frozen? ⟨g, i, none⟩ = false
theorem Four.set {w : World} {g : Nat} {x : Nat → Int} (h : Four w g x) (k : Nat) (y : Int) : Four (w.setCell ⟨g, k, none⟩ (.int .u64 y)) g (fun i => if i = k then y else x i) := by
 refine ⟨fun i hi => ?_, fun i hi => by rw [World.frozen?_setCell]; exact h.free i hi⟩
 by_cases e : i = k
 · subst e
   rw [World.cell?_setCell_same _ _ _ (h.cell i hi), if_pos rfl]
 · rw [World.cell?_setCell_other _ _ _ _ (fun q => e (by injection q with _ h2 _; exact h2.symm)), h.cell i hi, if_neg e]
theorem Four.congr {w : World} {g : Nat} {x y : Nat → Int} (h : Four w g x) (e : ∀ i, i < 4 → x i = y i) : Four w g y :=
 ⟨fun i hi => by rw [h.cell i hi, e i hi], h.free⟩
theorem Four.lt {w : World} {g : Nat} {x : Nat → Int} (h : Four w g x) : g < w.heap.size := World.block_lt_of_cell? w _ (h.cell 0 (by omega))
theorem Four.kept {w w' : World} {g : Nat} {x : Nat → Int} (h : Four w g x) (hb : w'.heap[g]? = w.heap[g]?) : Four w' g x :=
 ⟨fun i hi => by have := h.cell i hi; unfold World.cell? at this ⊢; rw [hb]; exact this, fun i hi => by have := h.free i hi; unfold World.frozen? at this ⊢; rw [hb]; exact this⟩
theorem Four.alloc {w : World} {g : Nat} {x : Nat → Int} (h : Four w g x) (o : Obj) : Four (w.alloc o) g x := h.kept (heap_alloc_old w o h.lt)
theorem Four.other {w : World} {g g' : Nat} {x : Nat → Int} (h : Four w g x) (k : Nat) (v : Value) (hne : g ≠ g') : Four (w.setCell ⟨g', k, none⟩ v) g x := h.kept (heap_setCell_other w _ g v hne)
theorem Four.new (W : World) (a b c d : Int) (t : TypeId) : Four (W.alloc (.cells #[.int .u64 a, .int .u64 b, .int .u64 c, .int .u64 d] t)) W.heap.size (fun i => if i = 0 then a else if i = 1 then b else if i = 2 then c else d) := by
 refine ⟨fun i hi => ?_, fun i hi => ?_⟩
 · have : i = 0 ∨ i = 1 ∨ i = 2 ∨ i = 3 := by omega
   rcases this with rfl | rfl | rfl | rfl <;> simp [go_sem]
 · have : i = 0 ∨ i = 1 ∨ i = 2 ∨ i = 3 := by omega
   rcases this with rfl | rfl | rfl | rfl <;> simp [go_sem]
theorem Four.newP (W : World) (P : Nat → Bool) (t : TypeId) : Four (W.alloc (.cells #[.int .u64 (wd P 0), .int .u64 (wd P 1), .int .u64 (wd P 2), .int .u64 (wd P 3)] t)) W.heap.size (wd P) :=
 (Four.new W _ _ _ _ t).congr fun i hi => by
  have : i = 0 ∨ i = 1 ∨ i = 2 ∨ i = 3 := by omega
  rcases this with rfl | rfl | rfl | rfl <;> simp
def mixed (k : Nat) (P Q : Nat → Bool) (i : Nat) : Int := if i < k then wd P i else wd Q i
theorem index_word (Q : Nat → Bool) (k : Nat) (hk : k < 4) (W : World) :
 (Instr.index 141 (.agg #[.int .u64 (wd Q 0), .int .u64 (wd Q 1), .int .u64 (wd Q 2), .int .u64 (wd Q 3)]) (.int .i64 (k : Int))).run Tryz.prog W = .ok (.int .u64 (wd Q k)) W := by
 have i0 : ∀ (a b c d : Value) (W : World), (Instr.index 141 (.agg #[a, b, c, d]) (.int .i64 0)).run Tryz.prog W = .ok a W := fun a b c d W => by kernel_rfl
 have i1 : ∀ (a b c d : Value) (W : World), (Instr.index 141 (.agg #[a, b, c, d]) (.int .i64 1)).run Tryz.prog W = .ok b W := fun a b c d W => by kernel_rfl
 have i2 : ∀ (a b c d : Value) (W : World), (Instr.index 141 (.agg #[a, b, c, d]) (.int .i64 2)).run Tryz.prog W = .ok c W := fun a b c d W => by kernel_rfl
 have i3 : ∀ (a b c d : Value) (W : World), (Instr.index 141 (.agg #[a, b, c, d]) (.int .i64 3)).run Tryz.prog W = .ok d W := fun a b c d W => by kernel_rfl
 have : k = 0 ∨ k = 1 ∨ k = 2 ∨ k = 3 := by omega
 rcases this with rfl | rfl | rfl | rfl
 · exact i0 _ _ _ _ W
 · exact i1 _ _ _ _ W
 · exact i2 _ _ _ _ W
 · exact i3 _ _ _ _ W
structure Sub (w wr : World) (x : Nat → Int) : Prop where
 s : Four wr w.heap.size x
 r : Four wr (w.heap.size + 2) (fun _ => 0)
 b : Below w.heap.size w wr
theorem Sub.set {w wr : World} {x : Nat → Int} (h : Sub w wr x) (k : Nat) (y : Int) : Sub w (wr.setCell ⟨w.heap.size, k, none⟩ (.int .u64 y)) (fun i => if i = k then y else x i) :=
 ⟨h.s.set k y, h.r.other k _ (by omega), h.b.setCell (Nat.le_refl _) _⟩
set_option maxHeartbeats 800000 in
theorem chars_Minus.calls (P Q : Nat → Bool) (w : World) :
 Calls Tryz.prog 168 #[setV P, setV Q] w fun e w' => e = .returned (setV fun j => P j && !Q j) ∧ Below w.heap.size w w' := by
 unfold setV
 go_enter Tryz.func168, Tryz.ntmps168
 go_wp2
 go_loopw [5, 6, 8] (fun _ _ i wr => ∃ k : Nat, k ≤ 4 ∧ i = .int .i64 k ∧ Hid (Sub w wr (mixed k (fun j => P j && !Q j) P))) (fun _ _ i _ => 4 - (intOf i).toNat)
 case atStart =>
  refine ⟨0, Nat.zero_le _, rfl, Lib.hid ⟨?_, ?_, ?_⟩⟩
  · exact (((Four.newP w P _).alloc _).alloc _).congr fun i hi => by simp [mixed]
  · have := Four.new ((w.alloc (.cells #[.int .u64 (wd P 0), .int .u64 (wd P 1), .int .u64 (wd P 2), .int .u64 (wd P 3)] 141)).alloc (.cells #[.int .u64 (wd Q 0), .int .u64 (wd Q 1), .int .u64 (wd Q 2), .int .u64 (wd Q 3)] 141)) 0 0 0 0 141
    simp only [World.size_alloc] at this
    exact this.congr fun i hi => by simp
  · exact (((Below.refl _ _).alloc (Nat.le_refl _) _).alloc (by simp) _).alloc (by simp; omega) _
 case round =>
  obtain ⟨k, hk, rfl, HT⟩ := hrel
  by_cases hlt : k < 4
  · have hidx := index_word Q k hlt
    have c := HT.out.s.cell k hlt
    have f := HT.out.s.free k hlt
    rw [show mixed k (fun j => P j && !Q j) P k = wd P k by simp [mixed]] at c
    have hw := Lib.hid (wd_andNot P Q k)
    go_wp2
    rw [hw.out]
    go_roundw
    case rel =>
     refine ⟨k + 1, by omega, by go_num, Lib.hid ?_⟩
     have h := HT.out.set k (wd (fun j => P j && !Q j) k)
     refine ⟨h.s.congr fun i hi => ?_, h.r, h.b⟩
     unfold mixed
     by_cases e : i = k
     · subst e; simp
     · by_cases e2 : i < k
       · simp [e, e2, show i < k + 1 by omega]
       · simp [e, e2, show ¬ i < k + 1 by omega]
    case measure => simp [intOf]; omega
  · obtain rfl : k = 4 := by omega
    have c0 := HT.out.s.cell 0 (by omega)
    have c1 := HT.out.s.cell 1 (by omega)
    have c2 := HT.out.s.cell 2 (by omega)
    have c3 := HT.out.s.cell 3 (by omega)
    have r0 := HT.out.r.cell 0 (by omega)
    have r1 := HT.out.r.cell 1 (by omega)
    have r2 := HT.out.r.cell 2 (by omega)
    have r3 := HT.out.r.cell 3 (by omega)
    have f0 := HT.out.r.free 0 (by omega)
    have f1 := HT.out.r.free 1 (by omega)
    have f2 := HT.out.r.free 2 (by omega)
    have f3 := HT.out.r.free 3 (by omega)
    simp only [mixed] at c0 c1 c2 c3
    go_wp2
    refine bodyPost_ret (v := setV fun j => P j && !Q j) ?_ rfl ⟨rfl, (((HT.out.b.setCell (by simp; omega) _).setCell (by simp; omega) _).setCell (by simp; omega) _).setCell (by simp; omega) _⟩
    simp [results, Tryz.results168, go_sem, setV, r0, r1, r2, r3]
def SetsAt (w : World) (b : Nat) (Ps : List (Nat → Bool)) : Prop := ∀ i, i < Ps.length → ∀ j, j < 4 → w.cell? ⟨b, i * 4 + j, none⟩ = some (.int .u64 (wd (Ps.getD i fun _ => false) j))
def anyOf (Ps : List (Nat → Bool)) (j : Nat) : Bool := Ps.any fun P => P j
structure Uni (w wr : World) (x : Nat → Int) : Prop where
 s : Four wr (w.heap.size + 1) x
 r : Four wr w.heap.size (fun _ => 0)
 b : Below w.heap.size w wr
set_option maxHeartbeats 800000 in
theorem chars_Union.calls (b c : Nat) (Ps : List (Nat → Bool)) (hn : Ps.length ≤ 100) (w : World) (hp : SetsAt w b Ps) (hb : b < w.heap.size) :
 Calls Tryz.prog 84 #[.slice (some ⟨b, 0, none⟩) Ps.length c] w fun e w' => e = .returned (setV (anyOf Ps)) ∧ Below w.heap.size w w' := by
 have HP := Lib.hid hp
 clear hp
 go_enter Tryz.func84, Tryz.ntmps84
 go_wp2
 go_loopw [5, 6, 7, 10] (fun _ _ _ i wr => ∃ k : Nat, k ≤ Ps.length ∧ i = .int .i64 k ∧ Hid (Uni w wr (wd (anyOf (Ps.take k))))) (fun _ _ _ i _ => Ps.length - (intOf i).toNat)
 case atStart =>
  refine ⟨0, Nat.zero_le _, rfl, Lib.hid ⟨?_, ?_, ((Below.refl _ _).alloc (Nat.le_refl _) _).alloc (by simp) _⟩⟩
  · have := Four.new (w.alloc (.cells #[.int .u64 0, .int .u64 0, .int .u64 0, .int .u64 0] 141)) 0 0 0 0 141
    simp only [World.size_alloc] at this
    exact this.congr fun i hi => by rw [show (anyOf (Ps.take 0)) = fun _ => false from rfl, wd_empty]; simp
  · exact ((Four.new w 0 0 0 0 _).alloc _).congr fun i hi => by simp
 case round =>
  obtain ⟨k, hk, rfl, HT⟩ := hrel
  by_cases hlt : k < Ps.length
  · have c0 := (HT.out.b.cell (p := ⟨b, k * 4 + 0, none⟩) hb).trans (HP.out k hlt 0 (by omega))
    have c1 := (HT.out.b.cell (p := ⟨b, k * 4 + 1, none⟩) hb).trans (HP.out k hlt 1 (by omega))
    have c2 := (HT.out.b.cell (p := ⟨b, k * 4 + 2, none⟩) hb).trans (HP.out k hlt 2 (by omega))
    have c3 := (HT.out.b.cell (p := ⟨b, k * 4 + 3, none⟩) hb).trans (HP.out k hlt 3 (by omega))
    simp only [Nat.add_zero] at c0
    obtain ⟨R, hR⟩ : ∃ R, R = Ps.getD k fun _ => false := ⟨_, rfl⟩
    rw [← hR] at c0 c1 c2 c3
    have HR : Hid (anyOf (Ps.take (k + 1)) = fun j => anyOf (Ps.take k) j || R j) := Lib.hid (by
     funext j
     rw [hR, List.take_succ_eq_append_getElem hlt, List.getD_eq_getElem?_getD, List.getElem?_eq_getElem hlt]
     simp only [anyOf, List.any_append, List.any_cons, List.any_nil, Bool.or_false, Option.getD_some])
    clear hR
    obtain ⟨O, hO⟩ : ∃ O, O = anyOf (Ps.take k) := ⟨_, rfl⟩
    rw [← hO] at HT HR
    clear hO
    obtain ⟨wo, rfl⟩ : ∃ wo : World, wo = wr := ⟨_, rfl⟩
    go_wp2
    go_loopw [6, 7, 15] (fun _ _ i wr => ∃ q : Nat, q ≤ 4 ∧ i = .int .i64 q ∧ Hid (Uni w wr (mixed q (fun j => O j || R j) O))) (fun _ _ i _ => 4 - (intOf i).toNat)
    case atStart =>
     refine ⟨0, Nat.zero_le _, rfl, Lib.hid ⟨?_, HT.out.r.alloc _, HT.out.b.alloc HT.out.b.size _⟩⟩
     exact (HT.out.s.alloc _).congr fun i hi => by simp [mixed]
    case round =>
     obtain ⟨q, hq, rfl, HU⟩ := hrel
     by_cases hq4 : q < 4
     · have hidx := index_word R q hq4
       have c := HU.out.s.cell q hq4
       have f := HU.out.s.free q hq4
       rw [show mixed q (fun j => O j || R j) O q = wd O q by simp [mixed]] at c
       have hw := Lib.hid (wd_or O R q)
       go_wp2
       rw [hw.out]
       go_roundw
       case rel =>
        refine ⟨q + 1, by omega, by go_num, Lib.hid ⟨(HU.out.s.set q (wd (fun j => O j || R j) q)).congr fun i hi => ?_, HU.out.r.other q _ (by omega), HU.out.b.setCell (by simp) _⟩⟩
        unfold mixed
        by_cases e : i = q
        · subst e; simp
        · by_cases e2 : i < q
          · simp [e, e2, show i < q + 1 by omega]
          · simp [e, e2, show ¬ i < q + 1 by omega]
       case measure => simp [intOf]; omega
     · obtain rfl : q = 4 := by omega
       go_wp2
       go_roundw
       case rel =>
        refine ⟨k + 1, by omega, by go_num, Lib.hid ⟨?_, HU.out.r, HU.out.b⟩⟩
        rw [HR.out]
        exact HU.out.s.congr fun i hi => by simp [mixed, hi]
       case measure => simp [intOf]; omega
  · have E := Lib.hid (show Ps.take k = Ps from List.take_of_length_le (by omega))
    obtain ⟨O, hO⟩ : ∃ O, O = anyOf (Ps.take k) := ⟨_, rfl⟩
    rw [← hO] at HT
    have EO := Lib.hid (show O = anyOf Ps by rw [hO, E.out])
    clear hO E
    have c0 := HT.out.s.cell 0 (by omega)
    have c1 := HT.out.s.cell 1 (by omega)
    have c2 := HT.out.s.cell 2 (by omega)
    have c3 := HT.out.s.cell 3 (by omega)
    have r0 := HT.out.r.cell 0 (by omega)
    have r1 := HT.out.r.cell 1 (by omega)
    have r2 := HT.out.r.cell 2 (by omega)
    have r3 := HT.out.r.cell 3 (by omega)
    have f0 := HT.out.r.free 0 (by omega)
    have f1 := HT.out.r.free 1 (by omega)
    have f2 := HT.out.r.free 2 (by omega)
    have f3 := HT.out.r.free 3 (by omega)
    go_wp2
    refine bodyPost_ret (v := setV O) ?_ rfl ⟨by rw [EO.out], (((HT.out.b.setCell (Nat.le_refl _) _).setCell (Nat.le_refl _) _).setCell (Nat.le_refl _) _).setCell (Nat.le_refl _) _⟩
    simp [results, Tryz.results84, go_sem, setV, r0, r1, r2, r3]
def chars_Set_Has.f (P : Nat → Bool) (c : Int) : Option Bool := if 0 ≤ c ∧ c ≤ 255 then some (P c.toNat) else none
set_option maxHeartbeats 400000 in
theorem chars_Set_Has.calls (P : Nat → Bool) (c : Int) (r : Bool) (w : World) (h : chars_Set_Has.f P c = some r) :
 Calls Tryz.prog 86 #[setV P, .int .u8 c] w fun e w' => e = .returned (.bool r) ∧ Below w.heap.size w w' := by
 unfold chars_Set_Has.f at h
 split at h
 · rename_i hc
   obtain ⟨h0, h1⟩ := hc
   injection h with h
   have hw := wd_has P c h0
   rw [h] at hw
   have HW := Lib.hid hw
   clear h hw
   have h2 : 0 ≤ c / 64 := by omega
   have h3 : c / 64 < 4 := by omega
   have h4 : 0 ≤ c % 64 := by omega
   have h5 : c % 64 < 64 := by omega
   have cc := ((Four.newP w P 141).cell (c / 64).toNat (by omega))
   unfold setV
   go_enter Tryz.func86, Tryz.ntmps86
   go_wp2
   rw [HW.out]
   go_ret
   exact ⟨rfl, (Below.refl _ _).alloc (Nat.le_refl _) _⟩
 · cases h
def chars_Digit.f : Option (Nat → Bool) := some isDigit
def chars_Alpha.f : Option (Nat → Bool) := some isAlpha
def chars_Hex.f : Option (Nat → Bool) := some isHex
def chars_Word.f : Option (Nat → Bool) := some isWord
def chars_Literal.f : Option (Nat → Bool) := some isLit
structure Res (w wr : World) : Prop where
 r : Four wr w.heap.size (fun _ => 0)
 b : Below w.heap.size w wr
theorem Res.new (w : World) : Res w (w.alloc (.cells #[.int .u64 0, .int .u64 0, .int .u64 0, .int .u64 0] 141)) :=
 ⟨(Four.new w 0 0 0 0 _).congr fun i hi => by simp, (Below.refl _ _).alloc (Nat.le_refl _) _⟩
theorem Res.step {w wr w1 : World} (h : Res w wr) (hb : Below wr.heap.size wr w1) : Res w w1 :=
 ⟨h.r.kept (hb.block _ h.r.lt), below_then h.b h.b.size hb⟩
theorem Res.alloc {w wr : World} (h : Res w wr) (o : Obj) : Res w (wr.alloc o) := ⟨h.r.alloc o, h.b.alloc h.b.size o⟩
theorem Res.done {w wr : World} (h : Res w wr) (a b c d : Value) : Below w.heap.size w ((((wr.setCell ⟨w.heap.size, 0, none⟩ a).setCell ⟨w.heap.size, 1, none⟩ b).setCell ⟨w.heap.size, 2, none⟩ c).setCell ⟨w.heap.size, 3, none⟩ d) :=
 (((h.b.setCell (Nat.le_refl _) _).setCell (Nat.le_refl _) _).setCell (Nat.le_refl _) _).setCell (Nat.le_refl _) _
theorem SetsAt.two (W : World) (P Q : Nat → Bool) (t : TypeId) : SetsAt (W.alloc (.cells #[.int .u64 (wd P 0), .int .u64 (wd P 1), .int .u64 (wd P 2), .int .u64 (wd P 3), .int .u64 (wd Q 0), .int .u64 (wd Q 1), .int .u64 (wd Q 2), .int .u64 (wd Q 3)] t)) W.heap.size [P, Q] := by
 intro i hi j hj
 have : i = 0 ∨ i = 1 := by simp at hi; omega
 have h2 : j = 0 ∨ j = 1 ∨ j = 2 ∨ j = 3 := by omega
 rcases this with rfl | rfl <;> rcases h2 with rfl | rfl | rfl | rfl <;> simp [go_sem]
theorem SetsAt.three (W : World) (P Q R : Nat → Bool) (t : TypeId) : SetsAt (W.alloc (.cells #[.int .u64 (wd P 0), .int .u64 (wd P 1), .int .u64 (wd P 2), .int .u64 (wd P 3), .int .u64 (wd Q 0), .int .u64 (wd Q 1), .int .u64 (wd Q 2), .int .u64 (wd Q 3), .int .u64 (wd R 0), .int .u64 (wd R 1), .int .u64 (wd R 2), .int .u64 (wd R 3)] t)) W.heap.size [P, Q, R] := by
 intro i hi j hj
 have : i = 0 ∨ i = 1 ∨ i = 2 := by simp at hi; omega
 have h2 : j = 0 ∨ j = 1 ∨ j = 2 ∨ j = 3 := by omega
 rcases this with rfl | rfl | rfl <;> rcases h2 with rfl | rfl | rfl | rfl <;> simp [go_sem]
set_option maxHeartbeats 400000 in
theorem chars_Digit.calls (r : Nat → Bool) (w : World) (h : chars_Digit.f = some r) :
 Calls Tryz.prog 115 #[] w fun e w' => e = .returned (setV r) ∧ Below w.heap.size w w' := by
 injection h with h
 have HR := Lib.hid (show (fun j : Nat => decide ((48 : Int) ≤ j) && decide ((j : Int) ≤ 57)) = r from h)
 clear h
 go_enter Tryz.func115, Tryz.ntmps115
 go_wp2_with fail
 refine (chars_Range.calls 48 57 (by omega) (by omega) (by omega) (by omega) _).mono ?_
 rintro e w1 ⟨rfl, hb⟩
 rw [HR.out]
 have S := Lib.hid ((Res.new w).step hb)
 clear hb
 unfold setV
 have r0 := S.out.r.cell 0 (by omega)
 have r1 := S.out.r.cell 1 (by omega)
 have r2 := S.out.r.cell 2 (by omega)
 have r3 := S.out.r.cell 3 (by omega)
 have f0 := S.out.r.free 0 (by omega)
 have f1 := S.out.r.free 1 (by omega)
 have f2 := S.out.r.free 2 (by omega)
 have f3 := S.out.r.free 3 (by omega)
 go_wp2
 refine bodyPost_ret (v := setV r) ?_ rfl ⟨rfl, S.out.done _ _ _ _⟩
 simp [results, Tryz.results115, go_sem, setV, r0, r1, r2, r3]
set_option maxHeartbeats 800000 in
theorem chars_Alpha.calls (r : Nat → Bool) (w : World) (h : chars_Alpha.f = some r) :
 Calls Tryz.prog 114 #[] w fun e w' => e = .returned (setV r) ∧ Below w.heap.size w w' := by
 injection h with h
 subst h
 go_enter Tryz.func114, Tryz.ntmps114
 have S0 := Lib.hid (Res.new w)
 go_wp2_with fail
 refine (chars_Range.calls 65 90 (by omega) (by omega) (by omega) (by omega) _).mono ?_
 rintro e w1 ⟨rfl, hb⟩
 have S1 := Lib.hid (S0.out.step hb)
 clear hb S0
 go_wp2_with fail
 refine (chars_Range.calls 97 122 (by omega) (by omega) (by omega) (by omega) _).mono ?_
 rintro e w2 ⟨rfl, hb⟩
 have S2 := Lib.hid (S1.out.step hb)
 clear hb S1
 unfold setV
 go_wp2_with fail
 refine (chars_Union.calls _ _ [isUpper, isLower] (by simp) _ (SetsAt.two _ _ _ _) (by simp)).mono ?_
 rintro e w9 ⟨rfl, hb⟩
 have S9 := Lib.hid ((S2.out.alloc _).step hb)
 clear hb S2
 rw [show setV (anyOf [isUpper, isLower]) = setV isAlpha from setV_ext fun j _ => by simp [anyOf, isAlpha]]
 unfold setV
 have r0 := S9.out.r.cell 0 (by omega)
 have r1 := S9.out.r.cell 1 (by omega)
 have r2 := S9.out.r.cell 2 (by omega)
 have r3 := S9.out.r.cell 3 (by omega)
 have f0 := S9.out.r.free 0 (by omega)
 have f1 := S9.out.r.free 1 (by omega)
 have f2 := S9.out.r.free 2 (by omega)
 have f3 := S9.out.r.free 3 (by omega)
 go_wp2
 refine bodyPost_ret (v := setV isAlpha) ?_ rfl ⟨rfl, S9.out.done _ _ _ _⟩
 simp [results, Tryz.results114, go_sem, setV, r0, r1, r2, r3]
set_option maxHeartbeats 800000 in
theorem chars_Hex.calls (r : Nat → Bool) (w : World) (h : chars_Hex.f = some r) :
 Calls Tryz.prog 126 #[] w fun e w' => e = .returned (setV r) ∧ Below w.heap.size w w' := by
 injection h with h
 subst h
 go_enter Tryz.func126, Tryz.ntmps126
 have S0 := Lib.hid (Res.new w)
 go_wp2_with fail
 refine (chars_Digit.calls _ _ rfl).mono ?_
 rintro e w1 ⟨rfl, hb⟩
 have S1 := Lib.hid (S0.out.step hb)
 clear hb S0
 go_wp2_with fail
 refine (chars_Range.calls 65 70 (by omega) (by omega) (by omega) (by omega) _).mono ?_
 rintro e w2 ⟨rfl, hb⟩
 have S2 := Lib.hid (S1.out.step hb)
 clear hb S1
 go_wp2_with fail
 refine (chars_Range.calls 97 102 (by omega) (by omega) (by omega) (by omega) _).mono ?_
 rintro e w3 ⟨rfl, hb⟩
 have S3 := Lib.hid (S2.out.step hb)
 clear hb S2
 unfold setV
 go_wp2_with fail
 refine (chars_Union.calls _ _ [isDigit, isAF, isaf] (by simp) _ (SetsAt.three _ _ _ _ _) (by simp)).mono ?_
 rintro e w9 ⟨rfl, hb⟩
 have S9 := Lib.hid ((S3.out.alloc _).step hb)
 clear hb S3
 rw [show setV (anyOf [isDigit, isAF, isaf]) = setV isHex from setV_ext fun j _ => by simp [anyOf, isHex, Bool.or_assoc]]
 unfold setV
 have r0 := S9.out.r.cell 0 (by omega)
 have r1 := S9.out.r.cell 1 (by omega)
 have r2 := S9.out.r.cell 2 (by omega)
 have r3 := S9.out.r.cell 3 (by omega)
 have f0 := S9.out.r.free 0 (by omega)
 have f1 := S9.out.r.free 1 (by omega)
 have f2 := S9.out.r.free 2 (by omega)
 have f3 := S9.out.r.free 3 (by omega)
 go_wp2
 refine bodyPost_ret (v := setV isHex) ?_ rfl ⟨rfl, S9.out.done _ _ _ _⟩
 simp [results, Tryz.results126, go_sem, setV, r0, r1, r2, r3]
set_option maxHeartbeats 800000 in
theorem chars_Word.calls (r : Nat → Bool) (w : World) (h : chars_Word.f = some r) :
 Calls Tryz.prog 178 #[] w fun e w' => e = .returned (setV r) ∧ Below w.heap.size w w' := by
 injection h with h
 subst h
 go_enter Tryz.func178, Tryz.ntmps178
 have S0 := Lib.hid (Res.new w)
 go_wp2_with fail
 refine (chars_Alpha.calls _ _ rfl).mono ?_
 rintro e w1 ⟨rfl, hb⟩
 have S1 := Lib.hid (S0.out.step hb)
 clear hb S0
 go_wp2_with fail
 refine (chars_Digit.calls _ _ rfl).mono ?_
 rintro e w2 ⟨rfl, hb⟩
 have S2 := Lib.hid (S1.out.step hb)
 clear hb S1
 go_wp2_with fail
 refine (chars_Of.calls ⟨#[95]⟩ (by decide) _).mono ?_
 rintro e w3 ⟨rfl, hb⟩
 have S3 := Lib.hid (S2.out.step hb)
 clear hb S2
 unfold setV
 go_wp2_with fail
 refine (chars_Union.calls _ _ [isAlpha, isDigit, inText ⟨#[95]⟩] (by simp) _ (SetsAt.three _ _ _ _ _) (by simp)).mono ?_
 rintro e w9 ⟨rfl, hb⟩
 have S9 := Lib.hid ((S3.out.alloc _).step hb)
 clear hb S3
 rw [show setV (anyOf [isAlpha, isDigit, inText ⟨#[95]⟩]) = setV isWord from setV_ext fun j _ => by simp [anyOf, isWord, Bool.or_assoc, inText]]
 unfold setV
 have r0 := S9.out.r.cell 0 (by omega)
 have r1 := S9.out.r.cell 1 (by omega)
 have r2 := S9.out.r.cell 2 (by omega)
 have r3 := S9.out.r.cell 3 (by omega)
 have f0 := S9.out.r.free 0 (by omega)
 have f1 := S9.out.r.free 1 (by omega)
 have f2 := S9.out.r.free 2 (by omega)
 have f3 := S9.out.r.free 3 (by omega)
 go_wp2
 refine bodyPost_ret (v := setV isWord) ?_ rfl ⟨rfl, S9.out.done _ _ _ _⟩
 simp [results, Tryz.results178, go_sem, setV, r0, r1, r2, r3]
set_option maxHeartbeats 800000 in
theorem chars_Literal.calls (r : Nat → Bool) (w : World) (h : chars_Literal.f = some r) :
 Calls Tryz.prog 153 #[] w fun e w' => e = .returned (setV r) ∧ Below w.heap.size w w' := by
 injection h with h
 subst h
 go_enter Tryz.func153, Tryz.ntmps153
 have S0 := Lib.hid (Res.new w)
 go_wp2_with fail
 refine (chars_Range.calls 33 126 (by omega) (by omega) (by omega) (by omega) _).mono ?_
 rintro e w1 ⟨rfl, hb⟩
 have S1 := Lib.hid (S0.out.step hb)
 clear hb S0
 go_wp2_with fail
 refine (chars_Of.calls ⟨#[34, 39, 37, 60, 62, 92, 94, 96, 123, 124, 125]⟩ (by decide) _).mono ?_
 rintro e w2 ⟨rfl, hb⟩
 have S2 := Lib.hid (S1.out.step hb)
 clear hb S1
 go_wp2_with fail
 refine (chars_Minus.calls _ _ _).mono ?_
 rintro e w3 ⟨rfl, hb⟩
 have S9 := Lib.hid (S2.out.step hb)
 clear hb S2
 rw [show (setV fun j => (decide ((33 : Int) ≤ (j : Int)) && decide ((j : Int) ≤ 126)) && !inText ⟨#[34, 39, 37, 60, 62, 92, 94, 96, 123, 124, 125]⟩ j) = setV isLit from rfl]
 unfold setV
 have r0 := S9.out.r.cell 0 (by omega)
 have r1 := S9.out.r.cell 1 (by omega)
 have r2 := S9.out.r.cell 2 (by omega)
 have r3 := S9.out.r.cell 3 (by omega)
 have f0 := S9.out.r.free 0 (by omega)
 have f1 := S9.out.r.free 1 (by omega)
 have f2 := S9.out.r.free 2 (by omega)
 have f3 := S9.out.r.free 3 (by omega)
 go_wp2
 refine bodyPost_ret (v := setV isLit) ?_ rfl ⟨rfl, S9.out.done _ _ _ _⟩
 simp [results, Tryz.results153, go_sem, setV, r0, r1, r2, r3]
end Go.Proofs.YtlocbpaikdgmbaaGreatDoor.P
end
section
namespace Go.Proofs.YtlocbpaikdgmbaaGreatDoor.P
open Go.RowKit Go.Proofs.YtlocbpaikdgmbaaGreatDoorW.PrintWords Go.Proofs.YtlocbpaikdgmbaaGreatDoorW.PrintLast Go.Proofs.YtlocbpaikdgmbaaGreatDoorW.PrintMore
set_option linter.unusedVariables false
def isUnres (c : Nat) : Bool := isAlpha c || isDigit c || inText ⟨#[45, 46, 95, 126]⟩ c
def isResv : Nat → Bool := inText ⟨#[58, 47, 63, 35, 91, 93, 64, 33, 36, 38, 39, 40, 41, 42, 43, 44, 59, 61]⟩
def chars_Unreserved.f : Option (Nat → Bool) := some isUnres
def chars_Reserved.f : Option (Nat → Bool) := some isResv
set_option maxHeartbeats 800000 in
theorem chars_Unreserved.calls (r : Nat → Bool) (w : World) (h : chars_Unreserved.f = some r) :
 Calls Tryz.prog 83 #[] w fun e w' => e = .returned (setV r) ∧ Below w.heap.size w w' := by
 injection h with h
 subst h
 go_enter Tryz.func83, Tryz.ntmps83
 have S0 := Lib.hid (Res.new w)
 go_wp2_with fail
 refine (chars_Alpha.calls _ _ rfl).mono ?_
 rintro e w1 ⟨rfl, hb⟩
 have S1 := Lib.hid (S0.out.step hb)
 clear hb S0
 go_wp2_with fail
 refine (chars_Digit.calls _ _ rfl).mono ?_
 rintro e w2 ⟨rfl, hb⟩
 have S2 := Lib.hid (S1.out.step hb)
 clear hb S1
 go_wp2_with fail
 refine (chars_Of.calls ⟨#[45, 46, 95, 126]⟩ (by decide) _).mono ?_
 rintro e w3 ⟨rfl, hb⟩
 have S3 := Lib.hid (S2.out.step hb)
 clear hb S2
 unfold setV
 go_wp2_with fail
 refine (chars_Union.calls _ _ [isAlpha, isDigit, inText ⟨#[45, 46, 95, 126]⟩] (by simp) _ (SetsAt.three _ _ _ _ _) (by simp)).mono ?_
 rintro e w9 ⟨rfl, hb⟩
 have S9 := Lib.hid ((S3.out.alloc _).step hb)
 clear hb S3
 rw [show setV (anyOf [isAlpha, isDigit, inText ⟨#[45, 46, 95, 126]⟩]) = setV isUnres from setV_ext fun j _ => by simp [anyOf, isUnres, Bool.or_assoc]]
 unfold setV
 have r0 := S9.out.r.cell 0 (by omega)
 have r1 := S9.out.r.cell 1 (by omega)
 have r2 := S9.out.r.cell 2 (by omega)
 have r3 := S9.out.r.cell 3 (by omega)
 have f0 := S9.out.r.free 0 (by omega)
 have f1 := S9.out.r.free 1 (by omega)
 have f2 := S9.out.r.free 2 (by omega)
 have f3 := S9.out.r.free 3 (by omega)
 go_wp2
 refine bodyPost_ret (v := setV isUnres) ?_ rfl ⟨rfl, S9.out.done _ _ _ _⟩
 simp [results, Tryz.results83, go_sem, setV, r0, r1, r2, r3]
set_option maxHeartbeats 400000 in
theorem chars_Reserved.calls (r : Nat → Bool) (w : World) (h : chars_Reserved.f = some r) :
 Calls Tryz.prog 85 #[] w fun e w' => e = .returned (setV r) ∧ Below w.heap.size w w' := by
 injection h with h
 have HR := Lib.hid (show inText ⟨#[58, 47, 63, 35, 91, 93, 64, 33, 36, 38, 39, 40, 41, 42, 43, 44, 59, 61]⟩ = r from h)
 clear h
 go_enter Tryz.func85, Tryz.ntmps85
 go_wp2_with fail
 refine (chars_Of.calls ⟨#[58, 47, 63, 35, 91, 93, 64, 33, 36, 38, 39, 40, 41, 42, 43, 44, 59, 61]⟩ (by decide) _).mono ?_
 rintro e w1 ⟨rfl, hb⟩
 rw [HR.out]
 have S := Lib.hid ((Res.new w).step hb)
 clear hb
 unfold setV
 have r0 := S.out.r.cell 0 (by omega)
 have r1 := S.out.r.cell 1 (by omega)
 have r2 := S.out.r.cell 2 (by omega)
 have r3 := S.out.r.cell 3 (by omega)
 have f0 := S.out.r.free 0 (by omega)
 have f1 := S.out.r.free 1 (by omega)
 have f2 := S.out.r.free 2 (by omega)
 have f3 := S.out.r.free 3 (by omega)
 go_wp2
 refine bodyPost_ret (v := setV r) ?_ rfl ⟨rfl, S.out.done _ _ _ _⟩
 simp [results, Tryz.results85, go_sem, setV, r0, r1, r2, r3]
end Go.Proofs.YtlocbpaikdgmbaaGreatDoor.P
end
section
namespace Go.Proofs.YtlocbpaikdgmbaaGreatDoor.P
open Go.RowKit Go.Proofs.YtlocbpaikdgmbaaGreatDoorW.PrintWords Go.Proofs.YtlocbpaikdgmbaaGreatDoorW.PrintLast Go.Proofs.YtlocbpaikdgmbaaGreatDoorW.PrintMore
attribute [local go_sem] max2_int min2_int max_two min_two max_three min_three max_four min_four
set_option linter.unusedVariables false
set_option linter.unusedSimpArgs false
mutual
def pct_Digit.j0 : Nat → Int → Bool → Option (Int × Bool)
 | 0, _, _ => none
 | k + 1, x0, x4 => if x4 = true then (some ((x0 - 48) % 256, true)) else (if x0 ≥ 65 then (pct_Digit.j1 k x0 (decide (x0 ≤ 70))) else (pct_Digit.j1 k x0 false))
def pct_Digit.j1 : Nat → Int → Bool → Option (Int × Bool)
 | 0, _, _ => none
 | k + 1, x0, x14 => if x14 = true then (some (((x0 - 65) % 256) + 10, true)) else (if x0 ≥ 97 then (if x0 ≤ 102 then (some (((x0 - 97) % 256) + 10, true)) else (some (0, false))) else (some (0, false)))
end
def pct_Digit.f (k : Nat) (a0 : Int) : Option (Int × Bool) := if a0 ≥ 48 then (pct_Digit.j0 k a0 (decide (a0 ≤ 57))) else (pct_Digit.j0 k a0 false)
theorem pct_Digit.mono_l : ∀ k, (∀ y0 y1, LeO (pct_Digit.j0 k y0 y1) (pct_Digit.j0 (k + 1) y0 y1)) ∧ (∀ y0 y1, LeO (pct_Digit.j1 k y0 y1) (pct_Digit.j1 (k + 1) y0 y1))
 | 0 => ⟨fun _ _ r h => by simp [pct_Digit.j0] at h, fun _ _ r h => by simp [pct_Digit.j1] at h⟩
 | k + 1 => by
  obtain ⟨ih0, ih1⟩ := pct_Digit.mono_l k
  refine ⟨?_, ?_⟩
  · intro y0 y1
    unfold pct_Digit.j0
    repeat' first
    | (with_reducible exact ih0 _ _)
    | (with_reducible exact ih1 _ _)
    | (with_reducible exact LeO.refl _)
    | (with_reducible exact LeO.none _)
    | (with_reducible refine LeO.ite ?_ ?_)
    | (with_reducible refine LeO.bind ?_ (fun _ => ?_))
    | exact ih0 _ _
    | exact ih1 _ _
    | exact LeO.none _
    | refine LeO.ite ?_ ?_
    | refine LeO.bind ?_ (fun _ => ?_)
  · intro y0 y1
    unfold pct_Digit.j1
    repeat' first
    | (with_reducible exact ih0 _ _)
    | (with_reducible exact ih1 _ _)
    | (with_reducible exact LeO.refl _)
    | (with_reducible exact LeO.none _)
    | (with_reducible refine LeO.ite ?_ ?_)
    | (with_reducible refine LeO.bind ?_ (fun _ => ?_))
    | exact ih0 _ _
    | exact ih1 _ _
    | exact LeO.none _
    | refine LeO.ite ?_ ?_
    | refine LeO.bind ?_ (fun _ => ?_)
theorem pct_Digit.mono : ∀ a0 k, LeO (pct_Digit.f k a0) (pct_Digit.f (k + 1) a0) := by
 intro a0 k
 obtain ⟨ih0, ih1⟩ := pct_Digit.mono_l k
 unfold pct_Digit.f
 repeat' first
  | (with_reducible exact ih0 _ _)
  | (with_reducible exact ih1 _ _)
  | (with_reducible exact LeO.refl _)
  | (with_reducible exact LeO.none _)
  | (with_reducible refine LeO.ite ?_ ?_)
  | (with_reducible refine LeO.bind ?_ (fun _ => ?_))
  | exact ih0 _ _
  | exact ih1 _ _
  | exact LeO.none _
  | refine LeO.ite ?_ ?_
  | refine LeO.bind ?_ (fun _ => ?_)
set_option maxHeartbeats 8000000 in
set_option maxRecDepth 100000 in
theorem pct_Digit.calls (k : Nat) (a0 : Int) (r1 : Int) (r2 : Bool) (w : World) (h : pct_Digit.f k a0 = some (r1, r2)) :
 Calls Tryz.prog 146 #[.int .u8 a0] w fun e w' => e = .returned (.tuple #[.int .i64 r1, .bool r2]) ∧ Drawn0 w w' := by
 have H : (if a0 ≥ 48 then (pct_Digit.j0 k a0 (decide (a0 ≤ 57))) else (pct_Digit.j0 k a0 false)) = some (r1, r2) := h
 clear h
 have HC2 := Aside0.mk H
 clear H
 go_enter Tryz.func146, Tryz.ntmps146
 go_upto_region 1 with (fail)
 go_cut [4] (fun v4 wc => ∃ (kq : Nat) (x4_1 : Bool), v4 = .bool x4_1 ∧ Aside0 (pct_Digit.j0 kq a0 x4_1 = some (r1, r2)) ∧ Aside0 (kq ≤ k) ∧ Drawn0 w wc)
 case first =>
  have H := HC2.out
  clear HC2
  by_cases c3 : a0 ≥ 48
  · rw [if_pos c3] at H
    have c3b0 : decide (48 ≤ a0) = true := decide_eq_true c3
    clear c3
    (first | rw [c3b0] | (simp only [i64_w, i32_w]; rw [c3b0]) | skip)
    have H' := Aside0.mk H
    clear H
    go_wp2
    go_meet
    case rel => exact ⟨_, (decide (a0 ≤ 57)), (by first | rfl | (simp; done) | (simp [*]; done)), H', ⟨by first | omega | exact Nat.le_refl _⟩, by repeat (first | exact Drawn0.refl _ | apply Drawn0.step)⟩
  · rw [if_neg c3] at H
    have c3b0 : decide (48 ≤ a0) = false := decide_eq_false c3
    clear c3
    (first | rw [c3b0] | (simp only [i64_w, i32_w]; rw [c3b0]) | skip)
    have H' := Aside0.mk H
    clear H
    go_wp2
    go_meet
    case rel => exact ⟨_, (false), (by first | rfl | (simp; done) | (simp [*]; done)), H', ⟨by first | omega | exact Nat.le_refl _⟩, by repeat (first | exact Drawn0.refl _ | apply Drawn0.step)⟩
 case rest =>
  clear HC2
  try clear c1
  try clear p2
  try clear c3
  try clear c3b0
  obtain ⟨kq, x4_1, rfl, HA, HJ1, ⟨mc1, rfl⟩⟩ := hcut
  cases kq with
  | zero => exact absurd HA.out (by simp [pct_Digit.j0])
  | succ kj1 =>
   have H := HA.out
   clear HA
   simp only [pct_Digit.j0] at H
   by_cases c4 : x4_1 = true
   · subst c4
     have H1 : (some ((a0 - 48) % 256, true)) = some (r1, r2) := by rw [if_pos rfl] at H; exact H
     clear H
     have H := H1
     clear H1
     simp only [Option.some.injEq, Prod.mk.injEq] at H
     obtain ⟨rfl, rfl⟩ := H
     go_wp2
     go_ret2
     exact ⟨by first | rfl | (simp; done) | (simp [*]; done), by repeat (first | exact Drawn0.refl _ | apply Drawn0.step)⟩
   · replace c4 := Bool.eq_false_iff.mpr c4
     subst c4
     have H1 : (if a0 ≥ 65 then (pct_Digit.j1 kj1 a0 (decide (a0 ≤ 70))) else (pct_Digit.j1 kj1 a0 false)) = some (r1, r2) := by rw [if_neg (show ¬ (false = true) by decide)] at H; exact H
     clear H
     have H := H1
     clear H1
     have HC5 := Aside0.mk H
     clear H
     go_upto_region 3 with (fail)
     go_cut [14] (fun v14 wc => ∃ (kq : Nat) (x14_4 : Bool), v14 = .bool x14_4 ∧ Aside0 (pct_Digit.j1 kq a0 x14_4 = some (r1, r2)) ∧ Aside0 (kq ≤ kj1) ∧ Drawn0 w wc)
     case first =>
      have H := HC5.out
      clear HC5
      by_cases c6 : a0 ≥ 65
      · rw [if_pos c6] at H
        have c6b0 : decide (65 ≤ a0) = true := decide_eq_true c6
        clear c6
        (first | rw [c6b0] | (simp only [i64_w, i32_w]; rw [c6b0]) | skip)
        have H' := Aside0.mk H
        clear H
        go_wp2
        go_meet
        case rel => exact ⟨_, (decide (a0 ≤ 70)), (by first | rfl | (simp; done) | (simp [*]; done)), H', ⟨by have := HJ1.out; first | omega | exact Nat.le_refl _⟩, by repeat (first | exact Drawn0.refl _ | apply Drawn0.step)⟩
      · rw [if_neg c6] at H
        have c6b0 : decide (65 ≤ a0) = false := decide_eq_false c6
        clear c6
        (first | rw [c6b0] | (simp only [i64_w, i32_w]; rw [c6b0]) | skip)
        have H' := Aside0.mk H
        clear H
        go_wp2
        go_meet
        case rel => exact ⟨_, (false), (by first | rfl | (simp; done) | (simp [*]; done)), H', ⟨by have := HJ1.out; first | omega | exact Nat.le_refl _⟩, by repeat (first | exact Drawn0.refl _ | apply Drawn0.step)⟩
     case rest =>
      clear HC5
      try clear c1
      try clear p2
      try clear c3
      try clear c3b0
      try clear c4
      try clear c6
      try clear c6b0
      try clear p2
      obtain ⟨kq, x14_4, rfl, HA, HJ4, ⟨mc4, rfl⟩⟩ := hcut
      cases kq with
      | zero => exact absurd HA.out (by simp [pct_Digit.j1])
      | succ kj4 =>
       have H := HA.out
       clear HA
       simp only [pct_Digit.j1] at H
       by_cases c7 : x14_4 = true
       · subst c7
         have H1 : (some (((a0 - 65) % 256) + 10, true)) = some (r1, r2) := by rw [if_pos rfl] at H; exact H
         clear H
         have H := H1
         clear H1
         simp only [Option.some.injEq, Prod.mk.injEq] at H
         obtain ⟨rfl, rfl⟩ := H
         go_wp2
         go_ret2
         exact ⟨by first | rfl | (simp; done) | (simp [*]; done), by repeat (first | exact Drawn0.refl _ | apply Drawn0.step)⟩
       · replace c7 := Bool.eq_false_iff.mpr c7
         subst c7
         have H1 : (if a0 ≥ 97 then (if a0 ≤ 102 then (some (((a0 - 97) % 256) + 10, true)) else (some (0, false))) else (some (0, false))) = some (r1, r2) := by rw [if_neg (show ¬ (false = true) by decide)] at H; exact H
         clear H
         have H := H1
         clear H1
         by_cases c8 : a0 ≥ 97
         · rw [if_pos c8] at H
           have c8b0 : decide (97 ≤ a0) = true := decide_eq_true c8
           clear c8
           by_cases c9 : a0 ≤ 102
           · rw [if_pos c9] at H
             have c9b0 : decide (a0 ≤ 102) = true := decide_eq_true c9
             clear c9
             simp only [Option.some.injEq, Prod.mk.injEq] at H
             obtain ⟨rfl, rfl⟩ := H
             go_wp2
             go_ret2
             exact ⟨by first | rfl | (simp; done) | (simp [*]; done), by repeat (first | exact Drawn0.refl _ | apply Drawn0.step)⟩
           · rw [if_neg c9] at H
             have c9b0 : decide (a0 ≤ 102) = false := decide_eq_false c9
             clear c9
             simp only [Option.some.injEq, Prod.mk.injEq] at H
             obtain ⟨rfl, rfl⟩ := H
             go_wp2
             go_ret2
             exact ⟨by first | rfl | (simp; done) | (simp [*]; done), by repeat (first | exact Drawn0.refl _ | apply Drawn0.step)⟩
         · rw [if_neg c8] at H
           have c8b0 : decide (97 ≤ a0) = false := decide_eq_false c8
           clear c8
           simp only [Option.some.injEq, Prod.mk.injEq] at H
           obtain ⟨rfl, rfl⟩ := H
           go_wp2
           go_ret2
           exact ⟨by first | rfl | (simp; done) | (simp [*]; done), by repeat (first | exact Drawn0.refl _ | apply Drawn0.step)⟩
def pct_value.j0 : Nat → ByteArray → Bool → Option (Int × Bool)
 | 0, _, _ => none
 | k + 1, x0, x15 => if x15 = true then (some (0, false)) else (if 1 < (x0.size : Int) then ((pct_Digit.f k (bt x0 1)).bind fun bt614 => (if 2 < (x0.size : Int) then ((pct_Digit.f k (bt x0 2)).bind fun bt616 => (if bt614.2 = true then (some ((wrap64 ((wrap64 (16 * bt614.1)) + bt616.1)) % 256, bt616.2)) else (some ((wrap64 ((wrap64 (16 * bt614.1)) + bt616.1)) % 256, false)))) else (none))) else (none))
def pct_value.f (k : Nat) (a0 : ByteArray) : Option (Int × Bool) := if (a0.size : Int) < 3 then (pct_value.j0 k a0 true) else (if 0 < (a0.size : Int) then (pct_value.j0 k a0 ((bt a0 0) != 37)) else (none))
set_option maxHeartbeats 8000000 in
set_option maxRecDepth 100000 in
theorem pct_value.calls (k : Nat) (a0 : ByteArray) (r1 : Int) (r2 : Bool) (w : World) (h : pct_value.f k a0 = some (r1, r2)) :
 Calls Tryz.prog 117 #[.string a0] w fun e w' => e = .returned (.tuple #[.int .u8 r1, .bool r2]) ∧ Drawn0 w w' := by
 have H : (if (a0.size : Int) < 3 then (pct_value.j0 k a0 true) else (if 0 < (a0.size : Int) then (pct_value.j0 k a0 ((bt a0 0) != 37)) else (none))) = some (r1, r2) := h
 clear h
 have HC2 := Aside0.mk H
 clear H
 go_enter Tryz.func117, Tryz.ntmps117
 go_upto_region 1 with (fail)
 go_cut [15] (fun v15 wc => ∃ (kq : Nat) (x15_1 : Bool), v15 = .bool x15_1 ∧ Aside0 (pct_value.j0 kq a0 x15_1 = some (r1, r2)) ∧ Aside0 (kq ≤ k) ∧ Drawn0 w wc)
 case first =>
  have H := HC2.out
  clear HC2
  by_cases c3 : (a0.size : Int) < 3
  · rw [if_pos c3] at H
    have c3b0 : decide ((a0.size : Int) < 3) = true := decide_eq_true c3
    have c3b1 : decide (a0.size < 3) = true := decide_eq_true (by omega)
    clear c3
    (first | rw [c3b0] | (simp only [i64_w, i32_w]; rw [c3b0]) | skip)
    have H' := Aside0.mk H
    clear H
    go_wp2
    go_meet
    case rel => exact ⟨_, (true), (by first | rfl | (simp; done) | (simp [*]; done)), H', ⟨by first | omega | exact Nat.le_refl _⟩, by repeat (first | exact Drawn0.refl _ | apply Drawn0.step)⟩
  · rw [if_neg c3] at H
    have c3b0 : decide ((a0.size : Int) < 3) = false := decide_eq_false c3
    have c3b1 : decide (a0.size < 3) = false := decide_eq_false (by omega)
    clear c3
    (first | rw [c3b0] | (simp only [i64_w, i32_w]; rw [c3b0]) | skip)
    by_cases c4 : 0 < (a0.size : Int)
    · rw [if_pos c4] at H
      have c4b0 : decide (0 < (a0.size : Int)) = true := decide_eq_true c4
      have c4b1 : decide (0 < a0.size) = true := decide_eq_true (by omega)
      clear c4
      have H' := Aside0.mk H
      clear H
      have p5 : 0 ≤ (0 : Int) := (by omega)
      have q5 : 0 < a0.size := (by have : (0 : Int) < (a0.size : Int) := of_decide_eq_true (by first | (with_reducible assumption) | assumption); omega)
      have hx5 : ∀ h : 0 < a0.size, ((a0[0]'h).toNat : Int) = bt a0 0 := bt_at a0 0
      clear p5
      have qi5 : (0 < (a0.size : Int)) = True := eq_true (of_decide_eq_true (by first | (with_reducible assumption) | assumption))
      replace q5 := eq_true q5
      go_wp2
      go_meet
      case rel => exact ⟨_, (((bt a0 0) != 37)), (by first | rfl | (simp; done) | (simp [*]; done)), H', ⟨by first | omega | exact Nat.le_refl _⟩, by repeat (first | exact Drawn0.refl _ | apply Drawn0.step)⟩
    · rw [if_neg c4] at H
      exact absurd H (by simp)
 case rest =>
  clear HC2
  try clear c1
  try clear p2
  try clear c3
  try clear c3b0
  try clear c3b1
  try clear c4
  try clear c4b0
  try clear c4b1
  try clear p5
  try clear q5
  try clear hx5
  try clear qi5
  try clear p5
  try clear q5
  obtain ⟨kq, x15_1, rfl, HA, HJ1, ⟨mc1, rfl⟩⟩ := hcut
  cases kq with
  | zero => exact absurd HA.out (by simp [pct_value.j0])
  | succ kj1 =>
   have H := HA.out
   clear HA
   simp only [pct_value.j0] at H
   by_cases c6 : x15_1 = true
   · subst c6
     have H1 : (some (0, false)) = some (r1, r2) := by rw [if_pos rfl] at H; exact H
     clear H
     have H := H1
     clear H1
     simp only [Option.some.injEq, Prod.mk.injEq] at H
     obtain ⟨rfl, rfl⟩ := H
     go_wp2
     go_ret2
     exact ⟨by first | rfl | (simp; done) | (simp [*]; done), by repeat (first | exact Drawn0.refl _ | apply Drawn0.step)⟩
   · replace c6 := Bool.eq_false_iff.mpr c6
     subst c6
     have H1 : (if 1 < (a0.size : Int) then ((pct_Digit.f kj1 (bt a0 1)).bind fun bt614 => (if 2 < (a0.size : Int) then ((pct_Digit.f kj1 (bt a0 2)).bind fun bt616 => (if bt614.2 = true then (some ((wrap64 ((wrap64 (16 * bt614.1)) + bt616.1)) % 256, bt616.2)) else (some ((wrap64 ((wrap64 (16 * bt614.1)) + bt616.1)) % 256, false)))) else (none))) else (none)) = some (r1, r2) := by rw [if_neg (show ¬ (false = true) by decide)] at H; exact H
     clear H
     have H := H1
     clear H1
     by_cases c7 : 1 < (a0.size : Int)
     · rw [if_pos c7] at H
       have c7b0 : decide (1 < (a0.size : Int)) = true := decide_eq_true c7
       have c7b1 : decide (1 < a0.size) = true := decide_eq_true (by omega)
       clear c7
       replace H := Option.bind_eq_some_iff.mp H
       obtain ⟨⟨t614, t615⟩, A90, H⟩ := H
       replace H : (if 2 < (a0.size : Int) then ((pct_Digit.f kj1 (bt a0 2)).bind fun bt616 => (if t615 = true then (some ((wrap64 ((wrap64 (16 * t614)) + bt616.1)) % 256, bt616.2)) else (some ((wrap64 ((wrap64 (16 * t614)) + bt616.1)) % 256, false)))) else (none)) = some (r1, r2) := H
       have A9 := Aside0.mk A90
       clear A90
       by_cases c10 : 2 < (a0.size : Int)
       · rw [if_pos c10] at H
         have c10b0 : decide (2 < (a0.size : Int)) = true := decide_eq_true c10
         have c10b1 : decide (2 < a0.size) = true := decide_eq_true (by omega)
         clear c10
         replace H := Option.bind_eq_some_iff.mp H
         obtain ⟨⟨t616, t617⟩, A120, H⟩ := H
         replace H : (if t615 = true then (some ((wrap64 ((wrap64 (16 * t614)) + t616)) % 256, t617)) else (some ((wrap64 ((wrap64 (16 * t614)) + t616)) % 256, false))) = some (r1, r2) := H
         have A12 := Aside0.mk A120
         clear A120
         by_cases c13 : t615 = true
         · subst c13
           have H1 : (some ((wrap64 ((wrap64 (16 * t614)) + t616)) % 256, t617)) = some (r1, r2) := by rw [if_pos rfl] at H; exact H
           clear H
           have H := H1
           clear H1
           simp only [Option.some.injEq, Prod.mk.injEq] at H
           obtain ⟨rfl, rfl⟩ := H
           have p8 : 0 ≤ (1 : Int) := (by omega)
           have q8 : 1 < a0.size := (by have : (1 : Int) < (a0.size : Int) := of_decide_eq_true (by first | (with_reducible assumption) | assumption); omega)
           have hx8 : ∀ h : 1 < a0.size, ((a0[1]'h).toNat : Int) = bt a0 1 := bt_at a0 1
           clear p8
           have qi8 : (1 < (a0.size : Int)) = True := eq_true (of_decide_eq_true (by first | (with_reducible assumption) | assumption))
           replace q8 := eq_true q8
           go_wp2_with (first | ((with_reducible refine gate_callee (f := 146) rfl ?_); refine goesL_ (some 19) rfl rfl Tryz.func146 (by kernel_rfl) rfl #[.int .u8 (bt a0 1)] rfl (by (try simp only [List.map_toArray, List.map_cons, List.map_nil]); first | done | rfl | (simp only [List.length_drop, List.length_take]; rfl)) ?_; (with_reducible refine (pct_Digit.calls kj1 (bt a0 1) t614 true _ A9.out).mono ?_); rintro e w' ⟨rfl, ⟨nd, rfl⟩⟩; refine ⟨_, rfl, ?_⟩; have p11 : 0 ≤ (2 : Int) := (by omega); have q11 : 2 < a0.size := (by have : (2 : Int) < (a0.size : Int) := of_decide_eq_true (by first | (with_reducible assumption) | assumption); omega); have hx11 : ∀ h : 2 < a0.size, ((a0[2]'h).toNat : Int) = bt a0 2 := bt_at a0 2; clear p11; have qi11 : (2 < (a0.size : Int)) = True := eq_true (of_decide_eq_true (by first | (with_reducible assumption) | assumption)); replace q11 := eq_true q11) | ((with_reducible refine gate_callee (f := 146) rfl ?_); refine goesL_ (some 25) rfl rfl Tryz.func146 (by kernel_rfl) rfl #[.int .u8 (bt a0 2)] rfl (by (try simp only [List.map_toArray, List.map_cons, List.map_nil]); first | done | rfl | (simp only [List.length_drop, List.length_take]; rfl)) ?_; (with_reducible refine (pct_Digit.calls kj1 (bt a0 2) t616 t617 _ A12.out).mono ?_); rintro e w' ⟨rfl, ⟨nd, rfl⟩⟩; refine ⟨_, rfl, ?_⟩))
           go_ret2
           exact ⟨by first | rfl | (simp; done) | (simp [*]; done), by repeat (first | exact Drawn0.refl _ | apply Drawn0.step)⟩
         · replace c13 := Bool.eq_false_iff.mpr c13
           subst c13
           have H1 : (some ((wrap64 ((wrap64 (16 * t614)) + t616)) % 256, false)) = some (r1, r2) := by rw [if_neg (show ¬ (false = true) by decide)] at H; exact H
           clear H
           have H := H1
           clear H1
           simp only [Option.some.injEq, Prod.mk.injEq] at H
           obtain ⟨rfl, rfl⟩ := H
           have p8 : 0 ≤ (1 : Int) := (by omega)
           have q8 : 1 < a0.size := (by have : (1 : Int) < (a0.size : Int) := of_decide_eq_true (by first | (with_reducible assumption) | assumption); omega)
           have hx8 : ∀ h : 1 < a0.size, ((a0[1]'h).toNat : Int) = bt a0 1 := bt_at a0 1
           clear p8
           have qi8 : (1 < (a0.size : Int)) = True := eq_true (of_decide_eq_true (by first | (with_reducible assumption) | assumption))
           replace q8 := eq_true q8
           go_wp2_with (first | ((with_reducible refine gate_callee (f := 146) rfl ?_); refine goesL_ (some 19) rfl rfl Tryz.func146 (by kernel_rfl) rfl #[.int .u8 (bt a0 1)] rfl (by (try simp only [List.map_toArray, List.map_cons, List.map_nil]); first | done | rfl | (simp only [List.length_drop, List.length_take]; rfl)) ?_; (with_reducible refine (pct_Digit.calls kj1 (bt a0 1) t614 false _ A9.out).mono ?_); rintro e w' ⟨rfl, ⟨nd, rfl⟩⟩; refine ⟨_, rfl, ?_⟩; have p11 : 0 ≤ (2 : Int) := (by omega); have q11 : 2 < a0.size := (by have : (2 : Int) < (a0.size : Int) := of_decide_eq_true (by first | (with_reducible assumption) | assumption); omega); have hx11 : ∀ h : 2 < a0.size, ((a0[2]'h).toNat : Int) = bt a0 2 := bt_at a0 2; clear p11; have qi11 : (2 < (a0.size : Int)) = True := eq_true (of_decide_eq_true (by first | (with_reducible assumption) | assumption)); replace q11 := eq_true q11) | ((with_reducible refine gate_callee (f := 146) rfl ?_); refine goesL_ (some 25) rfl rfl Tryz.func146 (by kernel_rfl) rfl #[.int .u8 (bt a0 2)] rfl (by (try simp only [List.map_toArray, List.map_cons, List.map_nil]); first | done | rfl | (simp only [List.length_drop, List.length_take]; rfl)) ?_; (with_reducible refine (pct_Digit.calls kj1 (bt a0 2) t616 t617 _ A12.out).mono ?_); rintro e w' ⟨rfl, ⟨nd, rfl⟩⟩; refine ⟨_, rfl, ?_⟩))
           go_ret2
           exact ⟨by first | rfl | (simp; done) | (simp [*]; done), by repeat (first | exact Drawn0.refl _ | apply Drawn0.step)⟩
       · rw [if_neg c10] at H
         exact absurd H (by simp)
     · rw [if_neg c7] at H
       exact absurd H (by simp)
def pct_Triplet.f (k : Nat) (a0 : ByteArray) : Option (Bool) := (pct_value.f k a0).bind fun bt618 => (some bt618.2)
set_option maxHeartbeats 8000000 in
set_option maxRecDepth 100000 in
theorem pct_Triplet.calls (k : Nat) (a0 : ByteArray) (r : Bool) (w : World) (h : pct_Triplet.f k a0 = some r) :
 Calls Tryz.prog 87 #[.string a0] w fun e w' => e = .returned (.bool r) ∧ Drawn0 w w' := by
 have H : ((pct_value.f k a0).bind fun bt618 => (some bt618.2)) = some r := h
 clear h
 replace H := Option.bind_eq_some_iff.mp H
 obtain ⟨⟨t618, t619⟩, A20, H⟩ := H
 replace H : (some t619) = some r := H
 have A2 := Aside0.mk A20
 clear A20
 obtain rfl := Option.some.inj H
 go_enter Tryz.func87, Tryz.ntmps87
 go_wp2_with (first | ((with_reducible refine gate_callee (f := 117) rfl ?_); refine goesL_ (some 7) rfl rfl Tryz.func117 (by kernel_rfl) rfl #[.string a0] rfl (by (try simp only [List.map_toArray, List.map_cons, List.map_nil]); first | done | rfl | (simp only [List.length_drop, List.length_take]; rfl)) ?_; (with_reducible refine (pct_value.calls k a0 t618 t619 _ A2.out).mono ?_); rintro e w' ⟨rfl, ⟨nd, rfl⟩⟩; refine ⟨_, rfl, ?_⟩))
 go_ret
 exact ⟨by first | rfl | (simp; done) | (simp [*]; done), by repeat (first | exact Drawn0.refl _ | apply Drawn0.step)⟩
end Go.Proofs.YtlocbpaikdgmbaaGreatDoor.P
end
section
namespace Go.Proofs.YtlocbpaikdgmbaaGreatDoor.P
open Go.RowKit Go.Proofs.YtlocbpaikdgmbaaGreatDoorW.PrintWords Go.Proofs.YtlocbpaikdgmbaaGreatDoorW.PrintLast Go.Proofs.YtlocbpaikdgmbaaGreatDoorW.PrintMore
def isTriplet (s : ByteArray) : Bool := decide (3 ≤ s.size) && (bt s 0 == 37 && (isHex (bt s 1).toNat && isHex (bt s 2).toNat))
theorem pct_Digit_hex (c : Int) (h0 : 0 ≤ c) : ∃ n, pct_Digit.f 3 c = some (n, isHex c.toNat) := by
 have e : (c.toNat : Int) = c := Int.toNat_of_nonneg h0
 unfold pct_Digit.f
 simp only [pct_Digit.j0, pct_Digit.j1, isHex, isDigit, isAF, isaf, e]
 by_cases h1 : c ≥ 48 <;> by_cases h2 : c ≤ 57 <;> by_cases h3 : c ≥ 65 <;> by_cases h4 : c ≤ 70 <;> by_cases h5 : c ≥ 97 <;> by_cases h6 : c ≤ 102 <;> simp [h1, h2, h3, h4, h5, h6] <;> omega
theorem pct_Triplet_eq (s : ByteArray) : pct_Triplet.f 4 s = some (isTriplet s) := by
 unfold pct_Triplet.f pct_value.f isTriplet
 by_cases h : (s.size : Int) < 3
 · have h3 : ¬ 3 ≤ s.size := by omega
   rw [if_pos h]
   simp [pct_value.j0, h3]
 · have h3 : 3 ≤ s.size := by omega
   obtain ⟨n1, e1⟩ := pct_Digit_hex (bt s 1) (bt_range s 1).1
   obtain ⟨n2, e2⟩ := pct_Digit_hex (bt s 2) (bt_range s 2).1
   rw [if_neg h, if_pos (by omega)]
   simp only [pct_value.j0]
   by_cases hp : bt s 0 = 37
   · rw [if_neg (by simp [hp]), if_pos (by omega), e1]
     simp only [Option.bind_some]
     rw [if_pos (by omega), e2]
     simp only [Option.bind_some]
     cases isHex (bt s 1).toNat <;> simp [h3, hp]
   · rw [if_pos (by simp [hp])]
     simp [h3, hp]
def endsFrom (s : ByteArray) : Nat → Int → Int → Int × Int
 | 0, at_, end_ => (at_, end_)
 | k + 1, at_, end_ =>
  if at_ < s.size then
   (if isWord (bt s at_).toNat = true then endsFrom s k (at_ + 1) (at_ + 1)
    else if bt s at_ = 46 ∧ at_ > 0 ∧ at_ = end_ then endsFrom s k (at_ + 1) end_
    else if isTriplet (s.extract at_.toNat s.size) = true then endsFrom s k (at_ + 3) (at_ + 3)
    else if bt s at_ = 37 then (if at_ + 1 < s.size ∧ isHex (bt s (at_ + 1)).toNat = true then (at_ + 2, end_) else (at_ + 1, end_))
    else (at_, end_))
  else (at_, end_)
def vname_ends.f (s : ByteArray) : Option (Int × Int) := if s.size ≤ 1099511627776 then some (endsFrom s (s.size + 1) 0 0) else none
structure Sets2 (w wr : World) (g h : Nat) : Prop where
 s : Four wr g (wd isWord)
 x : Four wr h (wd isHex)
 b : Below w.heap.size w wr
theorem Sets2.step {w wr w1 : World} {g h : Nat} (H : Sets2 w wr g h) (hb : Below wr.heap.size wr w1) : Sets2 w w1 g h :=
 ⟨H.s.kept (hb.block _ H.s.lt), H.x.kept (hb.block _ H.x.lt), below_then H.b H.b.size hb⟩
set_option maxRecDepth 100000 in
set_option maxHeartbeats 8000000 in
theorem vname_ends.calls (s : ByteArray) (r1 r2 : Int) (w : World) (h : vname_ends.f s = some (r1, r2)) :
 Calls Tryz.prog 171 #[.string s] w fun e w' => e = .returned (.tuple #[.int .i64 r1, .int .i64 r2]) ∧ Below w.heap.size w w' := by
 unfold vname_ends.f at h
 split at h
 · rename_i hs
   injection h with h
   have HR := Lib.hid h
   clear h
   go_enter Tryz.func171, Tryz.ntmps171
   go_wp2_with fail
   go_step3
   go_wp2_with fail
   refine (chars_Word.calls _ _ rfl).mono ?_
   rintro e w1 ⟨rfl, hb⟩
   have HB := Lib.hid hb
   clear hb
   go_wp2_with fail
   refine (chars_Hex.calls _ _ rfl).mono ?_
   rintro e w2 ⟨rfl, hb⟩
   have HB2 := Lib.hid (below_then HB.out HB.out.size hb)
   clear hb HB
   unfold setV
   go_wp2
   go_step3
   go_wp2
   go_loopw [6, 7, 8] (fun a z _ wr => ∃ (k : Nat) (x y : Int), a = .int .i64 x ∧ z = .int .i64 y ∧ 0 ≤ x ∧ x ≤ s.size + 2 ∧ s.size < x + k ∧ Hid (endsFrom s k x y = (r1, r2)) ∧ Hid (Sets2 w wr w2.heap.size (w2.heap.size + 1))) (fun a _ _ _ => s.size + 3 - (intOf a).toNat)
   case atStart =>
    exact ⟨s.size + 1, 0, 0, rfl, rfl, by omega, by omega, by omega, HR, Lib.hid ⟨(Four.newP w2 isWord _).alloc _, by have := Four.newP (w2.alloc (.cells #[.int .u64 (wd isWord 0), .int .u64 (wd isWord 1), .int .u64 (wd isWord 2), .int .u64 (wd isWord 3)] 141)) isHex 141; simpa using this, (HB2.out.alloc HB2.out.size _).alloc (by simp; have := HB2.out.size; omega) _⟩⟩
   case round =>
    obtain ⟨k, x, y, rfl, rfl, hx0, hx1, hk, HE, HS⟩ := hrel
    have c0 := HS.out.s.cell 0 (by omega)
    have c1 := HS.out.s.cell 1 (by omega)
    have c2 := HS.out.s.cell 2 (by omega)
    have c3 := HS.out.s.cell 3 (by omega)
    by_cases hlt : x < s.size
    · cases k with
      | zero => omega
      | succ k =>
      have hE := HE.out
      rw [endsFrom, if_pos hlt] at hE
      have hix := bt_at s x
      have hcr := bt_range s x
      obtain ⟨c, hc⟩ : ∃ c, c = bt s x := ⟨_, rfl⟩
      rw [← hc] at hE hcr hix
      obtain ⟨hc0, hc1⟩ := hcr
      clear hc
      have hsl : ∀ W : World, (Instr.slice 9 (.string s) (some (.int .i64 x)) none none).run Tryz.prog W = .ok (.string (s.extract x.toNat s.size)) W := fun W => run_slice_string_l W 9 s Tryz.underlying9 .i64 x hx0 (by omega)
      go_wp2_with fail
      refine (chars_Set_Has.calls isWord c (isWord c.toNat) _ (by rw [chars_Set_Has.f, if_pos ⟨hc0, hc1⟩])).mono ?_
      rintro e w3 ⟨rfl, hb⟩
      have HS3 := Lib.hid (HS.out.step hb)
      clear hb HS c0 c1 c2 c3 HE
      obtain ⟨b, hb⟩ : ∃ b, b = isWord c.toNat := ⟨_, rfl⟩
      rw [← hb] at hE ⊢
      clear hb
      cases b with
      | true =>
       rw [if_pos rfl] at hE
       have HE1 := Lib.hid hE
       clear hE
       go_wp2
       go_roundw
       case rel => exact ⟨k, x + 1, x + 1, by go_num, by go_num, by omega, by omega, by omega, HE1, HS3⟩
       case measure => simp [intOf]; omega
      | false =>
       rw [if_neg (by simp)] at hE
       by_cases hA : c = 46 ∧ x > 0 ∧ x = y
       · rw [if_pos hA] at hE
         have HE1 := Lib.hid hE
         have q1 : (c == 46) = true := beq_iff_eq.2 hA.1
         have q2 : decide (0 < x) = true := decide_eq_true hA.2.1
         have q3 : (x == y) = true := beq_iff_eq.2 hA.2.2
         clear hE hA
         go_wp2
         go_roundw
         case rel => exact ⟨k, x + 1, y, by go_num, rfl, by omega, by omega, by omega, HE1, HS3⟩
         case measure => simp [intOf]; omega
       · rw [if_neg hA] at hE
         have hq : (c == 46) = false ∨ ((c == 46) = true ∧ decide (0 < x) = false) ∨ ((c == 46) = true ∧ decide (0 < x) = true ∧ (x == y) = false) := by
          by_cases h1 : c = 46
          · by_cases h2 : 0 < x
            · exact .inr (.inr ⟨beq_iff_eq.2 h1, decide_eq_true h2, beq_eq_false_iff_ne.2 (fun h3 => hA ⟨h1, h2, h3⟩)⟩)
            · exact .inr (.inl ⟨beq_iff_eq.2 h1, decide_eq_false h2⟩)
          · exact .inl (beq_eq_false_iff_ne.2 h1)
         clear hA
         rcases hq with q1 | ⟨q1, q2⟩ | ⟨q1, q2, q3⟩
         all_goals
          go_wp2_with fail
          refine (pct_Triplet.calls 4 _ _ _ (pct_Triplet_eq (s.extract x.toNat s.size))).mono ?_
          rintro e w4 ⟨rfl, hb⟩
          have HS4 := Lib.hid (HS3.out.step hb.below)
          clear hb HS3
          obtain ⟨tr, htr⟩ : ∃ b, b = isTriplet (s.extract x.toNat s.size) := ⟨_, rfl⟩
          rw [← htr] at hE ⊢
          have HTr := Lib.hid htr
          clear htr
          cases tr with
          | true =>
           rw [if_pos rfl] at hE
           have HE1 := Lib.hid hE
           clear hE
           go_wp2
           go_roundw
           case rel => exact ⟨k, x + 3, x + 3, by go_num, by go_num, by omega, by omega, by omega, HE1, HS4⟩
           case measure => simp [intOf]; omega
          | false =>
           rw [if_neg (by simp)] at hE
           by_cases hp : c = 37
           · rw [if_pos hp] at hE
             have q9 : (c == 37) = true := beq_iff_eq.2 hp
             clear hp
             by_cases h5 : x + 1 < s.size
             · have hix2 := bt_at s (x + 1)
               have hcr := bt_range s (x + 1)
               obtain ⟨c2, hc2⟩ : ∃ c, c = bt s (x + 1) := ⟨_, rfl⟩
               rw [← hc2] at hE hcr hix2
               obtain ⟨hc20, hc21⟩ := hcr
               have HE0 := Lib.hid hE
               have d0 := HS4.out.x.cell 0 (by omega)
               have d1 := HS4.out.x.cell 1 (by omega)
               have d2 := HS4.out.x.cell 2 (by omega)
               have d3 := HS4.out.x.cell 3 (by omega)
               clear hc2 hE
               go_wp2_with fail
               have k0 := cell_regrown d0
               have k1 := cell_regrown d1
               have k2 := cell_regrown d2
               have k3 := cell_regrown d3
               cases hbx : isHex c2.toNat with
               | true =>
                have HDB := Lib.hid hbx
                have HE1 := HE0.out
                rw [if_pos ⟨h5, hbx⟩] at HE1
                have HEE := Lib.hid HE1
                clear HE1 hbx HE0
                refine wp_region_quiet_below (by kernel_rfl) (by kernel_rfl) ?_
                repeat (go_big_quiet_step (exact Calls.regrown_of (chars_Set_Has.calls isHex c2 true _ (by rw [chars_Set_Has.f, if_pos ⟨hc20, hc21⟩, HDB.out]))))
                refine wpQuiet_nil ?_
                rintro _ ⟨⟨dq, osq⟩, rfl⟩
                have HS5 := Lib.hid (HS4.out.step (below_regrown _ dq osq))
                go_wp2
                rw [Exit.noGoto_ret]
                go_ret2
                have := HEE.out
                simp only [Prod.mk.injEq] at this
                obtain ⟨rfl, rfl⟩ := this
                refine ⟨?_, HS5.out.b⟩
                show Ending.returned (.tuple #[.int .i64 (x + 1 + 1), .int .i64 y]) = _
                rw [show x + 1 + 1 = x + 2 by omega]
               | false =>
                have HDB := Lib.hid hbx
                have HE1 := HE0.out
                rw [if_neg (fun h => by rw [hbx] at h; exact absurd h.2 (by simp))] at HE1
                have HEE := Lib.hid HE1
                clear HE1 hbx HE0
                refine wp_region_quiet_below (by kernel_rfl) (by kernel_rfl) ?_
                repeat (go_big_quiet_step (exact Calls.regrown_of (chars_Set_Has.calls isHex c2 false _ (by rw [chars_Set_Has.f, if_pos ⟨hc20, hc21⟩, HDB.out]))))
                refine wpQuiet_nil ?_
                rintro _ ⟨⟨dq, osq⟩, rfl⟩
                have HS5 := Lib.hid (HS4.out.step (below_regrown _ dq osq))
                go_wp2
                rw [Exit.noGoto_ret]
                go_ret2
                have := HEE.out
                simp only [Prod.mk.injEq] at this
                obtain ⟨rfl, rfl⟩ := this
                exact ⟨rfl, HS5.out.b⟩
             · have h5b : decide (x + 1 < s.size) = false := decide_eq_false h5
               rw [if_neg (fun h => h5 h.1)] at hE
               have HE1 := Lib.hid hE
               clear hE
               go_wp2_with fail
               go_quiet (fail)
               go_wp2
               rw [Exit.noGoto_ret]
               go_ret2
               have := HE1.out
               simp only [Prod.mk.injEq] at this
               obtain ⟨rfl, rfl⟩ := this
               exact ⟨rfl, pw_below_drewN HS4.out.b _⟩
           · rw [if_neg hp] at hE
             have q9 : (c == 37) = false := beq_eq_false_iff_ne.2 hp
             have HE1 := Lib.hid hE
             clear hp hE
             go_wp2
             rw [Exit.noGoto_ret]
             go_ret2
             have := HE1.out
             simp only [Prod.mk.injEq] at this
             obtain ⟨rfl, rfl⟩ := this
             exact ⟨rfl, HS4.out.b⟩
    · have hE := HE.out
      have hstop : endsFrom s k x y = (x, y) := by
       cases k with
       | zero => rfl
       | succ k => rw [endsFrom, if_neg hlt]
      rw [hstop] at hE
      have HE1 := Lib.hid hE
      clear hE
      go_wp2
      go_ret2
      have := HE1.out
      simp only [Prod.mk.injEq] at this
      obtain ⟨rfl, rfl⟩ := this
      exact ⟨rfl, HS.out.b⟩
 · cases h
def figure (n : Int) : Int := bt ⟨#[48, 49, 50, 51, 52, 53, 54, 55, 56, 57, 65, 66, 67, 68, 69, 70]⟩ n
def pct_One.f (c : Int) : Option ByteArray := if 0 ≤ c ∧ c ≤ 255 then some (strOfNums [37, figure (c / 16), figure (c % 16)]) else none
theorem reads_three (w : World) (a b : Int) : ReadsInt (w.alloc (.cells #[.int .u8 37, .int .u8 a, .int .u8 b] 5)).drew .u8 (some ⟨w.heap.size, 0, none⟩) 3 [37, a, b] := by
 refine ⟨rfl, by omega, fun _ => ⟨_, rfl, fun j hj => ?_⟩⟩
 have hadd : (⟨w.heap.size, 0, none⟩ : Addr).add j = ⟨w.heap.size, j, none⟩ := by unfold Addr.add; split <;> simp_all
 rw [hadd]
 show (w.alloc _).cell? _ = _
 have : j = 0 ∨ j = 1 ∨ j = 2 := by omega
 rcases this with rfl | rfl | rfl <;> simp
set_option maxHeartbeats 800000 in
theorem pct_One.calls (c : Int) (r : ByteArray) (w : World) (h : pct_One.f c = some r) :
 Calls Tryz.prog 89 #[.int .u8 c] w fun e w' => e = .returned (.string r) ∧ Below w.heap.size w w' := by
 unfold pct_One.f at h
 split at h
 · rename_i hc
   obtain ⟨h0, h1⟩ := hc
   injection h with h
   have i1 := bt_at ⟨#[48, 49, 50, 51, 52, 53, 54, 55, 56, 57, 65, 66, 67, 68, 69, 70]⟩ (c / 16)
   have i2 := bt_at ⟨#[48, 49, 50, 51, 52, 53, 54, 55, 56, 57, 65, 66, 67, 68, 69, 70]⟩ (c % 16)
   obtain ⟨a, ha⟩ : ∃ a, a = figure (c / 16) := ⟨_, rfl⟩
   obtain ⟨b, hb⟩ : ∃ b, b = figure (c % 16) := ⟨_, rfl⟩
   rw [← ha, ← hb] at h
   rw [show bt _ _ = a from ha.symm] at i1
   rw [show bt _ _ = b from hb.symm] at i2
   have HR := Lib.hid h
   clear h ha hb
   have h2 : 0 ≤ c / 16 := by omega
   have h3 : c / 16 < 16 := by omega
   have h4 : 0 ≤ c % 16 := by omega
   have h5 : c % 16 < 16 := by omega
   go_enter Tryz.func89, Tryz.ntmps89
   go_wp2_with fail
   have hcv := string_of_reads (P := Tryz.prog) (src := 98) (dst := 9) (c := 3) Tryz.underlying98 Tryz.underlying5 Tryz.underlying9 (reads_three w a b)
   go_region
   go_wp2
   go_ret
   exact ⟨by show Ending.returned (.string (strOfNums [37, a, b])) = _; rw [HR.out], ((Below.refl _ _).alloc (Nat.le_refl _) _).drew⟩
 · cases h
end Go.Proofs.YtlocbpaikdgmbaaGreatDoor.P
end
