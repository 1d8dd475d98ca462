/- What is proved here is used by the law's card: Pk0, OpenParts, Set, Num, Chars, FpctDigit, Fpctvalue, FpctTriplet, Vname, FvnameEnd, FvnameMay, FspecMay, Bs, Utf8, Auto, Var, Gram, Base, Uat, Ends, Figures, FvnameBad, Utf, AnyAt, RowM, Filled, Fuc. -/
import Derived.Test.YtkipkbggnfllkaaGreatDoorCt0
import Derived.Test.YtkipkbggnfllkaaGreatDoorProg
import Derived.Below
import Derived.Deep.Draws
import Derived.Deep.AppendLies
import Derived.Maps.AppendAt
import Derived.OwnWalk
import Derived.Laws.BytesArg
import Derived.Laws.MakeOwn
import Derived.Laws.OwnMore
import Derived.Deep.OwnRows
import Derived.Tactics
import Derived.Lib.ConvBytes
import Derived.Laws.Slices
import Derived.WalkKit
import Derived.KernelRfl
import Derived.RowKit3
import Derived.Deep.LoopGhost
import Derived.Deep.QuietTactic
import Derived.BigQuiet
import Derived.WideLaws
import Derived.Deep.DeepCutAuto
import Derived.Deep.CutBlock
import Derived.Deep.RegionHeld3
import Derived.Laws.Rows
import Derived.Lib.AppendStr
import Derived.ArgAppend
import Derived.Laws.IdiomCopy
import Derived.OrdersHeld
import Derived.Laws.BitsLemmas
import Derived.RowKit
import Derived.ChangeArms
import Derived.Laws.BitsAllLaws
import Derived.RegionTactic
import Derived.ChangeAlike
import Derived.BigRegion
import Derived.Laws.NewBlocks
import Derived.Lib.Hide
import Derived.Outline
import Derived.WalkMore
import Derived.Lib.QuietBelow
import Derived.Lib.OthersKept
import Derived.WalkLawsBesides
import Derived.OneCell
import Derived.Deep.DeepMust
import Derived.Lib.FrozenHead2
section
namespace Go.Proofs.YtkipkbggnfllkaaGreatDoor.P
open Go.RowKit Go.Proofs.YtkipkbggnfllkaaGreatDoorW.PrintWords Go.Proofs.YtkipkbggnfllkaaGreatDoorW.PrintLast Go.Proofs.YtkipkbggnfllkaaGreatDoorW.PrintMore
attribute [local go_sem] max2_int min2_int max_two min_two max_three min_three max_four min_four
set_option linter.unusedVariables false
set_option linter.unusedSimpArgs false
theorem info9 : (Tryz.prog.info? 9).map (fun i => (i.zero, i.size, i.bytes)) = some (some (.string ⟨#[]⟩), 1, 16) := by kernel_rfl
structure S43 where
 f0 : ByteArray
 f1 : Int
 f2 : Bool
def z43 : S43 := ⟨(⟨#[]⟩ : ByteArray), (0 : Int), false⟩
def k43 : Kd S43 := Kd.iso (Kd.pair Kd.string (Kd.pair (Kd.int .i64) Kd.bool)) (fun x : S43 => (x.f0, x.f1, x.f2))
theorem k43_open {w : World} {x : S43} {cs : List Value} (h : k43.K w x cs) : cs = [.string x.f0, .int .i64 x.f1, .bool x.f2] := by
 obtain ⟨_, _, rfl, rfl, ⟨_, _, rfl, rfl, rfl⟩⟩ := h
 exact rfl
theorem k43_mk (w : World) (x : S43)  : k43.K w x [.string x.f0, .int .i64 x.f1, .bool x.f2] := ⟨[.string x.f0], [.int .i64 x.f1, .bool x.f2], rfl, rfl, ⟨[.int .i64 x.f1], [.bool x.f2], rfl, rfl, rfl⟩⟩
theorem k43_mkM (w : World) (base : Nat) (ok : Nat → Prop) (x : S43)  : k43.M w base ok x [.string x.f0, .int .i64 x.f1, .bool x.f2] := ⟨[.string x.f0], [.int .i64 x.f1, .bool x.f2], rfl, rfl, ⟨[.int .i64 x.f1], [.bool x.f2], rfl, rfl, rfl⟩⟩
def rd_T43 (xs : List S43) (i : Int) : S43 := xs.getD i.toNat z43
theorem at_T43 {w : World} {A : Option Addr} {n : Nat} {xs : List S43} (h : Kd.C k43 w A n xs) (i : Int) (h0 : 0 ≤ i) (h1 : i < n) : ∃ ad , A = some ad ∧ w.cell? (ad.add (i.toNat * 3)) = some (.string (rd_T43 xs i).f0) ∧ w.cell? ⟨(ad.add (i.toNat * 3)).block, (ad.add (i.toNat * 3)).off + 1, none⟩ = some (.int .i64 (rd_T43 xs i).f1) ∧ w.cell? ⟨(ad.add (i.toNat * 3)).block, (ad.add (i.toNat * 3)).off + 2, none⟩ = some (.bool (rd_T43 xs i).f2) := by
 obtain ⟨ad, c, e, _, hK, hc0⟩ := Kd.C_get h z43 i h0 h1
 have hc : ∀ j u, c[j]? = some u → w.cell? (ad.add (i.toNat * 3 + j)) = some u := hc0
 obtain rfl := k43_open hK
 exact ⟨ad, e, hc 0 _ rfl, by rw [← add_field _ _ 1 (by omega)]; exact hc 1 _ rfl, by rw [← add_field _ _ 2 (by omega)]; exact hc 2 _ rfl⟩
structure S41 where
 f0 : ByteArray
 f1 : Int
 f2 : (List S43)
def z41 : S41 := ⟨(⟨#[]⟩ : ByteArray), (0 : Int), ([] : List S43)⟩
def k41 : Kd S41 := Kd.iso (Kd.pair Kd.string (Kd.pair (Kd.int .u8) (Kd.slice 43 k43))) (fun x : S41 => (x.f0, x.f1, x.f2))
theorem k41_open {w : World} {x : S41} {cs : List Value} (h : k41.K w x cs) : ∃ A2 c2, cs = [.string x.f0, .int .u8 x.f1, .slice A2 x.f2.length c2] ∧ x.f2.length ≤ c2 ∧ k43.C w A2 x.f2.length x.f2 := by
 obtain ⟨_, _, rfl, rfl, ⟨_, _, rfl, rfl, ⟨A2, c2, rfl, l2, g2⟩⟩⟩ := h
 exact ⟨A2, c2, rfl, l2, g2⟩
theorem k41_openM {w : World} {base : Nat} {ok : Nat → Prop} {x : S41} {cs : List Value} (h : k41.M w base ok x cs) : ∃ v2, cs = [.string x.f0, .int .u8 x.f1, v2] ∧ k43.R 43 w base ok v2 x.f2 := by
 obtain ⟨_, _, rfl, rfl, ⟨_, _, rfl, rfl, ⟨v2, rfl, g2⟩⟩⟩ := h
 exact ⟨v2, rfl, g2⟩
theorem k41_mk (w : World) (x : S41) {A2 : Option Addr} {c2 : Nat} (l2 : x.f2.length ≤ c2) (g2 : k43.C w A2 x.f2.length x.f2) : k41.K w x [.string x.f0, .int .u8 x.f1, .slice A2 x.f2.length c2] := ⟨[.string x.f0], [.int .u8 x.f1, .slice A2 x.f2.length c2], rfl, rfl, ⟨[.int .u8 x.f1], [.slice A2 x.f2.length c2], rfl, rfl, ⟨A2, c2, rfl, l2, g2⟩⟩⟩
theorem k41_mkM (w : World) (base : Nat) (ok : Nat → Prop) (x : S41) {v2 : Value} (g2 : k43.R 43 w base ok v2 x.f2) : k41.M w base ok x [.string x.f0, .int .u8 x.f1, v2] := ⟨[.string x.f0], [.int .u8 x.f1, v2], rfl, rfl, ⟨[.int .u8 x.f1], [v2], rfl, rfl, ⟨v2, rfl, g2⟩⟩⟩
def rd_T41 (xs : List S41) (i : Int) : S41 := xs.getD i.toNat z41
theorem at_T41 {w : World} {A : Option Addr} {n : Nat} {xs : List S41} (h : Kd.C k41 w A n xs) (i : Int) (h0 : 0 ≤ i) (h1 : i < n) : ∃ ad A2 c2, A = some ad ∧ w.cell? (ad.add (i.toNat * 3)) = some (.string (rd_T41 xs i).f0) ∧ w.cell? ⟨(ad.add (i.toNat * 3)).block, (ad.add (i.toNat * 3)).off + 1, none⟩ = some (.int .u8 (rd_T41 xs i).f1) ∧ w.cell? ⟨(ad.add (i.toNat * 3)).block, (ad.add (i.toNat * 3)).off + 2, none⟩ = some (.slice A2 (rd_T41 xs i).f2.length c2) ∧ (rd_T41 xs i).f2.length ≤ c2 ∧ k43.C w A2 (rd_T41 xs i).f2.length (rd_T41 xs i).f2 := by
 obtain ⟨ad, c, e, _, hK, hc0⟩ := Kd.C_get h z41 i h0 h1
 have hc : ∀ j u, c[j]? = some u → w.cell? (ad.add (i.toNat * 3 + j)) = some u := hc0
 obtain ⟨A2, c2, rfl, l2, g2⟩ := k41_open hK
 exact ⟨ad, A2, c2, e, hc 0 _ rfl, by rw [← add_field _ _ 1 (by omega)]; exact hc 1 _ rfl, by rw [← add_field _ _ 2 (by omega)]; exact hc 2 _ rfl, l2, g2⟩
end Go.Proofs.YtkipkbggnfllkaaGreatDoor.P
end
section
namespace Go.Proofs.YtkipkbggnfllkaaGreatDoor.P
open Go.RowKit Go.Proofs.YtkipkbggnfllkaaGreatDoorW.PrintWords Go.Proofs.YtkipkbggnfllkaaGreatDoorW.PrintLast Go.Proofs.YtkipkbggnfllkaaGreatDoorW.PrintMore
set_option linter.unusedVariables false
set_option maxRecDepth 100000
section
variable {H : Type} {enc : TypeId × Value → H} {w : World} {base : Nat} {spare : Nat → Bool} {held : Bool} {fuel : Nat} {cs : List Value} {x : DataW H × List MemPlace}
theorem cells_at {a : Addr} {n : Nat} (h : w.cells? base a n = some cs) : cs.length = n ∧ ∀ (i : Nat) (u : Value), cs[i]? = some u → w.cell? (a.add i) = some u := by
 unfold World.cells? at h
 split at h
 · have hl := mapM_some_length h
   rw [List.length_range] at hl
   refine ⟨hl, fun i u hu => ?_⟩
   have hi : i < n := by
    have := (List.getElem?_eq_some_iff.1 hu).1
    omega
   rw [mapM_some_get h i i (by simp [hi])]
   exact hu
 · cases h
theorem open_spec (h : DataW.trod enc Tryz.prog w base spare held fuel 43 cs = some x) : ∃ v : S43, cs = [.string v.f0, .int .i64 v.f1, .bool v.f2] := by
 obtain ⟨xs, n, rfl, -, hl, hx, hel⟩ := DataW.trod_struct Tryz.underlying43 h
 rw [show Tryz.prog.cellsOf 43 = 3 by kernel_rfl] at hl
 have hx : xs.length = 3 := hx
 match cs, hl, xs, hx with
 | [c0, c1, c2], _, [x0, x1, x2], _ =>
  have h0 := hel 0 _ rfl
  have h1 := hel 1 _ rfl
  have h2 := hel 2 _ rfl
  obtain ⟨s, e0, -, -⟩ := DataW.trod_string Tryz.underlying9 h0
  obtain ⟨m, e1, -, -⟩ := DataW.trod_int Tryz.underlying3 h1
  obtain ⟨b, e2, -⟩ := DataW.trod_bool Tryz.underlying4 h2
  have q0 : c0 = .string s := (List.cons.inj (show [c0] = [.string s] from e0)).1
  have q1 : c1 = .int .i64 m := (List.cons.inj (show [c1] = [.int .i64 m] from e1)).1
  have q2 : c2 = .bool b := (List.cons.inj (show [c2] = [.bool b] from e2)).1
  clear h0 h1 h2 e0 e1 e2 hel
  subst q0 q1 q2
  exact ⟨⟨s, m, b⟩, rfl⟩
theorem row_of {α : Type} {k : Kd α} {a : Addr} {len : Nat} (Q : α → Prop) (hm : len ≤ maxLen) (h : ∀ i, i < len → ∃ y c, Q y ∧ k.K w y c ∧ w.cells? base (a.add (i * k.sz)) k.sz = some c) : ∃ l : List α, l.length = len ∧ Kd.C k w (some a) len l ∧ ∀ y ∈ l, Q y := by
 obtain ⟨f, hf⟩ : ∃ f : (i : Nat) → i < len → α, ∀ i hi, ∃ c, Q (f i hi) ∧ k.K w (f i hi) c ∧ w.cells? base (a.add (i * k.sz)) k.sz = some c :=
  ⟨fun i hi => (h i hi).choose, fun i hi => (h i hi).choose_spec⟩
 refine ⟨List.ofFn fun i : Fin len => f i.1 i.2, by simp, ⟨by simp, Nat.le_trans hm (by decide), fun _ => ⟨a, rfl, fun j p hp => ?_⟩⟩, fun y hy => ?_⟩
 · have hj : j < len := by
    have := (List.getElem?_eq_some_iff.1 hp).1
    simpa using this
   rw [List.getElem?_ofFn, dif_pos hj] at hp
   injection hp with hp
   subst hp
   obtain ⟨c, -, h1, h2⟩ := hf j hj
   obtain ⟨h3, h4⟩ := cells_at h2
   refine ⟨c, h3, h1, fun i u hu => ?_⟩
   have := h4 i u hu
   rw [Addr.add_add] at this
   exact this
 · obtain ⟨i, rfl⟩ := (List.mem_ofFn).1 hy
   obtain ⟨c, h1, -⟩ := hf i.1 i.2
   exact h1
theorem open_specs (h : DataW.trod enc Tryz.prog w base spare held fuel 39 cs = some x) : ∃ (A : Option Addr) (len cap : Nat) (l : List S43), cs = [.slice A len cap] ∧ l.length = len ∧ len ≤ cap ∧ Kd.C k43 w A len l := by
 rcases DataW.trod_slice Tryz.underlying39 h with ⟨rfl, -⟩ | ⟨a, len, cap, elems, rest, n, -, rfl, -, hb, hl, hm, hlen, hel, -, -⟩
 · exact ⟨none, 0, 0, [], rfl, rfl, Nat.le_refl _, rfl, by decide, fun g => absurd g (Nat.lt_irrefl 0)⟩
 · rw [show Tryz.prog.cellsOf 43 = 3 by kernel_rfl] at hel
   obtain ⟨l, h1, h2, -⟩ := row_of (k := k43) (w := w) (base := base) (a := a) (len := len) (fun _ => True) (by omega) fun i hi => by
    have he := hel i hi
    rw [List.getElem?_eq_getElem (by omega)] at he
    obtain ⟨c, hc, ht⟩ := Option.bind_eq_some_iff.1 he
    obtain ⟨v, rfl⟩ := open_spec ht
    exact ⟨v, _, trivial, k43_mk w v, hc⟩
   exact ⟨some a, len, cap, l, rfl, h1, hl, h2⟩
theorem open_part (h : DataW.trod enc Tryz.prog w base spare held fuel 41 cs = some x) : ∃ y : S41, (0 ≤ y.f1 ∧ y.f1 ≤ 255) ∧ k41.K w y cs := by
 obtain ⟨xs, n, rfl, -, hl, hx, hel⟩ := DataW.trod_struct Tryz.underlying41 h
 rw [show Tryz.prog.cellsOf 41 = 3 by kernel_rfl] at hl
 have hx : xs.length = 3 := hx
 match cs, hl, xs, hx with
 | [c0, c1, c2], _, [x0, x1, x2], _ =>
  have h0 := hel 0 _ rfl
  have h1 := hel 1 _ rfl
  have h2 := hel 2 _ rfl
  obtain ⟨s, e0, -, -⟩ := DataW.trod_string Tryz.underlying9 h0
  obtain ⟨m, e1, -, hw⟩ := DataW.trod_int Tryz.underlying5 h1
  obtain ⟨A, len, cap, l, e2, g1, g2, g3⟩ := open_specs h2
  have q0 : c0 = .string s := (List.cons.inj (show [c0] = [.string s] from e0)).1
  have q1 : c1 = .int .u8 m := (List.cons.inj (show [c1] = [.int .u8 m] from e1)).1
  have q2 : c2 = .slice A len cap := (List.cons.inj (show [c2] = [.slice A len cap] from e2)).1
  clear h0 h1 h2 e0 e1 e2 hel
  subst q0 q1 q2 g1
  refine ⟨⟨s, m, l⟩, ?_, k41_mk w ⟨s, m, l⟩ g2 g3⟩
  simp [Lit.wf, IntKind.min, IntKind.max, IntKind.signed, IntKind.bits] at hw
  exact ⟨by show 0 ≤ m; omega, by show m ≤ 255; omega⟩
theorem open_parts (h : DataW.trod enc Tryz.prog w base spare held fuel 23 cs = some x) : ∃ (A : Option Addr) (cap : Nat) (l : List S41), cs = [.slice A l.length cap] ∧ l.length ≤ cap ∧ Kd.C k41 w A l.length l ∧ ∀ y ∈ l, 0 ≤ y.f1 ∧ y.f1 ≤ 255 := by
 rcases DataW.trod_slice Tryz.underlying23 h with ⟨rfl, -⟩ | ⟨a, len, cap, elems, rest, n, -, rfl, -, hb, hl, hm, hlen, hel, -, -⟩
 · exact ⟨none, 0, [], rfl, Nat.le_refl _, ⟨rfl, by decide, fun g => absurd g (Nat.lt_irrefl 0)⟩, fun y hy => by cases hy⟩
 · rw [show Tryz.prog.cellsOf 41 = 3 by kernel_rfl] at hel
   obtain ⟨l, h1, h2, h3⟩ := row_of (k := k41) (w := w) (base := base) (a := a) (len := len) (fun y => 0 ≤ y.f1 ∧ y.f1 ≤ 255) (by omega) fun i hi => by
    have he := hel i hi
    rw [List.getElem?_eq_getElem (by omega)] at he
    obtain ⟨c, hc, ht⟩ := Option.bind_eq_some_iff.1 he
    obtain ⟨y, hy, hK⟩ := open_part ht
    exact ⟨y, c, hy, hK, hc⟩
   subst h1
   exact ⟨some a, cap, l, rfl, hl, h2, h3⟩
def PartsIn (w : World) (A : Option Addr) (c : Nat) (l : List S41) : Prop := l.length ≤ c ∧ Kd.C k41 w A l.length l ∧ ∀ y ∈ l, 0 ≤ y.f1 ∧ y.f1 ≤ 255
theorem parts_of (h : DataW.trod enc Tryz.prog w base spare held fuel 23 cs = some x) : ∃ (A : Option Addr) (cap : Nat) (l : List S41), cs = [.slice A l.length cap] ∧ PartsIn w A cap l := by
 obtain ⟨A, cap, l, h1, h2, h3, h4⟩ := open_parts h
 exact ⟨A, cap, l, h1, h2, h3, h4⟩
end
end Go.Proofs.YtkipkbggnfllkaaGreatDoor.P
end
section
namespace Go.Proofs.YtkipkbggnfllkaaGreatDoor.P
open Go.RowKit
def wordN (P : Nat → Bool) : Nat → Nat
 | 0 => 0
 | n + 1 => wordN P n ||| if P n then 2 ^ n else 0
theorem wordN_lt (P : Nat → Bool) (n : Nat) : wordN P n < 2 ^ n := by
 induction n with
 | zero => simp [wordN]
 | succ n ih =>
  simp only [wordN]
  refine Nat.or_lt_two_pow (by omega) ?_
  split
  · exact Nat.pow_lt_pow_right (by omega) (by omega)
  · exact Nat.two_pow_pos _
theorem testBit_wordN (P : Nat → Bool) (n j : Nat) : (wordN P n).testBit j = (decide (j < n) && P j) := by
 induction n with
 | zero => simp [wordN]
 | succ n ih =>
  simp only [wordN, Nat.testBit_or, ih]
  by_cases hp : P n
  · rw [if_pos hp, Nat.testBit_two_pow]
    by_cases e : n = j
    · subst e; simp [hp]
    · by_cases h : j < n
      · simp [h, show j < n + 1 by omega, e]
      · simp [h, show ¬ j < n + 1 by omega, e]
  · rw [if_neg hp, Nat.zero_testBit]
    by_cases e : n = j
    · subst e; simp [hp]
    · by_cases h : j < n
      · simp [h, show j < n + 1 by omega]
      · simp [h, show ¬ j < n + 1 by omega]
theorem wordN_ext {P Q : Nat → Bool} (n : Nat) (h : ∀ j, j < n → P j = Q j) : wordN P n = wordN Q n := by
 apply Nat.eq_of_testBit_eq
 intro j
 rw [testBit_wordN, testBit_wordN]
 by_cases hj : j < n
 · rw [h j hj]
 · simp [hj]
def wd (P : Nat → Bool) (i : Nat) : Int := (wordN (fun j => P (64 * i + j)) 64 : Nat)
theorem wd_lo (P : Nat → Bool) (i : Nat) : 0 ≤ wd P i := by unfold wd; omega
theorem wd_hi (P : Nat → Bool) (i : Nat) : wd P i < 18446744073709551616 := by
 have := wordN_lt (fun j => P (64 * i + j)) 64
 unfold wd; omega
theorem wd_ext {P Q : Nat → Bool} (i : Nat) (h : ∀ j, j < 64 → P (64 * i + j) = Q (64 * i + j)) : wd P i = wd Q i := by
 unfold wd; rw [wordN_ext 64 h]
theorem wd_or (P Q : Nat → Bool) (i : Nat) : Go.bits .or .u64 (wd P i) (wd Q i) = wd (fun j => P j || Q j) i := by
 rw [u64_or _ _ (wd_lo P i) (wd_hi P i) (wd_lo Q i) (wd_hi Q i)]
 unfold wd
 simp only [Int.toNat_natCast]
 congr 1
 apply Nat.eq_of_testBit_eq
 intro j
 rw [Nat.testBit_or, testBit_wordN, testBit_wordN, testBit_wordN]
 cases decide (j < 64) <;> simp
theorem testBit_compl (n j : Nat) (h : n < 2 ^ 64) : (18446744073709551615 - n).testBit j = (decide (j < 64) && !n.testBit j) := by
 have := @Nat.testBit_two_pow_sub_succ n 64 h j
 rw [← this, show 2 ^ 64 - (n + 1) = 18446744073709551615 - n by omega]
theorem wd_andNot (P Q : Nat → Bool) (i : Nat) : Go.bits .andNot .u64 (wd P i) (wd Q i) = wd (fun j => P j && !Q j) i := by
 rw [u64_andNot _ _ (wd_lo P i) (wd_hi P i) (wd_lo Q i) (wd_hi Q i)]
 unfold wd
 simp only [Int.toNat_natCast]
 congr 1
 apply Nat.eq_of_testBit_eq
 intro j
 rw [Nat.testBit_and, testBit_compl _ _ (wordN_lt _ _), testBit_wordN, testBit_wordN, testBit_wordN]
 cases decide (j < 64) <;> simp
theorem wd_add (P : Nat → Bool) (c : Int) (h0 : 0 ≤ c) : Go.bits .or .u64 (wd P (c / 64).toNat) (IntKind.u64.wrap (2 ^ (c % 64).toNat)) = wd (fun j => P j || j == c.toNat) (c / 64).toNat := by
 have hk : (c % 64).toNat < 64 := by omega
 have e : IntKind.u64.wrap (2 ^ (c % 64).toNat) = wd (fun j => j == c.toNat) (c / 64).toNat := by
  have e1 : wordN (fun j => 64 * (c / 64).toNat + j == c.toNat) 64 = 2 ^ (c % 64).toNat := by
   apply Nat.eq_of_testBit_eq
   intro j
   rw [testBit_wordN, Nat.testBit_two_pow]
   by_cases e : (c % 64).toNat = j
   · subst e; simp [hk]; omega
   · by_cases h : j < 64
     · simp [h, e]; omega
     · simp [h, e]
  unfold wd
  rw [e1]
  have hl : (2 : Nat) ^ (c % 64).toNat < 2 ^ 64 := Nat.pow_lt_pow_right (by omega) hk
  generalize (c % 64).toNat = k at hl ⊢
  have : ((2 : Int) ^ k) = ((2 ^ k : Nat) : Int) := by simp
  rw [this]
  generalize 2 ^ k = q at hl ⊢
  simp [IntKind.wrap, IntKind.bits, IntKind.signed]
  omega
 rw [e, wd_or]
theorem wd_has (P : Nat → Bool) (c : Int) (h0 : 0 ≤ c) : (Go.bits .and .u64 (wd P (c / 64).toNat / 2 ^ (c % 64).toNat) 1 == 1) = P c.toNat := by
 have hk : (c % 64).toNat < 64 := by omega
 have hl := wd_lo P (c / 64).toNat
 have hh := wd_hi P (c / 64).toNat
 have e2 : wd P (c / 64).toNat / 2 ^ (c % 64).toNat = ((wordN (fun j => P (64 * (c / 64).toNat + j)) 64 / 2 ^ (c % 64).toNat : Nat) : Int) := by
  unfold wd; simp
 have hb := wordN_lt (fun j => P (64 * (c / 64).toNat + j)) 64
 have hd := Nat.div_le_self (wordN (fun j => P (64 * (c / 64).toNat + j)) 64) (2 ^ (c % 64).toNat)
 have ht := testBit_wordN (fun j => P (64 * (c / 64).toNat + j)) 64 (c % 64).toNat
 rw [show 64 * (c / 64).toNat + (c % 64).toNat = c.toNat by omega, Nat.testBit_eq_decide_div_mod_eq] at ht
 rw [e2]
 clear e2 hl hh
 generalize wordN (fun j => P (64 * (c / 64).toNat + j)) 64 / 2 ^ (c % 64).toNat = q at *
 rw [u64_and _ _ (by omega) (by omega) (by omega) (by omega)]
 simp only [Int.toNat_natCast]
 rw [show (1 : Int).toNat = 1 from rfl, nat_mask1]
 simp only [hk, decide_true, Bool.true_and] at ht
 rw [← ht]
 by_cases hq : q % 2 = 1
 · simp [hq]
 · have : q % 2 = 0 := by omega
   simp [this]
def setV (P : Nat → Bool) : Value := .agg #[.int .u64 (wd P 0), .int .u64 (wd P 1), .int .u64 (wd P 2), .int .u64 (wd P 3)]
theorem setV_ext {P Q : Nat → Bool} (h : ∀ j, j < 256 → P j = Q j) : setV P = setV Q := by
 unfold setV
 rw [wd_ext 0 (fun j hj => h _ (by omega)), wd_ext 1 (fun j hj => h _ (by omega)), wd_ext 2 (fun j hj => h _ (by omega)), wd_ext 3 (fun j hj => h _ (by omega))]
theorem wd_empty (i : Nat) : wd (fun _ => false) i = 0 := by
 have : ∀ n, wordN (fun _ => false) n = 0 := by
  intro n
  induction n with
  | zero => rfl
  | succ n ih => simp [wordN, ih]
 unfold wd; rw [this]; rfl
end Go.Proofs.YtkipkbggnfllkaaGreatDoor.P
end
section
namespace Go.Proofs.YtkipkbggnfllkaaGreatDoor.P
def inText (s : ByteArray) (j : Nat) : Bool := s.data.toList.any fun b => b.toNat == j
def isDigit (j : Nat) : Bool := decide (48 ≤ (j : Int)) && decide ((j : Int) ≤ 57)
def isUpper (j : Nat) : Bool := decide (65 ≤ (j : Int)) && decide ((j : Int) ≤ 90)
def isLower (j : Nat) : Bool := decide (97 ≤ (j : Int)) && decide ((j : Int) ≤ 122)
def isAF (j : Nat) : Bool := decide (65 ≤ (j : Int)) && decide ((j : Int) ≤ 70)
def isaf (j : Nat) : Bool := decide (97 ≤ (j : Int)) && decide ((j : Int) ≤ 102)
def isAlpha (j : Nat) : Bool := isUpper j || isLower j
def isHex (j : Nat) : Bool := isDigit j || isAF j || isaf j
def isWord (j : Nat) : Bool := isAlpha j || isDigit j || 95 == j
def isLit (j : Nat) : Bool := (decide (33 ≤ (j : Int)) && decide ((j : Int) ≤ 126)) && !inText ⟨#[34, 39, 37, 60, 62, 92, 94, 96, 123, 124, 125]⟩ j
def spanLo (k : Nat) : Int := if k = 0 then 160 else if k = 1 then 57344 else if k = 2 then 65008 else if k = 16 then 921600 else ((k - 2 : Nat) : Int) * 65536
def spanHi (k : Nat) : Int := if k = 0 then 55295 else if k = 1 then 64975 else if k = 2 then 65519 else ((k - 2 : Nat) : Int) * 65536 + 65533
def meetsFrom (low high : Int) : Nat → Nat → Bool
 | 0, _ => false
 | d + 1, k => (decide (low ≤ spanHi k) && decide (high ≥ spanLo k)) || meetsFrom low high d (k + 1)
end Go.Proofs.YtkipkbggnfllkaaGreatDoor.P
end
section
namespace Go.Proofs.YtkipkbggnfllkaaGreatDoor.P
open Go.RowKit Go.Proofs.YtkipkbggnfllkaaGreatDoorW.PrintWords Go.Proofs.YtkipkbggnfllkaaGreatDoorW.PrintLast Go.Proofs.YtkipkbggnfllkaaGreatDoorW.PrintMore
structure SetAt (w : World) (g : Nat) (P : Nat → Bool) : Prop where
 cell : ∀ i, i < 4 → w.cell? ⟨g, i, none⟩ = some (.int .u64 (wd P i))
 free : ∀ i, i < 4 → w.frozen? ⟨g, i, none⟩ = false
set_option maxHeartbeats 400000 in
theorem Set_add.calls (P : Nat → Bool) (c : Int) (h0 : 0 ≤ c) (h1 : c ≤ 255) (g : Nat) (w : World) (hs : SetAt w g P) :
 Calls Tryz.prog 97 #[.pointer (some ⟨g, 0, none⟩), .int .u8 c] w fun e w' => e = .returned (.tuple #[]) ∧ SetAt w' g (fun j => P j || j == c.toNat) ∧ w.grownBy w' (some g) ∧ w'.heap.size = w.heap.size := by
 have hc := hs.cell (c / 64).toNat (by omega)
 have hf := hs.free (c / 64).toNat (by omega)
 have h2 : 0 ≤ c / 64 := by omega
 have h3 : c / 64 < 4 := by omega
 have h4 : 0 ≤ c % 64 := by omega
 have h5 : c % 64 < 64 := by omega
 have K := Lib.hid hs
 clear hs
 go_enter Tryz.func97, Tryz.ntmps97
 go_wp2
 go_region
 go_end0
 rw [wd_add P c h0]
 have hs := K.out
 refine ⟨rfl, ⟨fun i hi => ?_, fun i hi => ?_⟩, ⟨rfl, rfl, rfl, by simp [World.drew], fun k _ hk => ?_⟩, by simp [World.drew]⟩
 · show (w.setCell _ _).cell? _ = _
   by_cases e : i = (c / 64).toNat
   · subst e
     rw [World.cell?_setCell_same _ _ _ hc]
   · rw [World.cell?_setCell_other _ _ _ _ (fun h => e (by injection h with _ h2 _; exact h2.symm)), hs.cell i hi]
     rw [wd_ext i fun j hj => ?_]
     have : ¬ (64 * i + j = c.toNat) := by omega
     simp [this]
 · show (w.setCell _ _).frozen? _ = _
   rw [World.frozen?_setCell, hs.free i hi]
 · show (w.setCell _ _).heap[k]? = _
   exact heap_setCell_other w _ k _ (fun e => hk (by rw [e]))
theorem SetAt.new (W : World) : SetAt (W.alloc (.cells #[.int .u64 0, .int .u64 0, .int .u64 0, .int .u64 0] 84)) W.heap.size (fun _ => false) := by
 refine ⟨fun i hi => ?_, fun i hi => ?_⟩
 · rw [wd_empty]
   have : i = 0 ∨ i = 1 ∨ i = 2 ∨ i = 3 := by omega
   rcases this with rfl | rfl | rfl | rfl <;> simp [go_sem]
 · have : i = 0 ∨ i = 1 ∨ i = 2 ∨ i = 3 := by omega
   rcases this with rfl | rfl | rfl | rfl <;> simp [go_sem]
theorem SetAt.lt {w : World} {g : Nat} {P : Nat → Bool} (h : SetAt w g P) : g < w.heap.size := World.block_lt_of_cell? w _ (h.cell 0 (by omega))
theorem SetAt.kept {w w' : World} {g : Nat} {P : Nat → Bool} (h : SetAt w g P) (hb : w'.heap[g]? = w.heap[g]?) : SetAt w' g P :=
 ⟨fun i hi => by have := h.cell i hi; unfold World.cell? at this ⊢; rw [hb]; exact this, fun i hi => by have := h.free i hi; unfold World.frozen? at this ⊢; rw [hb]; exact this⟩
theorem SetAt.alloc {w : World} {g : Nat} {P : Nat → Bool} (h : SetAt w g P) (o : Obj) : SetAt (w.alloc o) g P :=
 h.kept (heap_alloc_old w o h.lt)
structure Two (w wr : World) (P : Nat → Bool) : Prop where
 s : SetAt wr (w.heap.size + 1) P
 r : SetAt wr w.heap.size (fun _ => false)
 b : Below w.heap.size w wr
 z : wr.heap.size = w.heap.size + 2
theorem Two.add {w wr w1 : World} {P Q : Nat → Bool} (h : Two w wr P) (hs : SetAt w1 (w.heap.size + 1) Q) (hg : wr.grownBy w1 (some (w.heap.size + 1))) (hz : w1.heap.size = wr.heap.size) : Two w w1 Q :=
 ⟨hs, h.r.kept (hg.block _ h.r.lt (by simp)), h.b.grown hg h.b.size (fun k e => by cases e; omega), by rw [hz, h.z]⟩
theorem Two.new (w : World) : Two w ((w.alloc (.cells #[.int .u64 0, .int .u64 0, .int .u64 0, .int .u64 0] 84)).alloc (.cells #[.int .u64 0, .int .u64 0, .int .u64 0, .int .u64 0] 84)) (fun _ => false) :=
 ⟨by have := SetAt.new (w.alloc (.cells #[.int .u64 0, .int .u64 0, .int .u64 0, .int .u64 0] 84)); simpa using this, (SetAt.new w).alloc _, ((Below.refl _ _).alloc (Nat.le_refl _) _).alloc (by simp) _, by simp⟩
theorem Two.done {w wr : World} {P : Nat → Bool} (h : Two w wr P) : ∀ a b c d : Value, Below w.heap.size w ((((wr.setCell ⟨w.heap.size, 0, none⟩ a).setCell ⟨w.heap.size, 1, none⟩ b).setCell ⟨w.heap.size, 2, none⟩ c).setCell ⟨w.heap.size, 3, none⟩ d) := fun a b c d =>
 (((h.b.setCell (Nat.le_refl _) a).setCell (Nat.le_refl _) b).setCell (Nat.le_refl _) c).setCell (Nat.le_refl _) d
set_option maxHeartbeats 400000 in
theorem chars_Range.calls (lo hi : Int) (h0 : 0 ≤ lo) (h1 : lo ≤ 255) (h2 : 0 ≤ hi) (h3 : hi ≤ 255) (w : World) :
 Calls Tryz.prog 79 #[.int .u8 lo, .int .u8 hi] w fun e w' => e = .returned (setV fun j => decide (lo ≤ j) && decide ((j : Int) ≤ hi)) ∧ Below w.heap.size w w' := by
 go_enter Tryz.func79, Tryz.ntmps79
 go_wp2
 go_loopw [6] (fun i wr => ∃ k : Int, lo ≤ k ∧ k ≤ 256 ∧ (k ≤ hi + 1 ∨ k = lo) ∧ i = .int .i64 k ∧ Hid (Two w wr (fun j => decide (lo ≤ j) && decide ((j : Int) < k)))) (fun i _ => (256 - intOf i).toNat)
 case atStart =>
  refine ⟨lo, by omega, by omega, .inr rfl, rfl, Lib.hid ?_⟩
  have e : (fun j : Nat => decide (lo ≤ j) && decide ((j : Int) < lo)) = fun _ => false := by funext j; by_cases h : lo ≤ (j : Int) <;> simp [h]
  rw [e]
  exact Two.new w
 case round =>
  obtain ⟨k, hk0, hk1, hk2, rfl, HT⟩ := hrel
  by_cases hlt : k ≤ hi
  · go_wp2_with fail
    refine (Set_add.calls _ k (by omega) (by omega) _ _ HT.out.s).mono ?_
    rintro e w' ⟨rfl, hs, hg, hz⟩
    have HT1 := Lib.hid (HT.out.add hs hg hz)
    clear hs hg hz HT
    go_wp2
    go_roundw
    case rel =>
     refine ⟨k + 1, by omega, by omega, by omega, by go_num, Lib.hid ?_⟩
     have e : (fun j : Nat => (decide (lo ≤ j) && decide ((j : Int) < k)) || j == k.toNat) = fun j : Nat => decide (lo ≤ j) && decide ((j : Int) < k + 1) := by
      funext j
      by_cases e : j = k.toNat
      · subst e; simp; omega
      · by_cases h : (j : Int) < k
        · simp [h, e, show (j : Int) < k + 1 by omega]
        · simp [h, e, show ¬ (j : Int) < k + 1 by omega]
     have h := HT1.out
     rw [e] at h
     exact h
    case measure => simp [intOf]; omega
  · have e : setV (fun j => decide (lo ≤ j) && decide ((j : Int) < k)) = setV fun j => decide (lo ≤ j) && decide ((j : Int) ≤ hi) := by
     apply setV_ext
     intro j hj
     by_cases h1 : lo ≤ (j : Int) <;> by_cases h2 : (j : Int) < k <;> by_cases h3 : (j : Int) ≤ hi <;> simp [h1, h2, h3] <;> omega
    have E := Lib.hid e
    clear e
    obtain ⟨P, hP⟩ : ∃ P : Nat → Bool, P = fun j : Nat => decide (lo ≤ j) && decide ((j : Int) < k) := ⟨_, rfl⟩
    rw [← hP] at HT E
    clear hP
    have c0 := HT.out.s.cell 0 (by omega)
    have c1 := HT.out.s.cell 1 (by omega)
    have c2 := HT.out.s.cell 2 (by omega)
    have c3 := HT.out.s.cell 3 (by omega)
    have r0 := HT.out.r.cell 0 (by omega)
    have r1 := HT.out.r.cell 1 (by omega)
    have r2 := HT.out.r.cell 2 (by omega)
    have r3 := HT.out.r.cell 3 (by omega)
    have f0 := HT.out.r.free 0 (by omega)
    have f1 := HT.out.r.free 1 (by omega)
    have f2 := HT.out.r.free 2 (by omega)
    have f3 := HT.out.r.free 3 (by omega)
    go_wp2
    refine bodyPost_ret (v := setV P) ?_ rfl ⟨by rw [E.out], HT.out.done _ _ _ _⟩
    simp [results, Tryz.results79, go_sem, setV, r0, r1, r2, r3]
set_option maxHeartbeats 400000 in
theorem chars_Of.calls (s : ByteArray) (hs : s.size ≤ 9223372036854775807) (w : World) :
 Calls Tryz.prog 95 #[.string s] w fun e w' => e = .returned (setV (inText s)) ∧ Below w.heap.size w w' := by
 go_enter Tryz.func95, Tryz.ntmps95
 go_wp2
 go_loopw [4, 7] (fun _ i wr => ∃ k : Nat, k ≤ s.size ∧ i = .int .i64 k ∧ Hid (Two w wr (fun j => (s.data.toList.take k).any fun b => b.toNat == j))) (fun _ i _ => s.size - (intOf i).toNat)
 case atStart => exact ⟨0, Nat.zero_le _, rfl, Lib.hid (Two.new w)⟩
 case round =>
  obtain ⟨k, hk, rfl, HT⟩ := hrel
  by_cases hlt : k < s.size
  · have hb : ((s[k]'hlt).toNat : Int) ≤ 255 := by have := (s[k]'hlt).toNat_lt; omega
    have hb0 : (0 : Int) ≤ ((s[k]'hlt).toNat : Int) := by omega
    go_wp2_with fail
    refine (Set_add.calls _ _ hb0 hb _ _ HT.out.s).mono ?_
    rintro e w' ⟨rfl, hs1, hg, hz⟩
    have HT1 := Lib.hid (HT.out.add hs1 hg hz)
    clear hs1 hg hz HT
    go_wp2
    go_roundw
    case rel =>
     refine ⟨k + 1, by omega, by go_num, Lib.hid ?_⟩
     have e : (fun j : Nat => ((s.data.toList.take k).any fun b => b.toNat == j) || j == ((s[k]'hlt).toNat : Int).toNat) = fun j : Nat => (s.data.toList.take (k + 1)).any fun b => b.toNat == j := by
      funext j
      have hl : k < s.data.toList.length := by simpa using hlt
      have e2 : s.data.toList[k] = s[k]'hlt := rfl
      rw [List.take_succ_eq_append_getElem hl, List.any_append, e2]
      simp only [List.any_cons, List.any_nil, Bool.or_false, Int.toNat_natCast]
      congr 1
      rw [Bool.eq_iff_iff]; simp; omega
     have h := HT1.out
     rw [e] at h
     exact h
    case measure => simp [intOf]; omega
  · have e : setV (fun j => (s.data.toList.take k).any fun b => b.toNat == j) = setV (inText s) := by
     have : s.data.toList.take k = s.data.toList := List.take_of_length_le (by simp; have : s.data.size = s.size := rfl; omega)
     rw [this]; rfl
    have E := Lib.hid e
    clear e
    obtain ⟨P, hP⟩ : ∃ P : Nat → Bool, P = fun j : Nat => (s.data.toList.take k).any fun b => b.toNat == j := ⟨_, rfl⟩
    rw [← hP] at HT E
    clear hP
    have c0 := HT.out.s.cell 0 (by omega)
    have c1 := HT.out.s.cell 1 (by omega)
    have c2 := HT.out.s.cell 2 (by omega)
    have c3 := HT.out.s.cell 3 (by omega)
    have r0 := HT.out.r.cell 0 (by omega)
    have r1 := HT.out.r.cell 1 (by omega)
    have r2 := HT.out.r.cell 2 (by omega)
    have r3 := HT.out.r.cell 3 (by omega)
    have f0 := HT.out.r.free 0 (by omega)
    have f1 := HT.out.r.free 1 (by omega)
    have f2 := HT.out.r.free 2 (by omega)
    have f3 := HT.out.r.free 3 (by omega)
    go_wp2
    refine bodyPost_ret (v := setV P) ?_ rfl ⟨by rw [E.out], HT.out.done _ _ _ _⟩
    simp [results, Tryz.results95, go_sem, setV, r0, r1, r2, r3]
structure Four (w : World) (g : Nat) (x : Nat → Int) : Prop where
 cell : ∀ i, i < 4 → w.cell? ⟨g, i, none⟩ = some (.int .u64 (x i))
 free : ∀ i, i < 4 → w.frozen? ⟨g, i, none⟩ = false
theorem Four.set {w : World} {g : Nat} {x : Nat → Int} (h : Four w g x) (k : Nat) (y : Int) : Four (w.setCell ⟨g, k, none⟩ (.int .u64 y)) g (fun i => if i = k then y else x i) := by
 refine ⟨fun i hi => ?_, fun i hi => by rw [World.frozen?_setCell]; exact h.free i hi⟩
 by_cases e : i = k
 · subst e
   rw [World.cell?_setCell_same _ _ _ (h.cell i hi), if_pos rfl]
 · rw [World.cell?_setCell_other _ _ _ _ (fun q => e (by injection q with _ h2 _; exact h2.symm)), h.cell i hi, if_neg e]
theorem Four.congr {w : World} {g : Nat} {x y : Nat → Int} (h : Four w g x) (e : ∀ i, i < 4 → x i = y i) : Four w g y :=
 ⟨fun i hi => by rw [h.cell i hi, e i hi], h.free⟩
theorem Four.lt {w : World} {g : Nat} {x : Nat → Int} (h : Four w g x) : g < w.heap.size := World.block_lt_of_cell? w _ (h.cell 0 (by omega))
theorem Four.kept {w w' : World} {g : Nat} {x : Nat → Int} (h : Four w g x) (hb : w'.heap[g]? = w.heap[g]?) : Four w' g x :=
 ⟨fun i hi => by have := h.cell i hi; unfold World.cell? at this ⊢; rw [hb]; exact this, fun i hi => by have := h.free i hi; unfold World.frozen? at this ⊢; rw [hb]; exact this⟩
theorem Four.alloc {w : World} {g : Nat} {x : Nat → Int} (h : Four w g x) (o : Obj) : Four (w.alloc o) g x := h.kept (heap_alloc_old w o h.lt)
theorem Four.other {w : World} {g g' : Nat} {x : Nat → Int} (h : Four w g x) (k : Nat) (v : Value) (hne : g ≠ g') : Four (w.setCell ⟨g', k, none⟩ v) g x := h.kept (heap_setCell_other w _ g v hne)
theorem Four.new (W : World) (a b c d : Int) (t : TypeId) : Four (W.alloc (.cells #[.int .u64 a, .int .u64 b, .int .u64 c, .int .u64 d] t)) W.heap.size (fun i => if i = 0 then a else if i = 1 then b else if i = 2 then c else d) := by
 refine ⟨fun i hi => ?_, fun i hi => ?_⟩
 · have : i = 0 ∨ i = 1 ∨ i = 2 ∨ i = 3 := by omega
   rcases this with rfl | rfl | rfl | rfl <;> simp [go_sem]
 · have : i = 0 ∨ i = 1 ∨ i = 2 ∨ i = 3 := by omega
   rcases this with rfl | rfl | rfl | rfl <;> simp [go_sem]
theorem Four.newP (W : World) (P : Nat → Bool) (t : TypeId) : Four (W.alloc (.cells #[.int .u64 (wd P 0), .int .u64 (wd P 1), .int .u64 (wd P 2), .int .u64 (wd P 3)] t)) W.heap.size (wd P) :=
 (Four.new W _ _ _ _ t).congr fun i hi => by
  have : i = 0 ∨ i = 1 ∨ i = 2 ∨ i = 3 := by omega
  rcases this with rfl | rfl | rfl | rfl <;> simp
def mixed (k : Nat) (P Q : Nat → Bool) (i : Nat) : Int := if i < k then wd P i else wd Q i
theorem index_word (Q : Nat → Bool) (k : Nat) (hk : k < 4) (W : World) :
 (Instr.index 84 (.agg #[.int .u64 (wd Q 0), .int .u64 (wd Q 1), .int .u64 (wd Q 2), .int .u64 (wd Q 3)]) (.int .i64 (k : Int))).run Tryz.prog W = .ok (.int .u64 (wd Q k)) W := by
 have i0 : ∀ (a b c d : Value) (W : World), (Instr.index 84 (.agg #[a, b, c, d]) (.int .i64 0)).run Tryz.prog W = .ok a W := fun a b c d W => by kernel_rfl
 have i1 : ∀ (a b c d : Value) (W : World), (Instr.index 84 (.agg #[a, b, c, d]) (.int .i64 1)).run Tryz.prog W = .ok b W := fun a b c d W => by kernel_rfl
 have i2 : ∀ (a b c d : Value) (W : World), (Instr.index 84 (.agg #[a, b, c, d]) (.int .i64 2)).run Tryz.prog W = .ok c W := fun a b c d W => by kernel_rfl
 have i3 : ∀ (a b c d : Value) (W : World), (Instr.index 84 (.agg #[a, b, c, d]) (.int .i64 3)).run Tryz.prog W = .ok d W := fun a b c d W => by kernel_rfl
 have : k = 0 ∨ k = 1 ∨ k = 2 ∨ k = 3 := by omega
 rcases this with rfl | rfl | rfl | rfl
 · exact i0 _ _ _ _ W
 · exact i1 _ _ _ _ W
 · exact i2 _ _ _ _ W
 · exact i3 _ _ _ _ W
structure Sub (w wr : World) (x : Nat → Int) : Prop where
 s : Four wr w.heap.size x
 r : Four wr (w.heap.size + 2) (fun _ => 0)
 b : Below w.heap.size w wr
theorem Sub.set {w wr : World} {x : Nat → Int} (h : Sub w wr x) (k : Nat) (y : Int) : Sub w (wr.setCell ⟨w.heap.size, k, none⟩ (.int .u64 y)) (fun i => if i = k then y else x i) :=
 ⟨h.s.set k y, h.r.other k _ (by omega), h.b.setCell (Nat.le_refl _) _⟩
set_option maxHeartbeats 800000 in
theorem chars_Minus.calls (P Q : Nat → Bool) (w : World) :
 Calls Tryz.prog 94 #[setV P, setV Q] w fun e w' => e = .returned (setV fun j => P j && !Q j) ∧ Below w.heap.size w w' := by
 unfold setV
 go_enter Tryz.func94, Tryz.ntmps94
 go_wp2
 go_loopw [5, 6, 8] (fun _ _ i wr => ∃ k : Nat, k ≤ 4 ∧ i = .int .i64 k ∧ Hid (Sub w wr (mixed k (fun j => P j && !Q j) P))) (fun _ _ i _ => 4 - (intOf i).toNat)
 case atStart =>
  refine ⟨0, Nat.zero_le _, rfl, Lib.hid ⟨?_, ?_, ?_⟩⟩
  · exact (((Four.newP w P _).alloc _).alloc _).congr fun i hi => by simp [mixed]
  · have := Four.new ((w.alloc (.cells #[.int .u64 (wd P 0), .int .u64 (wd P 1), .int .u64 (wd P 2), .int .u64 (wd P 3)] 84)).alloc (.cells #[.int .u64 (wd Q 0), .int .u64 (wd Q 1), .int .u64 (wd Q 2), .int .u64 (wd Q 3)] 84)) 0 0 0 0 84
    simp only [World.size_alloc] at this
    exact this.congr fun i hi => by simp
  · exact (((Below.refl _ _).alloc (Nat.le_refl _) _).alloc (by simp) _).alloc (by simp; omega) _
 case round =>
  obtain ⟨k, hk, rfl, HT⟩ := hrel
  by_cases hlt : k < 4
  · have hidx := index_word Q k hlt
    have c := HT.out.s.cell k hlt
    have f := HT.out.s.free k hlt
    rw [show mixed k (fun j => P j && !Q j) P k = wd P k by simp [mixed]] at c
    have hw := Lib.hid (wd_andNot P Q k)
    go_wp2
    rw [hw.out]
    go_roundw
    case rel =>
     refine ⟨k + 1, by omega, by go_num, Lib.hid ?_⟩
     have h := HT.out.set k (wd (fun j => P j && !Q j) k)
     refine ⟨h.s.congr fun i hi => ?_, h.r, h.b⟩
     unfold mixed
     by_cases e : i = k
     · subst e; simp
     · by_cases e2 : i < k
       · simp [e, e2, show i < k + 1 by omega]
       · simp [e, e2, show ¬ i < k + 1 by omega]
    case measure => simp [intOf]; omega
  · obtain rfl : k = 4 := by omega
    have c0 := HT.out.s.cell 0 (by omega)
    have c1 := HT.out.s.cell 1 (by omega)
    have c2 := HT.out.s.cell 2 (by omega)
    have c3 := HT.out.s.cell 3 (by omega)
    have r0 := HT.out.r.cell 0 (by omega)
    have r1 := HT.out.r.cell 1 (by omega)
    have r2 := HT.out.r.cell 2 (by omega)
    have r3 := HT.out.r.cell 3 (by omega)
    have f0 := HT.out.r.free 0 (by omega)
    have f1 := HT.out.r.free 1 (by omega)
    have f2 := HT.out.r.free 2 (by omega)
    have f3 := HT.out.r.free 3 (by omega)
    simp only [mixed] at c0 c1 c2 c3
    go_wp2
    refine bodyPost_ret (v := setV fun j => P j && !Q j) ?_ rfl ⟨rfl, (((HT.out.b.setCell (by simp; omega) _).setCell (by simp; omega) _).setCell (by simp; omega) _).setCell (by simp; omega) _⟩
    simp [results, Tryz.results94, go_sem, setV, r0, r1, r2, r3]
def SetsAt (w : World) (b : Nat) (Ps : List (Nat → Bool)) : Prop := ∀ i, i < Ps.length → ∀ j, j < 4 → w.cell? ⟨b, i * 4 + j, none⟩ = some (.int .u64 (wd (Ps.getD i fun _ => false) j))
def anyOf (Ps : List (Nat → Bool)) (j : Nat) : Bool := Ps.any fun P => P j
structure Uni (w wr : World) (x : Nat → Int) : Prop where
 s : Four wr (w.heap.size + 1) x
 r : Four wr w.heap.size (fun _ => 0)
 b : Below w.heap.size w wr
set_option maxHeartbeats 800000 in
theorem chars_Union.calls (b c : Nat) (Ps : List (Nat → Bool)) (hn : Ps.length ≤ 100) (w : World) (hp : SetsAt w b Ps) (hb : b < w.heap.size) :
 Calls Tryz.prog 77 #[.slice (some ⟨b, 0, none⟩) Ps.length c] w fun e w' => e = .returned (setV (anyOf Ps)) ∧ Below w.heap.size w w' := by
 have HP := Lib.hid hp
 clear hp
 go_enter Tryz.func77, Tryz.ntmps77
 go_wp2
 go_loopw [5, 6, 7, 10] (fun _ _ _ i wr => ∃ k : Nat, k ≤ Ps.length ∧ i = .int .i64 k ∧ Hid (Uni w wr (wd (anyOf (Ps.take k))))) (fun _ _ _ i _ => Ps.length - (intOf i).toNat)
 case atStart =>
  refine ⟨0, Nat.zero_le _, rfl, Lib.hid ⟨?_, ?_, ((Below.refl _ _).alloc (Nat.le_refl _) _).alloc (by simp) _⟩⟩
  · have := Four.new (w.alloc (.cells #[.int .u64 0, .int .u64 0, .int .u64 0, .int .u64 0] 84)) 0 0 0 0 84
    simp only [World.size_alloc] at this
    exact this.congr fun i hi => by rw [show (anyOf (Ps.take 0)) = fun _ => false from rfl, wd_empty]; simp
  · exact ((Four.new w 0 0 0 0 _).alloc _).congr fun i hi => by simp
 case round =>
  obtain ⟨k, hk, rfl, HT⟩ := hrel
  by_cases hlt : k < Ps.length
  · have c0 := (HT.out.b.cell (p := ⟨b, k * 4 + 0, none⟩) hb).trans (HP.out k hlt 0 (by omega))
    have c1 := (HT.out.b.cell (p := ⟨b, k * 4 + 1, none⟩) hb).trans (HP.out k hlt 1 (by omega))
    have c2 := (HT.out.b.cell (p := ⟨b, k * 4 + 2, none⟩) hb).trans (HP.out k hlt 2 (by omega))
    have c3 := (HT.out.b.cell (p := ⟨b, k * 4 + 3, none⟩) hb).trans (HP.out k hlt 3 (by omega))
    simp only [Nat.add_zero] at c0
    obtain ⟨R, hR⟩ : ∃ R, R = Ps.getD k fun _ => false := ⟨_, rfl⟩
    rw [← hR] at c0 c1 c2 c3
    have HR : Hid (anyOf (Ps.take (k + 1)) = fun j => anyOf (Ps.take k) j || R j) := Lib.hid (by
     funext j
     rw [hR, List.take_succ_eq_append_getElem hlt, List.getD_eq_getElem?_getD, List.getElem?_eq_getElem hlt]
     simp only [anyOf, List.any_append, List.any_cons, List.any_nil, Bool.or_false, Option.getD_some])
    clear hR
    obtain ⟨O, hO⟩ : ∃ O, O = anyOf (Ps.take k) := ⟨_, rfl⟩
    rw [← hO] at HT HR
    clear hO
    obtain ⟨wo, rfl⟩ : ∃ wo : World, wo = wr := ⟨_, rfl⟩
    go_wp2
    go_loopw [6, 7, 15] (fun _ _ i wr => ∃ q : Nat, q ≤ 4 ∧ i = .int .i64 q ∧ Hid (Uni w wr (mixed q (fun j => O j || R j) O))) (fun _ _ i _ => 4 - (intOf i).toNat)
    case atStart =>
     refine ⟨0, Nat.zero_le _, rfl, Lib.hid ⟨?_, HT.out.r.alloc _, HT.out.b.alloc HT.out.b.size _⟩⟩
     exact (HT.out.s.alloc _).congr fun i hi => by simp [mixed]
    case round =>
     obtain ⟨q, hq, rfl, HU⟩ := hrel
     by_cases hq4 : q < 4
     · have hidx := index_word R q hq4
       have c := HU.out.s.cell q hq4
       have f := HU.out.s.free q hq4
       rw [show mixed q (fun j => O j || R j) O q = wd O q by simp [mixed]] at c
       have hw := Lib.hid (wd_or O R q)
       go_wp2
       rw [hw.out]
       go_roundw
       case rel =>
        refine ⟨q + 1, by omega, by go_num, Lib.hid ⟨(HU.out.s.set q (wd (fun j => O j || R j) q)).congr fun i hi => ?_, HU.out.r.other q _ (by omega), HU.out.b.setCell (by simp) _⟩⟩
        unfold mixed
        by_cases e : i = q
        · subst e; simp
        · by_cases e2 : i < q
          · simp [e, e2, show i < q + 1 by omega]
          · simp [e, e2, show ¬ i < q + 1 by omega]
       case measure => simp [intOf]; omega
     · obtain rfl : q = 4 := by omega
       go_wp2
       go_roundw
       case rel =>
        refine ⟨k + 1, by omega, by go_num, Lib.hid ⟨?_, HU.out.r, HU.out.b⟩⟩
        rw [HR.out]
        exact HU.out.s.congr fun i hi => by simp [mixed, hi]
       case measure => simp [intOf]; omega
  · have E := Lib.hid (show Ps.take k = Ps from List.take_of_length_le (by omega))
    obtain ⟨O, hO⟩ : ∃ O, O = anyOf (Ps.take k) := ⟨_, rfl⟩
    rw [← hO] at HT
    have EO := Lib.hid (show O = anyOf Ps by rw [hO, E.out])
    clear hO E
    have c0 := HT.out.s.cell 0 (by omega)
    have c1 := HT.out.s.cell 1 (by omega)
    have c2 := HT.out.s.cell 2 (by omega)
    have c3 := HT.out.s.cell 3 (by omega)
    have r0 := HT.out.r.cell 0 (by omega)
    have r1 := HT.out.r.cell 1 (by omega)
    have r2 := HT.out.r.cell 2 (by omega)
    have r3 := HT.out.r.cell 3 (by omega)
    have f0 := HT.out.r.free 0 (by omega)
    have f1 := HT.out.r.free 1 (by omega)
    have f2 := HT.out.r.free 2 (by omega)
    have f3 := HT.out.r.free 3 (by omega)
    go_wp2
    refine bodyPost_ret (v := setV O) ?_ rfl ⟨by rw [EO.out], (((HT.out.b.setCell (Nat.le_refl _) _).setCell (Nat.le_refl _) _).setCell (Nat.le_refl _) _).setCell (Nat.le_refl _) _⟩
    simp [results, Tryz.results77, go_sem, setV, r0, r1, r2, r3]
def chars_Set_Has.f (P : Nat → Bool) (c : Int) : Option Bool := if 0 ≤ c ∧ c ≤ 255 then some (P c.toNat) else none
set_option maxHeartbeats 400000 in
theorem chars_Set_Has.calls (P : Nat → Bool) (c : Int) (r : Bool) (w : World) (h : chars_Set_Has.f P c = some r) :
 Calls Tryz.prog 56 #[setV P, .int .u8 c] w fun e w' => e = .returned (.bool r) ∧ Below w.heap.size w w' := by
 unfold chars_Set_Has.f at h
 split at h
 · rename_i hc
   obtain ⟨h0, h1⟩ := hc
   injection h with h
   have hw := wd_has P c h0
   rw [h] at hw
   have HW := Lib.hid hw
   clear h hw
   have h2 : 0 ≤ c / 64 := by omega
   have h3 : c / 64 < 4 := by omega
   have h4 : 0 ≤ c % 64 := by omega
   have h5 : c % 64 < 64 := by omega
   have cc := ((Four.newP w P 84).cell (c / 64).toNat (by omega))
   unfold setV
   go_enter Tryz.func56, Tryz.ntmps56
   go_wp2
   rw [HW.out]
   go_ret
   exact ⟨rfl, (Below.refl _ _).alloc (Nat.le_refl _) _⟩
 · cases h
def chars_Digit.f : Option (Nat → Bool) := some isDigit
def chars_Alpha.f : Option (Nat → Bool) := some isAlpha
def chars_Hex.f : Option (Nat → Bool) := some isHex
def chars_Word.f : Option (Nat → Bool) := some isWord
def chars_Literal.f : Option (Nat → Bool) := some isLit
structure Res (w wr : World) : Prop where
 r : Four wr w.heap.size (fun _ => 0)
 b : Below w.heap.size w wr
theorem Res.new (w : World) : Res w (w.alloc (.cells #[.int .u64 0, .int .u64 0, .int .u64 0, .int .u64 0] 84)) :=
 ⟨(Four.new w 0 0 0 0 _).congr fun i hi => by simp, (Below.refl _ _).alloc (Nat.le_refl _) _⟩
theorem Res.step {w wr w1 : World} (h : Res w wr) (hb : Below wr.heap.size wr w1) : Res w w1 :=
 ⟨h.r.kept (hb.block _ h.r.lt), below_then h.b h.b.size hb⟩
theorem Res.alloc {w wr : World} (h : Res w wr) (o : Obj) : Res w (wr.alloc o) := ⟨h.r.alloc o, h.b.alloc h.b.size o⟩
theorem Res.done {w wr : World} (h : Res w wr) (a b c d : Value) : Below w.heap.size w ((((wr.setCell ⟨w.heap.size, 0, none⟩ a).setCell ⟨w.heap.size, 1, none⟩ b).setCell ⟨w.heap.size, 2, none⟩ c).setCell ⟨w.heap.size, 3, none⟩ d) :=
 (((h.b.setCell (Nat.le_refl _) _).setCell (Nat.le_refl _) _).setCell (Nat.le_refl _) _).setCell (Nat.le_refl _) _
theorem SetsAt.two (W : World) (P Q : Nat → Bool) (t : TypeId) : SetsAt (W.alloc (.cells #[.int .u64 (wd P 0), .int .u64 (wd P 1), .int .u64 (wd P 2), .int .u64 (wd P 3), .int .u64 (wd Q 0), .int .u64 (wd Q 1), .int .u64 (wd Q 2), .int .u64 (wd Q 3)] t)) W.heap.size [P, Q] := by
 intro i hi j hj
 have : i = 0 ∨ i = 1 := by simp at hi; omega
 have h2 : j = 0 ∨ j = 1 ∨ j = 2 ∨ j = 3 := by omega
 rcases this with rfl | rfl <;> rcases h2 with rfl | rfl | rfl | rfl <;> simp [go_sem]
theorem SetsAt.three (W : World) (P Q R : Nat → Bool) (t : TypeId) : SetsAt (W.alloc (.cells #[.int .u64 (wd P 0), .int .u64 (wd P 1), .int .u64 (wd P 2), .int .u64 (wd P 3), .int .u64 (wd Q 0), .int .u64 (wd Q 1), .int .u64 (wd Q 2), .int .u64 (wd Q 3), .int .u64 (wd R 0), .int .u64 (wd R 1), .int .u64 (wd R 2), .int .u64 (wd R 3)] t)) W.heap.size [P, Q, R] := by
 intro i hi j hj
 have : i = 0 ∨ i = 1 ∨ i = 2 := by simp at hi; omega
 have h2 : j = 0 ∨ j = 1 ∨ j = 2 ∨ j = 3 := by omega
 rcases this with rfl | rfl | rfl <;> rcases h2 with rfl | rfl | rfl | rfl <;> simp [go_sem]
set_option maxHeartbeats 400000 in
theorem chars_Digit.calls (r : Nat → Bool) (w : World) (h : chars_Digit.f = some r) :
 Calls Tryz.prog 78 #[] w fun e w' => e = .returned (setV r) ∧ Below w.heap.size w w' := by
 injection h with h
 have HR := Lib.hid (show (fun j : Nat => decide ((48 : Int) ≤ j) && decide ((j : Int) ≤ 57)) = r from h)
 clear h
 go_enter Tryz.func78, Tryz.ntmps78
 go_wp2_with fail
 refine (chars_Range.calls 48 57 (by omega) (by omega) (by omega) (by omega) _).mono ?_
 rintro e w1 ⟨rfl, hb⟩
 rw [HR.out]
 have S := Lib.hid ((Res.new w).step hb)
 clear hb
 unfold setV
 have r0 := S.out.r.cell 0 (by omega)
 have r1 := S.out.r.cell 1 (by omega)
 have r2 := S.out.r.cell 2 (by omega)
 have r3 := S.out.r.cell 3 (by omega)
 have f0 := S.out.r.free 0 (by omega)
 have f1 := S.out.r.free 1 (by omega)
 have f2 := S.out.r.free 2 (by omega)
 have f3 := S.out.r.free 3 (by omega)
 go_wp2
 refine bodyPost_ret (v := setV r) ?_ rfl ⟨rfl, S.out.done _ _ _ _⟩
 simp [results, Tryz.results78, go_sem, setV, r0, r1, r2, r3]
set_option maxHeartbeats 800000 in
theorem chars_Alpha.calls (r : Nat → Bool) (w : World) (h : chars_Alpha.f = some r) :
 Calls Tryz.prog 125 #[] w fun e w' => e = .returned (setV r) ∧ Below w.heap.size w w' := by
 injection h with h
 subst h
 go_enter Tryz.func125, Tryz.ntmps125
 have S0 := Lib.hid (Res.new w)
 go_wp2_with fail
 refine (chars_Range.calls 65 90 (by omega) (by omega) (by omega) (by omega) _).mono ?_
 rintro e w1 ⟨rfl, hb⟩
 have S1 := Lib.hid (S0.out.step hb)
 clear hb S0
 go_wp2_with fail
 refine (chars_Range.calls 97 122 (by omega) (by omega) (by omega) (by omega) _).mono ?_
 rintro e w2 ⟨rfl, hb⟩
 have S2 := Lib.hid (S1.out.step hb)
 clear hb S1
 unfold setV
 go_wp2_with fail
 refine (chars_Union.calls _ _ [isUpper, isLower] (by simp) _ (SetsAt.two _ _ _ _) (by simp)).mono ?_
 rintro e w9 ⟨rfl, hb⟩
 have S9 := Lib.hid ((S2.out.alloc _).step hb)
 clear hb S2
 rw [show setV (anyOf [isUpper, isLower]) = setV isAlpha from setV_ext fun j _ => by simp [anyOf, isAlpha]]
 unfold setV
 have r0 := S9.out.r.cell 0 (by omega)
 have r1 := S9.out.r.cell 1 (by omega)
 have r2 := S9.out.r.cell 2 (by omega)
 have r3 := S9.out.r.cell 3 (by omega)
 have f0 := S9.out.r.free 0 (by omega)
 have f1 := S9.out.r.free 1 (by omega)
 have f2 := S9.out.r.free 2 (by omega)
 have f3 := S9.out.r.free 3 (by omega)
 go_wp2
 refine bodyPost_ret (v := setV isAlpha) ?_ rfl ⟨rfl, S9.out.done _ _ _ _⟩
 simp [results, Tryz.results125, go_sem, setV, r0, r1, r2, r3]
set_option maxHeartbeats 800000 in
theorem chars_Hex.calls (r : Nat → Bool) (w : World) (h : chars_Hex.f = some r) :
 Calls Tryz.prog 55 #[] w fun e w' => e = .returned (setV r) ∧ Below w.heap.size w w' := by
 injection h with h
 subst h
 go_enter Tryz.func55, Tryz.ntmps55
 have S0 := Lib.hid (Res.new w)
 go_wp2_with fail
 refine (chars_Digit.calls _ _ rfl).mono ?_
 rintro e w1 ⟨rfl, hb⟩
 have S1 := Lib.hid (S0.out.step hb)
 clear hb S0
 go_wp2_with fail
 refine (chars_Range.calls 65 70 (by omega) (by omega) (by omega) (by omega) _).mono ?_
 rintro e w2 ⟨rfl, hb⟩
 have S2 := Lib.hid (S1.out.step hb)
 clear hb S1
 go_wp2_with fail
 refine (chars_Range.calls 97 102 (by omega) (by omega) (by omega) (by omega) _).mono ?_
 rintro e w3 ⟨rfl, hb⟩
 have S3 := Lib.hid (S2.out.step hb)
 clear hb S2
 unfold setV
 go_wp2_with fail
 refine (chars_Union.calls _ _ [isDigit, isAF, isaf] (by simp) _ (SetsAt.three _ _ _ _ _) (by simp)).mono ?_
 rintro e w9 ⟨rfl, hb⟩
 have S9 := Lib.hid ((S3.out.alloc _).step hb)
 clear hb S3
 rw [show setV (anyOf [isDigit, isAF, isaf]) = setV isHex from setV_ext fun j _ => by simp [anyOf, isHex, Bool.or_assoc]]
 unfold setV
 have r0 := S9.out.r.cell 0 (by omega)
 have r1 := S9.out.r.cell 1 (by omega)
 have r2 := S9.out.r.cell 2 (by omega)
 have r3 := S9.out.r.cell 3 (by omega)
 have f0 := S9.out.r.free 0 (by omega)
 have f1 := S9.out.r.free 1 (by omega)
 have f2 := S9.out.r.free 2 (by omega)
 have f3 := S9.out.r.free 3 (by omega)
 go_wp2
 refine bodyPost_ret (v := setV isHex) ?_ rfl ⟨rfl, S9.out.done _ _ _ _⟩
 simp [results, Tryz.results55, go_sem, setV, r0, r1, r2, r3]
set_option maxHeartbeats 800000 in
theorem chars_Word.calls (r : Nat → Bool) (w : World) (h : chars_Word.f = some r) :
 Calls Tryz.prog 116 #[] w fun e w' => e = .returned (setV r) ∧ Below w.heap.size w w' := by
 injection h with h
 subst h
 go_enter Tryz.func116, Tryz.ntmps116
 have S0 := Lib.hid (Res.new w)
 go_wp2_with fail
 refine (chars_Alpha.calls _ _ rfl).mono ?_
 rintro e w1 ⟨rfl, hb⟩
 have S1 := Lib.hid (S0.out.step hb)
 clear hb S0
 go_wp2_with fail
 refine (chars_Digit.calls _ _ rfl).mono ?_
 rintro e w2 ⟨rfl, hb⟩
 have S2 := Lib.hid (S1.out.step hb)
 clear hb S1
 go_wp2_with fail
 refine (chars_Of.calls ⟨#[95]⟩ (by decide) _).mono ?_
 rintro e w3 ⟨rfl, hb⟩
 have S3 := Lib.hid (S2.out.step hb)
 clear hb S2
 unfold setV
 go_wp2_with fail
 refine (chars_Union.calls _ _ [isAlpha, isDigit, inText ⟨#[95]⟩] (by simp) _ (SetsAt.three _ _ _ _ _) (by simp)).mono ?_
 rintro e w9 ⟨rfl, hb⟩
 have S9 := Lib.hid ((S3.out.alloc _).step hb)
 clear hb S3
 rw [show setV (anyOf [isAlpha, isDigit, inText ⟨#[95]⟩]) = setV isWord from setV_ext fun j _ => by simp [anyOf, isWord, Bool.or_assoc, inText]]
 unfold setV
 have r0 := S9.out.r.cell 0 (by omega)
 have r1 := S9.out.r.cell 1 (by omega)
 have r2 := S9.out.r.cell 2 (by omega)
 have r3 := S9.out.r.cell 3 (by omega)
 have f0 := S9.out.r.free 0 (by omega)
 have f1 := S9.out.r.free 1 (by omega)
 have f2 := S9.out.r.free 2 (by omega)
 have f3 := S9.out.r.free 3 (by omega)
 go_wp2
 refine bodyPost_ret (v := setV isWord) ?_ rfl ⟨rfl, S9.out.done _ _ _ _⟩
 simp [results, Tryz.results116, go_sem, setV, r0, r1, r2, r3]
set_option maxHeartbeats 800000 in
theorem chars_Literal.calls (r : Nat → Bool) (w : World) (h : chars_Literal.f = some r) :
 Calls Tryz.prog 74 #[] w fun e w' => e = .returned (setV r) ∧ Below w.heap.size w w' := by
 injection h with h
 subst h
 go_enter Tryz.func74, Tryz.ntmps74
 have S0 := Lib.hid (Res.new w)
 go_wp2_with fail
 refine (chars_Range.calls 33 126 (by omega) (by omega) (by omega) (by omega) _).mono ?_
 rintro e w1 ⟨rfl, hb⟩
 have S1 := Lib.hid (S0.out.step hb)
 clear hb S0
 go_wp2_with fail
 refine (chars_Of.calls ⟨#[34, 39, 37, 60, 62, 92, 94, 96, 123, 124, 125]⟩ (by decide) _).mono ?_
 rintro e w2 ⟨rfl, hb⟩
 have S2 := Lib.hid (S1.out.step hb)
 clear hb S1
 go_wp2_with fail
 refine (chars_Minus.calls _ _ _).mono ?_
 rintro e w3 ⟨rfl, hb⟩
 have S9 := Lib.hid (S2.out.step hb)
 clear hb S2
 rw [show (setV fun j => (decide ((33 : Int) ≤ (j : Int)) && decide ((j : Int) ≤ 126)) && !inText ⟨#[34, 39, 37, 60, 62, 92, 94, 96, 123, 124, 125]⟩ j) = setV isLit from rfl]
 unfold setV
 have r0 := S9.out.r.cell 0 (by omega)
 have r1 := S9.out.r.cell 1 (by omega)
 have r2 := S9.out.r.cell 2 (by omega)
 have r3 := S9.out.r.cell 3 (by omega)
 have f0 := S9.out.r.free 0 (by omega)
 have f1 := S9.out.r.free 1 (by omega)
 have f2 := S9.out.r.free 2 (by omega)
 have f3 := S9.out.r.free 3 (by omega)
 go_wp2
 refine bodyPost_ret (v := setV isLit) ?_ rfl ⟨rfl, S9.out.done _ _ _ _⟩
 simp [results, Tryz.results74, go_sem, setV, r0, r1, r2, r3]
end Go.Proofs.YtkipkbggnfllkaaGreatDoor.P
end
section
namespace Go.Proofs.YtkipkbggnfllkaaGreatDoor.P
open Go.RowKit Go.Proofs.YtkipkbggnfllkaaGreatDoorW.PrintWords Go.Proofs.YtkipkbggnfllkaaGreatDoorW.PrintLast Go.Proofs.YtkipkbggnfllkaaGreatDoorW.PrintMore
attribute [local go_sem] max2_int min2_int max_two min_two max_three min_three max_four min_four
set_option linter.unusedVariables false
set_option linter.unusedSimpArgs false
mutual
def pct_Digit.j0 : Nat → Int → Bool → Option (Int × Bool)
 | 0, _, _ => none
 | k + 1, x0, x4 => if x4 = true then (some ((x0 - 48) % 256, true)) else (if x0 ≥ 65 then (pct_Digit.j1 k x0 (decide (x0 ≤ 70))) else (pct_Digit.j1 k x0 false))
def pct_Digit.j1 : Nat → Int → Bool → Option (Int × Bool)
 | 0, _, _ => none
 | k + 1, x0, x14 => if x14 = true then (some (((x0 - 65) % 256) + 10, true)) else (if x0 ≥ 97 then (if x0 ≤ 102 then (some (((x0 - 97) % 256) + 10, true)) else (some (0, false))) else (some (0, false)))
end
def pct_Digit.f (k : Nat) (a0 : Int) : Option (Int × Bool) := if a0 ≥ 48 then (pct_Digit.j0 k a0 (decide (a0 ≤ 57))) else (pct_Digit.j0 k a0 false)
theorem pct_Digit.mono_l : ∀ k, (∀ y0 y1, LeO (pct_Digit.j0 k y0 y1) (pct_Digit.j0 (k + 1) y0 y1)) ∧ (∀ y0 y1, LeO (pct_Digit.j1 k y0 y1) (pct_Digit.j1 (k + 1) y0 y1))
 | 0 => ⟨fun _ _ r h => by simp [pct_Digit.j0] at h, fun _ _ r h => by simp [pct_Digit.j1] at h⟩
 | k + 1 => by
  obtain ⟨ih0, ih1⟩ := pct_Digit.mono_l k
  refine ⟨?_, ?_⟩
  · intro y0 y1
    unfold pct_Digit.j0
    repeat' first
    | (with_reducible exact ih0 _ _)
    | (with_reducible exact ih1 _ _)
    | (with_reducible exact LeO.refl _)
    | (with_reducible exact LeO.none _)
    | (with_reducible refine LeO.ite ?_ ?_)
    | (with_reducible refine LeO.bind ?_ (fun _ => ?_))
    | exact ih0 _ _
    | exact ih1 _ _
    | exact LeO.none _
    | refine LeO.ite ?_ ?_
    | refine LeO.bind ?_ (fun _ => ?_)
  · intro y0 y1
    unfold pct_Digit.j1
    repeat' first
    | (with_reducible exact ih0 _ _)
    | (with_reducible exact ih1 _ _)
    | (with_reducible exact LeO.refl _)
    | (with_reducible exact LeO.none _)
    | (with_reducible refine LeO.ite ?_ ?_)
    | (with_reducible refine LeO.bind ?_ (fun _ => ?_))
    | exact ih0 _ _
    | exact ih1 _ _
    | exact LeO.none _
    | refine LeO.ite ?_ ?_
    | refine LeO.bind ?_ (fun _ => ?_)
theorem pct_Digit.mono : ∀ a0 k, LeO (pct_Digit.f k a0) (pct_Digit.f (k + 1) a0) := by
 intro a0 k
 obtain ⟨ih0, ih1⟩ := pct_Digit.mono_l k
 unfold pct_Digit.f
 repeat' first
  | (with_reducible exact ih0 _ _)
  | (with_reducible exact ih1 _ _)
  | (with_reducible exact LeO.refl _)
  | (with_reducible exact LeO.none _)
  | (with_reducible refine LeO.ite ?_ ?_)
  | (with_reducible refine LeO.bind ?_ (fun _ => ?_))
  | exact ih0 _ _
  | exact ih1 _ _
  | exact LeO.none _
  | refine LeO.ite ?_ ?_
  | refine LeO.bind ?_ (fun _ => ?_)
set_option maxHeartbeats 8000000 in
set_option maxRecDepth 100000 in
theorem pct_Digit.calls (k : Nat) (a0 : Int) (r1 : Int) (r2 : Bool) (w : World) (h : pct_Digit.f k a0 = some (r1, r2)) :
 Calls Tryz.prog 114 #[.int .u8 a0] w fun e w' => e = .returned (.tuple #[.int .i64 r1, .bool r2]) ∧ Drawn0 w w' := by
 have H : (if a0 ≥ 48 then (pct_Digit.j0 k a0 (decide (a0 ≤ 57))) else (pct_Digit.j0 k a0 false)) = some (r1, r2) := h
 clear h
 have HC2 := Aside0.mk H
 clear H
 go_enter Tryz.func114, Tryz.ntmps114
 go_upto_region 1 with (fail)
 go_cut [4] (fun v4 wc => ∃ (kq : Nat) (x4_1 : Bool), v4 = .bool x4_1 ∧ Aside0 (pct_Digit.j0 kq a0 x4_1 = some (r1, r2)) ∧ Aside0 (kq ≤ k) ∧ Drawn0 w wc)
 case first =>
  have H := HC2.out
  clear HC2
  by_cases c3 : a0 ≥ 48
  · rw [if_pos c3] at H
    have c3b0 : decide (48 ≤ a0) = true := decide_eq_true c3
    clear c3
    (first | rw [c3b0] | (simp only [i64_w, i32_w]; rw [c3b0]) | skip)
    have H' := Aside0.mk H
    clear H
    go_wp2
    go_meet
    case rel => exact ⟨_, (decide (a0 ≤ 57)), (by first | rfl | (simp; done) | (simp [*]; done)), H', ⟨by first | omega | exact Nat.le_refl _⟩, by repeat (first | exact Drawn0.refl _ | apply Drawn0.step)⟩
  · rw [if_neg c3] at H
    have c3b0 : decide (48 ≤ a0) = false := decide_eq_false c3
    clear c3
    (first | rw [c3b0] | (simp only [i64_w, i32_w]; rw [c3b0]) | skip)
    have H' := Aside0.mk H
    clear H
    go_wp2
    go_meet
    case rel => exact ⟨_, (false), (by first | rfl | (simp; done) | (simp [*]; done)), H', ⟨by first | omega | exact Nat.le_refl _⟩, by repeat (first | exact Drawn0.refl _ | apply Drawn0.step)⟩
 case rest =>
  clear HC2
  try clear c1
  try clear p2
  try clear c3
  try clear c3b0
  obtain ⟨kq, x4_1, rfl, HA, HJ1, ⟨mc1, rfl⟩⟩ := hcut
  cases kq with
  | zero => exact absurd HA.out (by simp [pct_Digit.j0])
  | succ kj1 =>
   have H := HA.out
   clear HA
   simp only [pct_Digit.j0] at H
   by_cases c4 : x4_1 = true
   · subst c4
     have H1 : (some ((a0 - 48) % 256, true)) = some (r1, r2) := by rw [if_pos rfl] at H; exact H
     clear H
     have H := H1
     clear H1
     simp only [Option.some.injEq, Prod.mk.injEq] at H
     obtain ⟨rfl, rfl⟩ := H
     go_wp2
     go_ret2
     exact ⟨by first | rfl | (simp; done) | (simp [*]; done), by repeat (first | exact Drawn0.refl _ | apply Drawn0.step)⟩
   · replace c4 := Bool.eq_false_iff.mpr c4
     subst c4
     have H1 : (if a0 ≥ 65 then (pct_Digit.j1 kj1 a0 (decide (a0 ≤ 70))) else (pct_Digit.j1 kj1 a0 false)) = some (r1, r2) := by rw [if_neg (show ¬ (false = true) by decide)] at H; exact H
     clear H
     have H := H1
     clear H1
     have HC5 := Aside0.mk H
     clear H
     go_upto_region 3 with (fail)
     go_cut [14] (fun v14 wc => ∃ (kq : Nat) (x14_4 : Bool), v14 = .bool x14_4 ∧ Aside0 (pct_Digit.j1 kq a0 x14_4 = some (r1, r2)) ∧ Aside0 (kq ≤ kj1) ∧ Drawn0 w wc)
     case first =>
      have H := HC5.out
      clear HC5
      by_cases c6 : a0 ≥ 65
      · rw [if_pos c6] at H
        have c6b0 : decide (65 ≤ a0) = true := decide_eq_true c6
        clear c6
        (first | rw [c6b0] | (simp only [i64_w, i32_w]; rw [c6b0]) | skip)
        have H' := Aside0.mk H
        clear H
        go_wp2
        go_meet
        case rel => exact ⟨_, (decide (a0 ≤ 70)), (by first | rfl | (simp; done) | (simp [*]; done)), H', ⟨by have := HJ1.out; first | omega | exact Nat.le_refl _⟩, by repeat (first | exact Drawn0.refl _ | apply Drawn0.step)⟩
      · rw [if_neg c6] at H
        have c6b0 : decide (65 ≤ a0) = false := decide_eq_false c6
        clear c6
        (first | rw [c6b0] | (simp only [i64_w, i32_w]; rw [c6b0]) | skip)
        have H' := Aside0.mk H
        clear H
        go_wp2
        go_meet
        case rel => exact ⟨_, (false), (by first | rfl | (simp; done) | (simp [*]; done)), H', ⟨by have := HJ1.out; first | omega | exact Nat.le_refl _⟩, by repeat (first | exact Drawn0.refl _ | apply Drawn0.step)⟩
     case rest =>
      clear HC5
      try clear c1
      try clear p2
      try clear c3
      try clear c3b0
      try clear c4
      try clear c6
      try clear c6b0
      try clear p2
      obtain ⟨kq, x14_4, rfl, HA, HJ4, ⟨mc4, rfl⟩⟩ := hcut
      cases kq with
      | zero => exact absurd HA.out (by simp [pct_Digit.j1])
      | succ kj4 =>
       have H := HA.out
       clear HA
       simp only [pct_Digit.j1] at H
       by_cases c7 : x14_4 = true
       · subst c7
         have H1 : (some (((a0 - 65) % 256) + 10, true)) = some (r1, r2) := by rw [if_pos rfl] at H; exact H
         clear H
         have H := H1
         clear H1
         simp only [Option.some.injEq, Prod.mk.injEq] at H
         obtain ⟨rfl, rfl⟩ := H
         go_wp2
         go_ret2
         exact ⟨by first | rfl | (simp; done) | (simp [*]; done), by repeat (first | exact Drawn0.refl _ | apply Drawn0.step)⟩
       · replace c7 := Bool.eq_false_iff.mpr c7
         subst c7
         have H1 : (if a0 ≥ 97 then (if a0 ≤ 102 then (some (((a0 - 97) % 256) + 10, true)) else (some (0, false))) else (some (0, false))) = some (r1, r2) := by rw [if_neg (show ¬ (false = true) by decide)] at H; exact H
         clear H
         have H := H1
         clear H1
         by_cases c8 : a0 ≥ 97
         · rw [if_pos c8] at H
           have c8b0 : decide (97 ≤ a0) = true := decide_eq_true c8
           clear c8
           by_cases c9 : a0 ≤ 102
           · rw [if_pos c9] at H
             have c9b0 : decide (a0 ≤ 102) = true := decide_eq_true c9
             clear c9
             simp only [Option.some.injEq, Prod.mk.injEq] at H
             obtain ⟨rfl, rfl⟩ := H
             go_wp2
             go_ret2
             exact ⟨by first | rfl | (simp; done) | (simp [*]; done), by repeat (first | exact Drawn0.refl _ | apply Drawn0.step)⟩
           · rw [if_neg c9] at H
             have c9b0 : decide (a0 ≤ 102) = false := decide_eq_false c9
             clear c9
             simp only [Option.some.injEq, Prod.mk.injEq] at H
             obtain ⟨rfl, rfl⟩ := H
             go_wp2
             go_ret2
             exact ⟨by first | rfl | (simp; done) | (simp [*]; done), by repeat (first | exact Drawn0.refl _ | apply Drawn0.step)⟩
         · rw [if_neg c8] at H
           have c8b0 : decide (97 ≤ a0) = false := decide_eq_false c8
           clear c8
           simp only [Option.some.injEq, Prod.mk.injEq] at H
           obtain ⟨rfl, rfl⟩ := H
           go_wp2
           go_ret2
           exact ⟨by first | rfl | (simp; done) | (simp [*]; done), by repeat (first | exact Drawn0.refl _ | apply Drawn0.step)⟩
def pct_value.j0 : Nat → ByteArray → Bool → Option (Int × Bool)
 | 0, _, _ => none
 | k + 1, x0, x15 => if x15 = true then (some (0, false)) else (if 1 < (x0.size : Int) then ((pct_Digit.f k (bt x0 1)).bind fun bt349 => (if 2 < (x0.size : Int) then ((pct_Digit.f k (bt x0 2)).bind fun bt351 => (if bt349.2 = true then (some ((wrap64 ((wrap64 (16 * bt349.1)) + bt351.1)) % 256, bt351.2)) else (some ((wrap64 ((wrap64 (16 * bt349.1)) + bt351.1)) % 256, false)))) else (none))) else (none))
def pct_value.f (k : Nat) (a0 : ByteArray) : Option (Int × Bool) := if (a0.size : Int) < 3 then (pct_value.j0 k a0 true) else (if 0 < (a0.size : Int) then (pct_value.j0 k a0 ((bt a0 0) != 37)) else (none))
theorem pct_value.mono_l : ∀ k, (∀ y0 y1, LeO (pct_value.j0 k y0 y1) (pct_value.j0 (k + 1) y0 y1))
 | 0 => fun _ _ r h => by simp [pct_value.j0] at h
 | k + 1 => by
  have ih0 := pct_value.mono_l k
  · intro y0 y1
    unfold pct_value.j0
    repeat' first
    | (with_reducible exact ih0 _ _)
    | (with_reducible exact pct_Digit.mono _ _)
    | (with_reducible exact LeO.refl _)
    | (with_reducible exact LeO.none _)
    | (with_reducible refine LeO.ite ?_ ?_)
    | (with_reducible refine LeO.bind ?_ (fun _ => ?_))
    | exact ih0 _ _
    | exact pct_Digit.mono _ _
    | exact LeO.none _
    | refine LeO.ite ?_ ?_
    | refine LeO.bind ?_ (fun _ => ?_)
theorem pct_value.mono : ∀ a0 k, LeO (pct_value.f k a0) (pct_value.f (k + 1) a0) := by
 intro a0 k
 have ih0 := pct_value.mono_l k
 unfold pct_value.f
 repeat' first
  | (with_reducible exact ih0 _ _)
  | (with_reducible exact pct_Digit.mono _ _)
  | (with_reducible exact LeO.refl _)
  | (with_reducible exact LeO.none _)
  | (with_reducible refine LeO.ite ?_ ?_)
  | (with_reducible refine LeO.bind ?_ (fun _ => ?_))
  | exact ih0 _ _
  | exact pct_Digit.mono _ _
  | exact LeO.none _
  | refine LeO.ite ?_ ?_
  | refine LeO.bind ?_ (fun _ => ?_)
set_option maxHeartbeats 8000000 in
set_option maxRecDepth 100000 in
theorem pct_value.calls (k : Nat) (a0 : ByteArray) (r1 : Int) (r2 : Bool) (w : World) (h : pct_value.f k a0 = some (r1, r2)) :
 Calls Tryz.prog 96 #[.string a0] w fun e w' => e = .returned (.tuple #[.int .u8 r1, .bool r2]) ∧ Drawn0 w w' := by
 have H : (if (a0.size : Int) < 3 then (pct_value.j0 k a0 true) else (if 0 < (a0.size : Int) then (pct_value.j0 k a0 ((bt a0 0) != 37)) else (none))) = some (r1, r2) := h
 clear h
 have HC2 := Aside0.mk H
 clear H
 go_enter Tryz.func96, Tryz.ntmps96
 go_upto_region 1 with (fail)
 go_cut [15] (fun v15 wc => ∃ (kq : Nat) (x15_1 : Bool), v15 = .bool x15_1 ∧ Aside0 (pct_value.j0 kq a0 x15_1 = some (r1, r2)) ∧ Aside0 (kq ≤ k) ∧ Drawn0 w wc)
 case first =>
  have H := HC2.out
  clear HC2
  by_cases c3 : (a0.size : Int) < 3
  · rw [if_pos c3] at H
    have c3b0 : decide ((a0.size : Int) < 3) = true := decide_eq_true c3
    have c3b1 : decide (a0.size < 3) = true := decide_eq_true (by omega)
    clear c3
    (first | rw [c3b0] | (simp only [i64_w, i32_w]; rw [c3b0]) | skip)
    have H' := Aside0.mk H
    clear H
    go_wp2
    go_meet
    case rel => exact ⟨_, (true), (by first | rfl | (simp; done) | (simp [*]; done)), H', ⟨by first | omega | exact Nat.le_refl _⟩, by repeat (first | exact Drawn0.refl _ | apply Drawn0.step)⟩
  · rw [if_neg c3] at H
    have c3b0 : decide ((a0.size : Int) < 3) = false := decide_eq_false c3
    have c3b1 : decide (a0.size < 3) = false := decide_eq_false (by omega)
    clear c3
    (first | rw [c3b0] | (simp only [i64_w, i32_w]; rw [c3b0]) | skip)
    by_cases c4 : 0 < (a0.size : Int)
    · rw [if_pos c4] at H
      have c4b0 : decide (0 < (a0.size : Int)) = true := decide_eq_true c4
      have c4b1 : decide (0 < a0.size) = true := decide_eq_true (by omega)
      clear c4
      have H' := Aside0.mk H
      clear H
      have p5 : 0 ≤ (0 : Int) := (by omega)
      have q5 : 0 < a0.size := (by have : (0 : Int) < (a0.size : Int) := of_decide_eq_true (by first | (with_reducible assumption) | assumption); omega)
      have hx5 : ∀ h : 0 < a0.size, ((a0[0]'h).toNat : Int) = bt a0 0 := bt_at a0 0
      clear p5
      have qi5 : (0 < (a0.size : Int)) = True := eq_true (of_decide_eq_true (by first | (with_reducible assumption) | assumption))
      replace q5 := eq_true q5
      go_wp2
      go_meet
      case rel => exact ⟨_, (((bt a0 0) != 37)), (by first | rfl | (simp; done) | (simp [*]; done)), H', ⟨by first | omega | exact Nat.le_refl _⟩, by repeat (first | exact Drawn0.refl _ | apply Drawn0.step)⟩
    · rw [if_neg c4] at H
      exact absurd H (by simp)
 case rest =>
  clear HC2
  try clear p2
  try clear c3
  try clear c3b0
  try clear c3b1
  try clear c4
  try clear c4b0
  try clear c4b1
  try clear p5
  try clear q5
  try clear hx5
  try clear qi5
  try clear p5
  try clear q5
  obtain ⟨kq, x15_1, rfl, HA, HJ1, ⟨mc1, rfl⟩⟩ := hcut
  cases kq with
  | zero => exact absurd HA.out (by simp [pct_value.j0])
  | succ kj1 =>
   have H := HA.out
   clear HA
   simp only [pct_value.j0] at H
   by_cases c6 : x15_1 = true
   · subst c6
     have H1 : (some (0, false)) = some (r1, r2) := by rw [if_pos rfl] at H; exact H
     clear H
     have H := H1
     clear H1
     simp only [Option.some.injEq, Prod.mk.injEq] at H
     obtain ⟨rfl, rfl⟩ := H
     go_wp2
     go_ret2
     exact ⟨by first | rfl | (simp; done) | (simp [*]; done), by repeat (first | exact Drawn0.refl _ | apply Drawn0.step)⟩
   · replace c6 := Bool.eq_false_iff.mpr c6
     subst c6
     have H1 : (if 1 < (a0.size : Int) then ((pct_Digit.f kj1 (bt a0 1)).bind fun bt349 => (if 2 < (a0.size : Int) then ((pct_Digit.f kj1 (bt a0 2)).bind fun bt351 => (if bt349.2 = true then (some ((wrap64 ((wrap64 (16 * bt349.1)) + bt351.1)) % 256, bt351.2)) else (some ((wrap64 ((wrap64 (16 * bt349.1)) + bt351.1)) % 256, false)))) else (none))) else (none)) = some (r1, r2) := by rw [if_neg (show ¬ (false = true) by decide)] at H; exact H
     clear H
     have H := H1
     clear H1
     by_cases c7 : 1 < (a0.size : Int)
     · rw [if_pos c7] at H
       have c7b0 : decide (1 < (a0.size : Int)) = true := decide_eq_true c7
       have c7b1 : decide (1 < a0.size) = true := decide_eq_true (by omega)
       clear c7
       replace H := Option.bind_eq_some_iff.mp H
       obtain ⟨⟨t349, t350⟩, A90, H⟩ := H
       replace H : (if 2 < (a0.size : Int) then ((pct_Digit.f kj1 (bt a0 2)).bind fun bt351 => (if t350 = true then (some ((wrap64 ((wrap64 (16 * t349)) + bt351.1)) % 256, bt351.2)) else (some ((wrap64 ((wrap64 (16 * t349)) + bt351.1)) % 256, false)))) else (none)) = some (r1, r2) := H
       have A9 := Aside0.mk A90
       clear A90
       by_cases c10 : 2 < (a0.size : Int)
       · rw [if_pos c10] at H
         have c10b0 : decide (2 < (a0.size : Int)) = true := decide_eq_true c10
         have c10b1 : decide (2 < a0.size) = true := decide_eq_true (by omega)
         clear c10
         replace H := Option.bind_eq_some_iff.mp H
         obtain ⟨⟨t351, t352⟩, A120, H⟩ := H
         replace H : (if t350 = true then (some ((wrap64 ((wrap64 (16 * t349)) + t351)) % 256, t352)) else (some ((wrap64 ((wrap64 (16 * t349)) + t351)) % 256, false))) = some (r1, r2) := H
         have A12 := Aside0.mk A120
         clear A120
         by_cases c13 : t350 = true
         · subst c13
           have H1 : (some ((wrap64 ((wrap64 (16 * t349)) + t351)) % 256, t352)) = some (r1, r2) := by rw [if_pos rfl] at H; exact H
           clear H
           have H := H1
           clear H1
           simp only [Option.some.injEq, Prod.mk.injEq] at H
           obtain ⟨rfl, rfl⟩ := H
           have p8 : 0 ≤ (1 : Int) := (by omega)
           have q8 : 1 < a0.size := (by have : (1 : Int) < (a0.size : Int) := of_decide_eq_true (by first | (with_reducible assumption) | assumption); omega)
           have hx8 : ∀ h : 1 < a0.size, ((a0[1]'h).toNat : Int) = bt a0 1 := bt_at a0 1
           clear p8
           have qi8 : (1 < (a0.size : Int)) = True := eq_true (of_decide_eq_true (by first | (with_reducible assumption) | assumption))
           replace q8 := eq_true q8
           go_wp2_with (first | ((with_reducible refine gate_callee (f := 114) rfl ?_); refine goesL_ (some 19) rfl rfl Tryz.func114 (by kernel_rfl) rfl #[.int .u8 (bt a0 1)] rfl (by (try simp only [List.map_toArray, List.map_cons, List.map_nil]); first | done | rfl | (simp only [List.length_drop, List.length_take]; rfl)) ?_; (with_reducible refine (pct_Digit.calls kj1 (bt a0 1) t349 true _ A9.out).mono ?_); rintro e w' ⟨rfl, ⟨nd, rfl⟩⟩; refine ⟨_, rfl, ?_⟩; have p11 : 0 ≤ (2 : Int) := (by omega); have q11 : 2 < a0.size := (by have : (2 : Int) < (a0.size : Int) := of_decide_eq_true (by first | (with_reducible assumption) | assumption); omega); have hx11 : ∀ h : 2 < a0.size, ((a0[2]'h).toNat : Int) = bt a0 2 := bt_at a0 2; clear p11; have qi11 : (2 < (a0.size : Int)) = True := eq_true (of_decide_eq_true (by first | (with_reducible assumption) | assumption)); replace q11 := eq_true q11) | ((with_reducible refine gate_callee (f := 114) rfl ?_); refine goesL_ (some 25) rfl rfl Tryz.func114 (by kernel_rfl) rfl #[.int .u8 (bt a0 2)] rfl (by (try simp only [List.map_toArray, List.map_cons, List.map_nil]); first | done | rfl | (simp only [List.length_drop, List.length_take]; rfl)) ?_; (with_reducible refine (pct_Digit.calls kj1 (bt a0 2) t351 t352 _ A12.out).mono ?_); rintro e w' ⟨rfl, ⟨nd, rfl⟩⟩; refine ⟨_, rfl, ?_⟩))
           go_ret2
           exact ⟨by first | rfl | (simp; done) | (simp [*]; done), by repeat (first | exact Drawn0.refl _ | apply Drawn0.step)⟩
         · replace c13 := Bool.eq_false_iff.mpr c13
           subst c13
           have H1 : (some ((wrap64 ((wrap64 (16 * t349)) + t351)) % 256, false)) = some (r1, r2) := by rw [if_neg (show ¬ (false = true) by decide)] at H; exact H
           clear H
           have H := H1
           clear H1
           simp only [Option.some.injEq, Prod.mk.injEq] at H
           obtain ⟨rfl, rfl⟩ := H
           have p8 : 0 ≤ (1 : Int) := (by omega)
           have q8 : 1 < a0.size := (by have : (1 : Int) < (a0.size : Int) := of_decide_eq_true (by first | (with_reducible assumption) | assumption); omega)
           have hx8 : ∀ h : 1 < a0.size, ((a0[1]'h).toNat : Int) = bt a0 1 := bt_at a0 1
           clear p8
           have qi8 : (1 < (a0.size : Int)) = True := eq_true (of_decide_eq_true (by first | (with_reducible assumption) | assumption))
           replace q8 := eq_true q8
           go_wp2_with (first | ((with_reducible refine gate_callee (f := 114) rfl ?_); refine goesL_ (some 19) rfl rfl Tryz.func114 (by kernel_rfl) rfl #[.int .u8 (bt a0 1)] rfl (by (try simp only [List.map_toArray, List.map_cons, List.map_nil]); first | done | rfl | (simp only [List.length_drop, List.length_take]; rfl)) ?_; (with_reducible refine (pct_Digit.calls kj1 (bt a0 1) t349 false _ A9.out).mono ?_); rintro e w' ⟨rfl, ⟨nd, rfl⟩⟩; refine ⟨_, rfl, ?_⟩; have p11 : 0 ≤ (2 : Int) := (by omega); have q11 : 2 < a0.size := (by have : (2 : Int) < (a0.size : Int) := of_decide_eq_true (by first | (with_reducible assumption) | assumption); omega); have hx11 : ∀ h : 2 < a0.size, ((a0[2]'h).toNat : Int) = bt a0 2 := bt_at a0 2; clear p11; have qi11 : (2 < (a0.size : Int)) = True := eq_true (of_decide_eq_true (by first | (with_reducible assumption) | assumption)); replace q11 := eq_true q11) | ((with_reducible refine gate_callee (f := 114) rfl ?_); refine goesL_ (some 25) rfl rfl Tryz.func114 (by kernel_rfl) rfl #[.int .u8 (bt a0 2)] rfl (by (try simp only [List.map_toArray, List.map_cons, List.map_nil]); first | done | rfl | (simp only [List.length_drop, List.length_take]; rfl)) ?_; (with_reducible refine (pct_Digit.calls kj1 (bt a0 2) t351 t352 _ A12.out).mono ?_); rintro e w' ⟨rfl, ⟨nd, rfl⟩⟩; refine ⟨_, rfl, ?_⟩))
           go_ret2
           exact ⟨by first | rfl | (simp; done) | (simp [*]; done), by repeat (first | exact Drawn0.refl _ | apply Drawn0.step)⟩
       · rw [if_neg c10] at H
         exact absurd H (by simp)
     · rw [if_neg c7] at H
       exact absurd H (by simp)
def pct_Triplet.f (k : Nat) (a0 : ByteArray) : Option (Bool) := (pct_value.f k a0).bind fun bt353 => (some bt353.2)
theorem pct_Triplet.mono : ∀ a0 k, LeO (pct_Triplet.f k a0) (pct_Triplet.f (k + 1) a0) := by
 intro a0 k
 unfold pct_Triplet.f
 repeat' first
  | (with_reducible exact pct_value.mono _ _)
  | (with_reducible exact LeO.refl _)
  | (with_reducible exact LeO.none _)
  | (with_reducible refine LeO.ite ?_ ?_)
  | (with_reducible refine LeO.bind ?_ (fun _ => ?_))
  | exact pct_value.mono _ _
  | exact LeO.none _
  | refine LeO.ite ?_ ?_
  | refine LeO.bind ?_ (fun _ => ?_)
set_option maxHeartbeats 8000000 in
set_option maxRecDepth 100000 in
theorem pct_Triplet.calls (k : Nat) (a0 : ByteArray) (r : Bool) (w : World) (h : pct_Triplet.f k a0 = some r) :
 Calls Tryz.prog 75 #[.string a0] w fun e w' => e = .returned (.bool r) ∧ Drawn0 w w' := by
 have H : ((pct_value.f k a0).bind fun bt353 => (some bt353.2)) = some r := h
 clear h
 replace H := Option.bind_eq_some_iff.mp H
 obtain ⟨⟨t353, t354⟩, A20, H⟩ := H
 replace H : (some t354) = some r := H
 have A2 := Aside0.mk A20
 clear A20
 obtain rfl := Option.some.inj H
 go_enter Tryz.func75, Tryz.ntmps75
 go_wp2_with (first | ((with_reducible refine gate_callee (f := 96) rfl ?_); refine goesL_ (some 7) rfl rfl Tryz.func96 (by kernel_rfl) rfl #[.string a0] rfl (by (try simp only [List.map_toArray, List.map_cons, List.map_nil]); first | done | rfl | (simp only [List.length_drop, List.length_take]; rfl)) ?_; (with_reducible refine (pct_value.calls k a0 t353 t354 _ A2.out).mono ?_); rintro e w' ⟨rfl, ⟨nd, rfl⟩⟩; refine ⟨_, rfl, ?_⟩))
 go_ret
 exact ⟨by first | rfl | (simp; done) | (simp [*]; done), by repeat (first | exact Drawn0.refl _ | apply Drawn0.step)⟩
end Go.Proofs.YtkipkbggnfllkaaGreatDoor.P
end
section
namespace Go.Proofs.YtkipkbggnfllkaaGreatDoor.P
open Go.RowKit Go.Proofs.YtkipkbggnfllkaaGreatDoorW.PrintWords Go.Proofs.YtkipkbggnfllkaaGreatDoorW.PrintLast Go.Proofs.YtkipkbggnfllkaaGreatDoorW.PrintMore
def isTriplet (s : ByteArray) : Bool := decide (3 ≤ s.size) && (bt s 0 == 37 && (isHex (bt s 1).toNat && isHex (bt s 2).toNat))
theorem pct_Digit_hex (c : Int) (h0 : 0 ≤ c) : ∃ n, pct_Digit.f 3 c = some (n, isHex c.toNat) := by
 have e : (c.toNat : Int) = c := Int.toNat_of_nonneg h0
 unfold pct_Digit.f
 simp only [pct_Digit.j0, pct_Digit.j1, isHex, isDigit, isAF, isaf, e]
 by_cases h1 : c ≥ 48 <;> by_cases h2 : c ≤ 57 <;> by_cases h3 : c ≥ 65 <;> by_cases h4 : c ≤ 70 <;> by_cases h5 : c ≥ 97 <;> by_cases h6 : c ≤ 102 <;> simp [h1, h2, h3, h4, h5, h6] <;> omega
theorem pct_Triplet_eq (s : ByteArray) : pct_Triplet.f 4 s = some (isTriplet s) := by
 unfold pct_Triplet.f pct_value.f isTriplet
 by_cases h : (s.size : Int) < 3
 · have h3 : ¬ 3 ≤ s.size := by omega
   rw [if_pos h]
   simp [pct_value.j0, h3]
 · have h3 : 3 ≤ s.size := by omega
   obtain ⟨n1, e1⟩ := pct_Digit_hex (bt s 1) (bt_range s 1).1
   obtain ⟨n2, e2⟩ := pct_Digit_hex (bt s 2) (bt_range s 2).1
   rw [if_neg h, if_pos (by omega)]
   simp only [pct_value.j0]
   by_cases hp : bt s 0 = 37
   · rw [if_neg (by simp [hp]), if_pos (by omega), e1]
     simp only [Option.bind_some]
     rw [if_pos (by omega), e2]
     simp only [Option.bind_some]
     cases isHex (bt s 1).toNat <;> simp [h3, hp]
   · rw [if_pos (by simp [hp])]
     simp [h3, hp]
def endsFrom (s : ByteArray) : Nat → Int → Int → Int × Int
 | 0, at_, end_ => (at_, end_)
 | k + 1, at_, end_ =>
  if at_ < s.size then
   (if isWord (bt s at_).toNat = true then endsFrom s k (at_ + 1) (at_ + 1)
    else if bt s at_ = 46 ∧ at_ > 0 ∧ at_ = end_ then endsFrom s k (at_ + 1) end_
    else if isTriplet (s.extract at_.toNat s.size) = true then endsFrom s k (at_ + 3) (at_ + 3)
    else if bt s at_ = 37 then (if at_ + 1 < s.size ∧ isHex (bt s (at_ + 1)).toNat = true then (at_ + 2, end_) else (at_ + 1, end_))
    else (at_, end_))
  else (at_, end_)
def vname_ends.f (s : ByteArray) : Option (Int × Int) := if s.size ≤ 1099511627776 then some (endsFrom s (s.size + 1) 0 0) else none
structure Sets2 (w wr : World) (g h : Nat) : Prop where
 s : Four wr g (wd isWord)
 x : Four wr h (wd isHex)
 b : Below w.heap.size w wr
theorem Sets2.step {w wr w1 : World} {g h : Nat} (H : Sets2 w wr g h) (hb : Below wr.heap.size wr w1) : Sets2 w w1 g h :=
 ⟨H.s.kept (hb.block _ H.s.lt), H.x.kept (hb.block _ H.x.lt), below_then H.b H.b.size hb⟩
set_option maxRecDepth 100000 in
set_option maxHeartbeats 8000000 in
theorem vname_ends.calls (s : ByteArray) (r1 r2 : Int) (w : World) (h : vname_ends.f s = some (r1, r2)) :
 Calls Tryz.prog 103 #[.string s] w fun e w' => e = .returned (.tuple #[.int .i64 r1, .int .i64 r2]) ∧ Below w.heap.size w w' := by
 unfold vname_ends.f at h
 split at h
 · rename_i hs
   injection h with h
   have HR := Lib.hid h
   clear h
   go_enter Tryz.func103, Tryz.ntmps103
   go_wp2_with fail
   go_step3
   go_wp2_with fail
   refine (chars_Word.calls _ _ rfl).mono ?_
   rintro e w1 ⟨rfl, hb⟩
   have HB := Lib.hid hb
   clear hb
   go_wp2_with fail
   refine (chars_Hex.calls _ _ rfl).mono ?_
   rintro e w2 ⟨rfl, hb⟩
   have HB2 := Lib.hid (below_then HB.out HB.out.size hb)
   clear hb HB
   unfold setV
   go_wp2
   go_step3
   go_wp2
   go_loopw [6, 7, 8] (fun a z _ wr => ∃ (k : Nat) (x y : Int), a = .int .i64 x ∧ z = .int .i64 y ∧ 0 ≤ x ∧ x ≤ s.size + 2 ∧ s.size < x + k ∧ Hid (endsFrom s k x y = (r1, r2)) ∧ Hid (Sets2 w wr w2.heap.size (w2.heap.size + 1))) (fun a _ _ _ => s.size + 3 - (intOf a).toNat)
   case atStart =>
    exact ⟨s.size + 1, 0, 0, rfl, rfl, by omega, by omega, by omega, HR, Lib.hid ⟨(Four.newP w2 isWord _).alloc _, by have := Four.newP (w2.alloc (.cells #[.int .u64 (wd isWord 0), .int .u64 (wd isWord 1), .int .u64 (wd isWord 2), .int .u64 (wd isWord 3)] 84)) isHex 84; simpa using this, (HB2.out.alloc HB2.out.size _).alloc (by simp; have := HB2.out.size; omega) _⟩⟩
   case round =>
    obtain ⟨k, x, y, rfl, rfl, hx0, hx1, hk, HE, HS⟩ := hrel
    have c0 := HS.out.s.cell 0 (by omega)
    have c1 := HS.out.s.cell 1 (by omega)
    have c2 := HS.out.s.cell 2 (by omega)
    have c3 := HS.out.s.cell 3 (by omega)
    by_cases hlt : x < s.size
    · cases k with
      | zero => omega
      | succ k =>
      have hE := HE.out
      rw [endsFrom, if_pos hlt] at hE
      have hix := bt_at s x
      have hcr := bt_range s x
      obtain ⟨c, hc⟩ : ∃ c, c = bt s x := ⟨_, rfl⟩
      rw [← hc] at hE hcr hix
      obtain ⟨hc0, hc1⟩ := hcr
      clear hc
      have hsl : ∀ W : World, (Instr.slice 9 (.string s) (some (.int .i64 x)) none none).run Tryz.prog W = .ok (.string (s.extract x.toNat s.size)) W := fun W => run_slice_string_l W 9 s Tryz.underlying9 .i64 x hx0 (by omega)
      go_wp2_with fail
      refine (chars_Set_Has.calls isWord c (isWord c.toNat) _ (by rw [chars_Set_Has.f, if_pos ⟨hc0, hc1⟩])).mono ?_
      rintro e w3 ⟨rfl, hb⟩
      have HS3 := Lib.hid (HS.out.step hb)
      clear hb HS c0 c1 c2 c3 HE
      obtain ⟨b, hb⟩ : ∃ b, b = isWord c.toNat := ⟨_, rfl⟩
      rw [← hb] at hE ⊢
      clear hb
      cases b with
      | true =>
       rw [if_pos rfl] at hE
       have HE1 := Lib.hid hE
       clear hE
       go_wp2
       go_roundw
       case rel => exact ⟨k, x + 1, x + 1, by go_num, by go_num, by omega, by omega, by omega, HE1, HS3⟩
       case measure => simp [intOf]; omega
      | false =>
       rw [if_neg (by simp)] at hE
       by_cases hA : c = 46 ∧ x > 0 ∧ x = y
       · rw [if_pos hA] at hE
         have HE1 := Lib.hid hE
         have q1 : (c == 46) = true := beq_iff_eq.2 hA.1
         have q2 : decide (0 < x) = true := decide_eq_true hA.2.1
         have q3 : (x == y) = true := beq_iff_eq.2 hA.2.2
         clear hE hA
         go_wp2
         go_roundw
         case rel => exact ⟨k, x + 1, y, by go_num, rfl, by omega, by omega, by omega, HE1, HS3⟩
         case measure => simp [intOf]; omega
       · rw [if_neg hA] at hE
         have hq : (c == 46) = false ∨ ((c == 46) = true ∧ decide (0 < x) = false) ∨ ((c == 46) = true ∧ decide (0 < x) = true ∧ (x == y) = false) := by
          by_cases h1 : c = 46
          · by_cases h2 : 0 < x
            · exact .inr (.inr ⟨beq_iff_eq.2 h1, decide_eq_true h2, beq_eq_false_iff_ne.2 (fun h3 => hA ⟨h1, h2, h3⟩)⟩)
            · exact .inr (.inl ⟨beq_iff_eq.2 h1, decide_eq_false h2⟩)
          · exact .inl (beq_eq_false_iff_ne.2 h1)
         clear hA
         rcases hq with q1 | ⟨q1, q2⟩ | ⟨q1, q2, q3⟩
         all_goals
          go_wp2_with fail
          refine (pct_Triplet.calls 4 _ _ _ (pct_Triplet_eq (s.extract x.toNat s.size))).mono ?_
          rintro e w4 ⟨rfl, hb⟩
          have HS4 := Lib.hid (HS3.out.step hb.below)
          clear hb HS3
          obtain ⟨tr, htr⟩ : ∃ b, b = isTriplet (s.extract x.toNat s.size) := ⟨_, rfl⟩
          rw [← htr] at hE ⊢
          have HTr := Lib.hid htr
          clear htr
          cases tr with
          | true =>
           rw [if_pos rfl] at hE
           have HE1 := Lib.hid hE
           clear hE
           go_wp2
           go_roundw
           case rel => exact ⟨k, x + 3, x + 3, by go_num, by go_num, by omega, by omega, by omega, HE1, HS4⟩
           case measure => simp [intOf]; omega
          | false =>
           rw [if_neg (by simp)] at hE
           by_cases hp : c = 37
           · rw [if_pos hp] at hE
             have q9 : (c == 37) = true := beq_iff_eq.2 hp
             clear hp
             by_cases h5 : x + 1 < s.size
             · have hix2 := bt_at s (x + 1)
               have hcr := bt_range s (x + 1)
               obtain ⟨c2, hc2⟩ : ∃ c, c = bt s (x + 1) := ⟨_, rfl⟩
               rw [← hc2] at hE hcr hix2
               obtain ⟨hc20, hc21⟩ := hcr
               have HE0 := Lib.hid hE
               have d0 := HS4.out.x.cell 0 (by omega)
               have d1 := HS4.out.x.cell 1 (by omega)
               have d2 := HS4.out.x.cell 2 (by omega)
               have d3 := HS4.out.x.cell 3 (by omega)
               clear hc2 hE
               go_wp2_with fail
               have k0 := cell_regrown d0
               have k1 := cell_regrown d1
               have k2 := cell_regrown d2
               have k3 := cell_regrown d3
               cases hbx : isHex c2.toNat with
               | true =>
                have HDB := Lib.hid hbx
                have HE1 := HE0.out
                rw [if_pos ⟨h5, hbx⟩] at HE1
                have HEE := Lib.hid HE1
                clear HE1 hbx HE0
                refine wp_region_quiet_below (by kernel_rfl) (by kernel_rfl) ?_
                repeat (go_big_quiet_step (exact Calls.regrown_of (chars_Set_Has.calls isHex c2 true _ (by rw [chars_Set_Has.f, if_pos ⟨hc20, hc21⟩, HDB.out]))))
                refine wpQuiet_nil ?_
                rintro _ ⟨⟨dq, osq⟩, rfl⟩
                have HS5 := Lib.hid (HS4.out.step (below_regrown _ dq osq))
                go_wp2
                rw [Exit.noGoto_ret]
                go_ret2
                have := HEE.out
                simp only [Prod.mk.injEq] at this
                obtain ⟨rfl, rfl⟩ := this
                refine ⟨?_, HS5.out.b⟩
                show Ending.returned (.tuple #[.int .i64 (x + 1 + 1), .int .i64 y]) = _
                rw [show x + 1 + 1 = x + 2 by omega]
               | false =>
                have HDB := Lib.hid hbx
                have HE1 := HE0.out
                rw [if_neg (fun h => by rw [hbx] at h; exact absurd h.2 (by simp))] at HE1
                have HEE := Lib.hid HE1
                clear HE1 hbx HE0
                refine wp_region_quiet_below (by kernel_rfl) (by kernel_rfl) ?_
                repeat (go_big_quiet_step (exact Calls.regrown_of (chars_Set_Has.calls isHex c2 false _ (by rw [chars_Set_Has.f, if_pos ⟨hc20, hc21⟩, HDB.out]))))
                refine wpQuiet_nil ?_
                rintro _ ⟨⟨dq, osq⟩, rfl⟩
                have HS5 := Lib.hid (HS4.out.step (below_regrown _ dq osq))
                go_wp2
                rw [Exit.noGoto_ret]
                go_ret2
                have := HEE.out
                simp only [Prod.mk.injEq] at this
                obtain ⟨rfl, rfl⟩ := this
                exact ⟨rfl, HS5.out.b⟩
             · have h5b : decide (x + 1 < s.size) = false := decide_eq_false h5
               rw [if_neg (fun h => h5 h.1)] at hE
               have HE1 := Lib.hid hE
               clear hE
               go_wp2_with fail
               go_quiet (fail)
               go_wp2
               rw [Exit.noGoto_ret]
               go_ret2
               have := HE1.out
               simp only [Prod.mk.injEq] at this
               obtain ⟨rfl, rfl⟩ := this
               exact ⟨rfl, pw_below_drewN HS4.out.b _⟩
           · rw [if_neg hp] at hE
             have q9 : (c == 37) = false := beq_eq_false_iff_ne.2 hp
             have HE1 := Lib.hid hE
             clear hp hE
             go_wp2
             rw [Exit.noGoto_ret]
             go_ret2
             have := HE1.out
             simp only [Prod.mk.injEq] at this
             obtain ⟨rfl, rfl⟩ := this
             exact ⟨rfl, HS4.out.b⟩
    · have hE := HE.out
      have hstop : endsFrom s k x y = (x, y) := by
       cases k with
       | zero => rfl
       | succ k => rw [endsFrom, if_neg hlt]
      rw [hstop] at hE
      have HE1 := Lib.hid hE
      clear hE
      go_wp2
      go_ret2
      have := HE1.out
      simp only [Prod.mk.injEq] at this
      obtain ⟨rfl, rfl⟩ := this
      exact ⟨rfl, HS.out.b⟩
 · cases h
end Go.Proofs.YtkipkbggnfllkaaGreatDoor.P
end
section
namespace Go.Proofs.YtkipkbggnfllkaaGreatDoor.P
open Go.RowKit Go.Proofs.YtkipkbggnfllkaaGreatDoorW.PrintWords Go.Proofs.YtkipkbggnfllkaaGreatDoorW.PrintLast Go.Proofs.YtkipkbggnfllkaaGreatDoorW.PrintMore
attribute [local go_sem] max2_int min2_int max_two min_two max_three min_three max_four min_four
set_option linter.unusedVariables false
set_option linter.unusedSimpArgs false
def vname_End.f (a0 : ByteArray) : Option (Int) := (vname_ends.f a0).bind fun bt379 => (some bt379.2)
set_option maxHeartbeats 8000000 in
set_option maxRecDepth 100000 in
theorem vname_End.calls (a0 : ByteArray) (r : Int) (w : World) (h : vname_End.f a0 = some r) :
 Calls Tryz.prog 86 #[.string a0] w fun e w' => e = .returned (.int .i64 r) ∧ Below w.heap.size w w' := by
 have HB := Aside0.mk (Below.refl w.heap.size w)
 have H : ((vname_ends.f a0).bind fun bt379 => (some bt379.2)) = some r := h
 clear h
 replace H := Option.bind_eq_some_iff.mp H
 obtain ⟨⟨t379, t380⟩, A20, H⟩ := H
 replace H : (some t380) = some r := H
 have A2 := Aside0.mk A20
 clear A20
 obtain rfl := Option.some.inj H
 go_enter Tryz.func86, Tryz.ntmps86
 go_wp2_with (first | ((with_reducible refine gate_callee (f := 103) rfl ?_); refine goesL_ (some 7) rfl rfl Tryz.func103 (by kernel_rfl) rfl #[.string a0] rfl (by (try simp only [List.map_toArray, List.map_cons, List.map_nil]); first | done | rfl | (simp only [List.length_drop, List.length_take]; rfl)) ?_; (with_reducible refine (vname_ends.calls a0 t379 t380 _ A2.out).mono ?_); rintro e w3 ⟨rfl, hb⟩; refine ⟨_, rfl, ?_⟩; have n0_ := Aside0.mk (below_step (by repeat (first | (with_reducible first | exact HB.out | apply below_alloc | apply pw_below_drewN | apply below_drew1) | exact HB.out)) hb); clear HB; have HB := n0_; clear n0_; (try clear hb); (try clear hb2); (try clear hk); (try clear hi)))
 go_ret
 exact ⟨by first | rfl | (simp [errW_none, errW_some] <;> rfl) | (simp [*, errW_none, errW_some] <;> rfl), by repeat (first | (with_reducible first | exact HB.out | apply below_alloc | apply pw_below_drewN | apply below_drew1) | exact HB.out)⟩
def vname_May.f (a0 : ByteArray) : Option (Bool) := if a0.toList = ([] : List UInt8) then (some false) else ((vname_End.f a0).bind fun t381 => (some (t381 == (a0.size : Int))))
set_option maxHeartbeats 8000000 in
set_option maxRecDepth 100000 in
theorem vname_May.calls (a0 : ByteArray) (r : Bool) (w : World) (h : vname_May.f a0 = some r) :
 Calls Tryz.prog 65 #[.string a0] w fun e w' => e = .returned (.bool r) ∧ Below w.heap.size w w' := by
 have HB := Aside0.mk (Below.refl w.heap.size w)
 have H : (if a0.toList = ([] : List UInt8) then (some false) else ((vname_End.f a0).bind fun t381 => (some (t381 == (a0.size : Int))))) = some r := h
 clear h
 by_cases c2 : a0.toList = ([] : List UInt8)
 · rw [if_pos c2] at H
   have c2b0 : (a0.toList == ([] : List UInt8)) = true := beq_iff_eq.mpr c2
   have c2b1 : (a0.toList != ([] : List UInt8)) = false := bne_eq_false_iff_eq.mpr c2
   clear c2
   obtain rfl := Option.some.inj H
   go_enter Tryz.func65, Tryz.ntmps65
   go_wp2
   go_ret
   exact ⟨by first | rfl | (simp [errW_none, errW_some] <;> rfl) | (simp [*, errW_none, errW_some] <;> rfl), by repeat (first | (with_reducible first | exact HB.out | apply below_alloc | apply pw_below_drewN | apply below_drew1) | exact HB.out)⟩
 · rw [if_neg c2] at H
   have c2b0 : (a0.toList == ([] : List UInt8)) = false := beq_eq_false_iff_ne.mpr c2
   have c2b1 : (a0.toList != ([] : List UInt8)) = true := bne_iff_ne.mpr c2
   replace H := Option.bind_eq_some_iff.mp H
   obtain ⟨t381, A30, H⟩ := H
   replace H : (some (t381 == (a0.size : Int))) = some r := H
   have A3 := Aside0.mk A30
   clear A30
   obtain rfl := Option.some.inj H
   go_enter Tryz.func65, Tryz.ntmps65
   go_wp2_with (first | (go_at_call 86; (with_reducible refine (vname_End.calls a0 t381 _ A3.out).mono ?_); rintro e w4 ⟨rfl, hb⟩; have n0_ := Aside0.mk (below_step (by repeat (first | (with_reducible first | exact HB.out | apply below_alloc | apply pw_below_drewN | apply below_drew1) | exact HB.out)) hb); clear HB; have HB := n0_; clear n0_; (try clear hb); (try clear hb2); (try clear hk); (try clear hi)))
   go_ret
   exact ⟨by first | rfl | (simp [errW_none, errW_some] <;> rfl) | (simp [*, errW_none, errW_some] <;> rfl), by repeat (first | (with_reducible first | exact HB.out | apply below_alloc | apply pw_below_drewN | apply below_drew1) | exact HB.out)⟩
def spec_May.f (a0_0 : ByteArray) (a0_1 : Int) (a0_2 : Bool) : Option (Bool) := (vname_May.f a0_0).bind fun t383 => (if t383 = true then (if a0_1 ≥ 0 then (if a0_1 ≤ 9999 then (if a0_2 = true then (some (!(decide (a0_1 > 0)))) else (some (!false))) else (some false)) else (some false)) else (some false))
set_option maxHeartbeats 8000000 in
set_option maxRecDepth 100000 in
theorem spec_May.calls (a0_0 : ByteArray) (a0_1 : Int) (a0_2 : Bool) (r : Bool) (w : World) (h : spec_May.f a0_0 a0_1 a0_2 = some r) :
 Calls Tryz.prog 46 #[.agg #[.string a0_0, .int .i64 a0_1, .bool a0_2]] w fun e w' => e = .returned (.bool r) ∧ Below w.heap.size w w' := by
 have hu43 := Tryz.underlying43
 have HB := Aside0.mk (Below.refl w.heap.size w)
 have H : ((vname_May.f a0_0).bind fun t383 => (if t383 = true then (if a0_1 ≥ 0 then (if a0_1 ≤ 9999 then (if a0_2 = true then (some (!(decide (a0_1 > 0)))) else (some (!false))) else (some false)) else (some false)) else (some false))) = some r := h
 clear h
 replace H := Option.bind_eq_some_iff.mp H
 obtain ⟨t383, A20, H⟩ := H
 replace H : (if t383 = true then (if a0_1 ≥ 0 then (if a0_1 ≤ 9999 then (if a0_2 = true then (some (!(decide (a0_1 > 0)))) else (some (!false))) else (some false)) else (some false)) else (some false)) = some r := H
 have A2 := Aside0.mk A20
 clear A20
 by_cases c3 : t383 = true
 · subst c3
   have H1 : (if a0_1 ≥ 0 then (if a0_1 ≤ 9999 then (if a0_2 = true then (some (!(decide (a0_1 > 0)))) else (some (!false))) else (some false)) else (some false)) = some r := by rw [if_pos rfl] at H; exact H
   clear H
   have H := H1
   clear H1
   by_cases c4 : a0_1 ≥ 0
   · rw [if_pos c4] at H
     have c4b0 : decide (0 ≤ a0_1) = true := decide_eq_true c4
     clear c4
     by_cases c5 : a0_1 ≤ 9999
     · rw [if_pos c5] at H
       have c5b0 : decide (a0_1 ≤ 9999) = true := decide_eq_true c5
       clear c5
       by_cases c6 : a0_2 = true
       · subst c6
         have H1 : (some (!(decide (a0_1 > 0)))) = some r := by rw [if_pos rfl] at H; exact H
         clear H
         have H := H1
         clear H1
         obtain rfl := Option.some.inj H
         go_enter Tryz.func46, Tryz.ntmps46
         go_wp2_with (first | ((with_reducible refine gate_dst (N := 1) rfl ?_); refine box_event ?hg (N := 1) ?hd (cs := #[.string a0_0, .int .i64 a0_1, .bool true]) (t := 43) ?hr ?_; (case hd => rfl); (case hg => rfl); (case hr => first | (go_simp; done) | (go_simp; rfl)); intro gb382 hg w7 hbox hb; have n0_ := Aside0.mk (below_step (by repeat (first | (with_reducible first | exact HB.out | apply below_alloc | apply pw_below_drewN | apply below_drew1) | exact HB.out)) hb); have n1_ := Aside0.mk (hbox); have n2_ := Aside0.mk ((by rw [hg]; exact (below_size (by repeat (first | (with_reducible first | exact HB.out | apply below_alloc | apply pw_below_drewN | apply below_drew1) | exact HB.out))) : w.heap.size ≤ gb382)); have n3_ := Aside0.mk ((by rw [hg]; exact (below_size (by repeat (first | (with_reducible first | exact HB.out | apply below_alloc | apply pw_below_drewN | apply below_drew1) | exact HB.out))) : w.heap.size ≤ gb382)); clear HB; have HB := n0_; have BK382 := n1_; have GW382 := n2_; have GE382 := n3_; clear n0_ n1_ n2_ n3_; clear hb hbox hg; have hcz8_0 : w7.cell? ⟨gb382, 0, none⟩ = some (.string a0_0) := (blk_cell BK382.out 0).trans rfl; have hcz8_1 : w7.cell? ⟨gb382, 1, none⟩ = some (.int .i64 a0_1) := (blk_cell BK382.out 1).trans rfl; have hcz8_2 : w7.cell? ⟨gb382, 2, none⟩ = some (.bool true) := (blk_cell BK382.out 2).trans rfl; have hfz8_0 := blk_frozen BK382.out 0; have hfz8_1 := blk_frozen BK382.out 1; have hfz8_2 := blk_frozen BK382.out 2) | ((with_reducible refine gate_callee (f := 65) rfl ?_); refine goesL_ (some 5) rfl rfl Tryz.func65 (by kernel_rfl) rfl #[.string a0_0] rfl (by (try simp only [List.map_toArray, List.map_cons, List.map_nil]); first | done | rfl | (simp only [List.length_drop, List.length_take]; rfl)) ?_; (with_reducible refine (vname_May.calls a0_0 true _ A2.out).mono ?_); rintro e w9 ⟨rfl, hb⟩; refine ⟨_, rfl, ?_⟩; have n0_ := Aside0.mk (blk_below (g := gb382) (o := .cells #[.string a0_0, .int .i64 a0_1, .bool true] 43 (0, 0)) (by (with_reducible repeat (first | refine blk_drewN ?_ _ | refine blk_drew ?_ | refine blk_alloc ?_ _)); exact BK382.out) hb); have n1_ := Aside0.mk (below_step (by repeat (first | (with_reducible first | exact HB.out | apply below_alloc | apply pw_below_drewN | apply below_drew1 | refine below_set ?_ GE382.out) | exact HB.out)) hb); clear BK382; clear HB; have BK382 := n0_; have HB := n1_; clear n0_ n1_; (try clear hb); (try clear hb2); (try clear hk); (try clear hi); have hcz10_0 : w9.cell? ⟨gb382, 0, none⟩ = some (.string a0_0) := (blk_cell BK382.out 0).trans rfl; have hcz10_1 : w9.cell? ⟨gb382, 1, none⟩ = some (.int .i64 a0_1) := (blk_cell BK382.out 1).trans rfl; have hcz10_2 : w9.cell? ⟨gb382, 2, none⟩ = some (.bool true) := (blk_cell BK382.out 2).trans rfl; have hfz10_0 := blk_frozen BK382.out 0; have hfz10_1 := blk_frozen BK382.out 1; have hfz10_2 := blk_frozen BK382.out 2))
         go_ret
         exact ⟨by first | rfl | (simp [errW_none, errW_some] <;> rfl) | (simp [*, errW_none, errW_some] <;> rfl), by repeat (first | (with_reducible first | exact HB.out | apply below_alloc | apply pw_below_drewN | apply below_drew1 | refine below_set ?_ GE382.out) | exact HB.out)⟩
       · replace c6 := Bool.eq_false_iff.mpr c6
         subst c6
         have H1 : (some (!false)) = some r := by rw [if_neg (show ¬ (false = true) by decide)] at H; exact H
         clear H
         have H := H1
         clear H1
         obtain rfl := Option.some.inj H
         go_enter Tryz.func46, Tryz.ntmps46
         go_wp2_with (first | ((with_reducible refine gate_dst (N := 1) rfl ?_); refine box_event ?hg (N := 1) ?hd (cs := #[.string a0_0, .int .i64 a0_1, .bool false]) (t := 43) ?hr ?_; (case hd => rfl); (case hg => rfl); (case hr => first | (go_simp; done) | (go_simp; rfl)); intro gb382 hg w11 hbox hb; have n0_ := Aside0.mk (below_step (by repeat (first | (with_reducible first | exact HB.out | apply below_alloc | apply pw_below_drewN | apply below_drew1) | exact HB.out)) hb); have n1_ := Aside0.mk (hbox); have n2_ := Aside0.mk ((by rw [hg]; exact (below_size (by repeat (first | (with_reducible first | exact HB.out | apply below_alloc | apply pw_below_drewN | apply below_drew1) | exact HB.out))) : w.heap.size ≤ gb382)); have n3_ := Aside0.mk ((by rw [hg]; exact (below_size (by repeat (first | (with_reducible first | exact HB.out | apply below_alloc | apply pw_below_drewN | apply below_drew1) | exact HB.out))) : w.heap.size ≤ gb382)); clear HB; have HB := n0_; have BK382 := n1_; have GW382 := n2_; have GE382 := n3_; clear n0_ n1_ n2_ n3_; clear hb hbox hg; have hcz12_0 : w11.cell? ⟨gb382, 0, none⟩ = some (.string a0_0) := (blk_cell BK382.out 0).trans rfl; have hcz12_1 : w11.cell? ⟨gb382, 1, none⟩ = some (.int .i64 a0_1) := (blk_cell BK382.out 1).trans rfl; have hcz12_2 : w11.cell? ⟨gb382, 2, none⟩ = some (.bool false) := (blk_cell BK382.out 2).trans rfl; have hfz12_0 := blk_frozen BK382.out 0; have hfz12_1 := blk_frozen BK382.out 1; have hfz12_2 := blk_frozen BK382.out 2) | ((with_reducible refine gate_callee (f := 65) rfl ?_); refine goesL_ (some 5) rfl rfl Tryz.func65 (by kernel_rfl) rfl #[.string a0_0] rfl (by (try simp only [List.map_toArray, List.map_cons, List.map_nil]); first | done | rfl | (simp only [List.length_drop, List.length_take]; rfl)) ?_; (with_reducible refine (vname_May.calls a0_0 true _ A2.out).mono ?_); rintro e w13 ⟨rfl, hb⟩; refine ⟨_, rfl, ?_⟩; have n0_ := Aside0.mk (blk_below (g := gb382) (o := .cells #[.string a0_0, .int .i64 a0_1, .bool false] 43 (0, 0)) (by (with_reducible repeat (first | refine blk_drewN ?_ _ | refine blk_drew ?_ | refine blk_alloc ?_ _)); exact BK382.out) hb); have n1_ := Aside0.mk (below_step (by repeat (first | (with_reducible first | exact HB.out | apply below_alloc | apply pw_below_drewN | apply below_drew1 | refine below_set ?_ GE382.out) | exact HB.out)) hb); clear BK382; clear HB; have BK382 := n0_; have HB := n1_; clear n0_ n1_; (try clear hb); (try clear hb2); (try clear hk); (try clear hi); have hcz14_0 : w13.cell? ⟨gb382, 0, none⟩ = some (.string a0_0) := (blk_cell BK382.out 0).trans rfl; have hcz14_1 : w13.cell? ⟨gb382, 1, none⟩ = some (.int .i64 a0_1) := (blk_cell BK382.out 1).trans rfl; have hcz14_2 : w13.cell? ⟨gb382, 2, none⟩ = some (.bool false) := (blk_cell BK382.out 2).trans rfl; have hfz14_0 := blk_frozen BK382.out 0; have hfz14_1 := blk_frozen BK382.out 1; have hfz14_2 := blk_frozen BK382.out 2))
         go_ret
         exact ⟨by first | rfl | (simp [errW_none, errW_some] <;> rfl) | (simp [*, errW_none, errW_some] <;> rfl), by repeat (first | (with_reducible first | exact HB.out | apply below_alloc | apply pw_below_drewN | apply below_drew1 | refine below_set ?_ GE382.out) | exact HB.out)⟩
     · rw [if_neg c5] at H
       have c5b0 : decide (a0_1 ≤ 9999) = false := decide_eq_false c5
       clear c5
       obtain rfl := Option.some.inj H
       go_enter Tryz.func46, Tryz.ntmps46
       go_wp2_with (first | ((with_reducible refine gate_dst (N := 1) rfl ?_); refine box_event ?hg (N := 1) ?hd (cs := #[.string a0_0, .int .i64 a0_1, .bool a0_2]) (t := 43) ?hr ?_; (case hd => rfl); (case hg => rfl); (case hr => first | (go_simp; done) | (go_simp; rfl)); intro gb382 hg w15 hbox hb; have n0_ := Aside0.mk (below_step (by repeat (first | (with_reducible first | exact HB.out | apply below_alloc | apply pw_below_drewN | apply below_drew1) | exact HB.out)) hb); have n1_ := Aside0.mk (hbox); have n2_ := Aside0.mk ((by rw [hg]; exact (below_size (by repeat (first | (with_reducible first | exact HB.out | apply below_alloc | apply pw_below_drewN | apply below_drew1) | exact HB.out))) : w.heap.size ≤ gb382)); have n3_ := Aside0.mk ((by rw [hg]; exact (below_size (by repeat (first | (with_reducible first | exact HB.out | apply below_alloc | apply pw_below_drewN | apply below_drew1) | exact HB.out))) : w.heap.size ≤ gb382)); clear HB; have HB := n0_; have BK382 := n1_; have GW382 := n2_; have GE382 := n3_; clear n0_ n1_ n2_ n3_; clear hb hbox hg; have hcz16_0 : w15.cell? ⟨gb382, 0, none⟩ = some (.string a0_0) := (blk_cell BK382.out 0).trans rfl; have hcz16_1 : w15.cell? ⟨gb382, 1, none⟩ = some (.int .i64 a0_1) := (blk_cell BK382.out 1).trans rfl; have hcz16_2 : w15.cell? ⟨gb382, 2, none⟩ = some (.bool a0_2) := (blk_cell BK382.out 2).trans rfl; have hfz16_0 := blk_frozen BK382.out 0; have hfz16_1 := blk_frozen BK382.out 1; have hfz16_2 := blk_frozen BK382.out 2) | ((with_reducible refine gate_callee (f := 65) rfl ?_); refine goesL_ (some 5) rfl rfl Tryz.func65 (by kernel_rfl) rfl #[.string a0_0] rfl (by (try simp only [List.map_toArray, List.map_cons, List.map_nil]); first | done | rfl | (simp only [List.length_drop, List.length_take]; rfl)) ?_; (with_reducible refine (vname_May.calls a0_0 true _ A2.out).mono ?_); rintro e w17 ⟨rfl, hb⟩; refine ⟨_, rfl, ?_⟩; have n0_ := Aside0.mk (blk_below (g := gb382) (o := .cells #[.string a0_0, .int .i64 a0_1, .bool a0_2] 43 (0, 0)) (by (with_reducible repeat (first | refine blk_drewN ?_ _ | refine blk_drew ?_ | refine blk_alloc ?_ _)); exact BK382.out) hb); have n1_ := Aside0.mk (below_step (by repeat (first | (with_reducible first | exact HB.out | apply below_alloc | apply pw_below_drewN | apply below_drew1 | refine below_set ?_ GE382.out) | exact HB.out)) hb); clear BK382; clear HB; have BK382 := n0_; have HB := n1_; clear n0_ n1_; (try clear hb); (try clear hb2); (try clear hk); (try clear hi); have hcz18_0 : w17.cell? ⟨gb382, 0, none⟩ = some (.string a0_0) := (blk_cell BK382.out 0).trans rfl; have hcz18_1 : w17.cell? ⟨gb382, 1, none⟩ = some (.int .i64 a0_1) := (blk_cell BK382.out 1).trans rfl; have hcz18_2 : w17.cell? ⟨gb382, 2, none⟩ = some (.bool a0_2) := (blk_cell BK382.out 2).trans rfl; have hfz18_0 := blk_frozen BK382.out 0; have hfz18_1 := blk_frozen BK382.out 1; have hfz18_2 := blk_frozen BK382.out 2))
       go_ret
       exact ⟨by first | rfl | (simp [errW_none, errW_some] <;> rfl) | (simp [*, errW_none, errW_some] <;> rfl), by repeat (first | (with_reducible first | exact HB.out | apply below_alloc | apply pw_below_drewN | apply below_drew1 | refine below_set ?_ GE382.out) | exact HB.out)⟩
   · rw [if_neg c4] at H
     have c4b0 : decide (0 ≤ a0_1) = false := decide_eq_false c4
     clear c4
     obtain rfl := Option.some.inj H
     go_enter Tryz.func46, Tryz.ntmps46
     go_wp2_with (first | ((with_reducible refine gate_dst (N := 1) rfl ?_); refine box_event ?hg (N := 1) ?hd (cs := #[.string a0_0, .int .i64 a0_1, .bool a0_2]) (t := 43) ?hr ?_; (case hd => rfl); (case hg => rfl); (case hr => first | (go_simp; done) | (go_simp; rfl)); intro gb382 hg w19 hbox hb; have n0_ := Aside0.mk (below_step (by repeat (first | (with_reducible first | exact HB.out | apply below_alloc | apply pw_below_drewN | apply below_drew1) | exact HB.out)) hb); have n1_ := Aside0.mk (hbox); have n2_ := Aside0.mk ((by rw [hg]; exact (below_size (by repeat (first | (with_reducible first | exact HB.out | apply below_alloc | apply pw_below_drewN | apply below_drew1) | exact HB.out))) : w.heap.size ≤ gb382)); have n3_ := Aside0.mk ((by rw [hg]; exact (below_size (by repeat (first | (with_reducible first | exact HB.out | apply below_alloc | apply pw_below_drewN | apply below_drew1) | exact HB.out))) : w.heap.size ≤ gb382)); clear HB; have HB := n0_; have BK382 := n1_; have GW382 := n2_; have GE382 := n3_; clear n0_ n1_ n2_ n3_; clear hb hbox hg; have hcz20_0 : w19.cell? ⟨gb382, 0, none⟩ = some (.string a0_0) := (blk_cell BK382.out 0).trans rfl; have hcz20_1 : w19.cell? ⟨gb382, 1, none⟩ = some (.int .i64 a0_1) := (blk_cell BK382.out 1).trans rfl; have hcz20_2 : w19.cell? ⟨gb382, 2, none⟩ = some (.bool a0_2) := (blk_cell BK382.out 2).trans rfl; have hfz20_0 := blk_frozen BK382.out 0; have hfz20_1 := blk_frozen BK382.out 1; have hfz20_2 := blk_frozen BK382.out 2) | ((with_reducible refine gate_callee (f := 65) rfl ?_); refine goesL_ (some 5) rfl rfl Tryz.func65 (by kernel_rfl) rfl #[.string a0_0] rfl (by (try simp only [List.map_toArray, List.map_cons, List.map_nil]); first | done | rfl | (simp only [List.length_drop, List.length_take]; rfl)) ?_; (with_reducible refine (vname_May.calls a0_0 true _ A2.out).mono ?_); rintro e w21 ⟨rfl, hb⟩; refine ⟨_, rfl, ?_⟩; have n0_ := Aside0.mk (blk_below (g := gb382) (o := .cells #[.string a0_0, .int .i64 a0_1, .bool a0_2] 43 (0, 0)) (by (with_reducible repeat (first | refine blk_drewN ?_ _ | refine blk_drew ?_ | refine blk_alloc ?_ _)); exact BK382.out) hb); have n1_ := Aside0.mk (below_step (by repeat (first | (with_reducible first | exact HB.out | apply below_alloc | apply pw_below_drewN | apply below_drew1 | refine below_set ?_ GE382.out) | exact HB.out)) hb); clear BK382; clear HB; have BK382 := n0_; have HB := n1_; clear n0_ n1_; (try clear hb); (try clear hb2); (try clear hk); (try clear hi); have hcz22_0 : w21.cell? ⟨gb382, 0, none⟩ = some (.string a0_0) := (blk_cell BK382.out 0).trans rfl; have hcz22_1 : w21.cell? ⟨gb382, 1, none⟩ = some (.int .i64 a0_1) := (blk_cell BK382.out 1).trans rfl; have hcz22_2 : w21.cell? ⟨gb382, 2, none⟩ = some (.bool a0_2) := (blk_cell BK382.out 2).trans rfl; have hfz22_0 := blk_frozen BK382.out 0; have hfz22_1 := blk_frozen BK382.out 1; have hfz22_2 := blk_frozen BK382.out 2))
     go_ret
     exact ⟨by first | rfl | (simp [errW_none, errW_some] <;> rfl) | (simp [*, errW_none, errW_some] <;> rfl), by repeat (first | (with_reducible first | exact HB.out | apply below_alloc | apply pw_below_drewN | apply below_drew1 | refine below_set ?_ GE382.out) | exact HB.out)⟩
 · replace c3 := Bool.eq_false_iff.mpr c3
   subst c3
   have H1 : (some false) = some r := by rw [if_neg (show ¬ (false = true) by decide)] at H; exact H
   clear H
   have H := H1
   clear H1
   obtain rfl := Option.some.inj H
   go_enter Tryz.func46, Tryz.ntmps46
   go_wp2_with (first | ((with_reducible refine gate_dst (N := 1) rfl ?_); refine box_event ?hg (N := 1) ?hd (cs := #[.string a0_0, .int .i64 a0_1, .bool a0_2]) (t := 43) ?hr ?_; (case hd => rfl); (case hg => rfl); (case hr => first | (go_simp; done) | (go_simp; rfl)); intro gb382 hg w23 hbox hb; have n0_ := Aside0.mk (below_step (by repeat (first | (with_reducible first | exact HB.out | apply below_alloc | apply pw_below_drewN | apply below_drew1) | exact HB.out)) hb); have n1_ := Aside0.mk (hbox); have n2_ := Aside0.mk ((by rw [hg]; exact (below_size (by repeat (first | (with_reducible first | exact HB.out | apply below_alloc | apply pw_below_drewN | apply below_drew1) | exact HB.out))) : w.heap.size ≤ gb382)); have n3_ := Aside0.mk ((by rw [hg]; exact (below_size (by repeat (first | (with_reducible first | exact HB.out | apply below_alloc | apply pw_below_drewN | apply below_drew1) | exact HB.out))) : w.heap.size ≤ gb382)); clear HB; have HB := n0_; have BK382 := n1_; have GW382 := n2_; have GE382 := n3_; clear n0_ n1_ n2_ n3_; clear hb hbox hg; have hcz24_0 : w23.cell? ⟨gb382, 0, none⟩ = some (.string a0_0) := (blk_cell BK382.out 0).trans rfl; have hcz24_1 : w23.cell? ⟨gb382, 1, none⟩ = some (.int .i64 a0_1) := (blk_cell BK382.out 1).trans rfl; have hcz24_2 : w23.cell? ⟨gb382, 2, none⟩ = some (.bool a0_2) := (blk_cell BK382.out 2).trans rfl; have hfz24_0 := blk_frozen BK382.out 0; have hfz24_1 := blk_frozen BK382.out 1; have hfz24_2 := blk_frozen BK382.out 2) | ((with_reducible refine gate_callee (f := 65) rfl ?_); refine goesL_ (some 5) rfl rfl Tryz.func65 (by kernel_rfl) rfl #[.string a0_0] rfl (by (try simp only [List.map_toArray, List.map_cons, List.map_nil]); first | done | rfl | (simp only [List.length_drop, List.length_take]; rfl)) ?_; (with_reducible refine (vname_May.calls a0_0 false _ A2.out).mono ?_); rintro e w25 ⟨rfl, hb⟩; refine ⟨_, rfl, ?_⟩; have n0_ := Aside0.mk (blk_below (g := gb382) (o := .cells #[.string a0_0, .int .i64 a0_1, .bool a0_2] 43 (0, 0)) (by (with_reducible repeat (first | refine blk_drewN ?_ _ | refine blk_drew ?_ | refine blk_alloc ?_ _)); exact BK382.out) hb); have n1_ := Aside0.mk (below_step (by repeat (first | (with_reducible first | exact HB.out | apply below_alloc | apply pw_below_drewN | apply below_drew1 | refine below_set ?_ GE382.out) | exact HB.out)) hb); clear BK382; clear HB; have BK382 := n0_; have HB := n1_; clear n0_ n1_; (try clear hb); (try clear hb2); (try clear hk); (try clear hi)))
   go_ret
   exact ⟨by first | rfl | (simp [errW_none, errW_some] <;> rfl) | (simp [*, errW_none, errW_some] <;> rfl), by repeat (first | (with_reducible first | exact HB.out | apply below_alloc | apply pw_below_drewN | apply below_drew1 | refine below_set ?_ GE382.out) | exact HB.out)⟩
end Go.Proofs.YtkipkbggnfllkaaGreatDoor.P
end
section
namespace Go.Proofs.YtkipkbggnfllkaaGreatDoor.P
open Go.RowKit Go.Proofs.YtkipkbggnfllkaaGreatDoorW.PrintWords Go.Proofs.YtkipkbggnfllkaaGreatDoorW.PrintLast Go.Proofs.YtkipkbggnfllkaaGreatDoorW.PrintMore
def bs (s : ByteArray) : List Nat := s.data.toList.map (·.toNat)
theorem bs_length (s : ByteArray) : (bs s).length = s.size := by rw [bs, List.length_map]; rfl
theorem bs_lt (s : ByteArray) : ∀ b ∈ bs s, b < 256 := by
 intro b hb
 obtain ⟨x, _, rfl⟩ := List.mem_map.1 hb
 exact x.toNat_lt
theorem bs_extract (s : ByteArray) (a b : Nat) : bs (s.extract a b) = ((bs s).take b).drop a := by
 unfold bs
 rw [ByteArray.data_extract, Array.toList_extract, List.extract_eq_take_drop, List.map_take, List.map_drop, List.drop_take]
theorem bs_from (s : ByteArray) (a : Nat) : bs (s.extract a s.size) = (bs s).drop a := by
 rw [bs_extract, List.take_of_length_le (by rw [bs_length]; exact Nat.le_refl _)]
theorem bs_upto (s : ByteArray) (b : Nat) : bs (s.extract 0 b) = (bs s).take b := by rw [bs_extract, List.drop_zero]
theorem bs_append (s t : ByteArray) : bs (s ++ t) = bs s ++ bs t := by
 unfold bs
 rw [ByteArray.data_append, Array.toList_append, List.map_append]
theorem bt_get (s : ByteArray) (i : Nat) (h : i < s.size) : ∃ b, (bs s)[i]? = some b ∧ bt s i = (b : Int) := by
 refine ⟨(s[i]'h).toNat, ?_, ?_⟩
 · unfold bs
   rw [List.getElem?_map, Array.getElem?_toList]
   have : s.data[i]? = some (s[i]'h) := by
    rw [Array.getElem?_eq_getElem (by exact h)]
    rfl
   rw [this]
   rfl
 · have := bt_at s i (by simpa using h)
   rw [← this]
   simp
theorem bs_drop (s : ByteArray) (i : Nat) (h : i < s.size) : (bs s).drop i = (bt s i).toNat :: (bs s).drop (i + 1) := by
 obtain ⟨b, hb, he⟩ := bt_get s i h
 rw [he, Int.toNat_natCast]
 have hl : i < (bs s).length := by rw [bs_length]; exact h
 rw [List.drop_eq_getElem_cons hl]
 have := List.getElem?_eq_getElem hl
 rw [this] at hb
 injection hb with hb
 rw [hb]
theorem map_toNat_inj : ∀ {l m : List UInt8}, l.map (·.toNat) = m.map (·.toNat) → l = m
 | [], [], _ => rfl
 | [], _ :: _, h => by simp at h
 | _ :: _, [], h => by simp at h
 | a :: l, b :: m, h => by
  simp only [List.map_cons, List.cons.injEq] at h
  rw [UInt8.toNat.inj h.1, map_toNat_inj h.2]
theorem bs_inj {s t : ByteArray} (h : bs s = bs t) : s = t := by
 unfold bs at h
 have h2 : s.data.toList = t.data.toList := by
  exact map_toNat_inj h
 have h3 : s.data = t.data := by
  apply Array.ext'
  exact h2
 cases s
 cases t
 simp only at h3
 rw [h3]
theorem toList_bs {s t : ByteArray} : s.toList = t.toList ↔ bs s = bs t := by
 rw [ByteArray.toList_eq, ByteArray.toList_eq]
 unfold bs
 constructor
 · exact fun h => by rw [h]
 · exact fun h => map_toNat_inj h
theorem toList_is {s : ByteArray} {l : List UInt8} : s.toList = l ↔ bs s = l.map (·.toNat) := by
 rw [ByteArray.toList_eq]
 unfold bs
 exact ⟨fun h => by rw [h], fun h => map_toNat_inj h⟩
theorem toList_nil {s : ByteArray} : s.toList = [] ↔ bs s = [] := by
 rw [ByteArray.toList_eq]
 unfold bs
 simp
theorem bs_get (s : ByteArray) (i : Nat) (h : i < s.size) : ∃ b : Nat, b < 256 ∧ bt s (i : Int) = (b : Int) ∧ (bs s).drop i = b :: (bs s).drop (i + 1) := by
 obtain ⟨b, hb, he⟩ := bt_get s i h
 refine ⟨b, bs_lt s b (List.mem_of_getElem? hb), he, ?_⟩
 rw [bs_drop s i h, he, Int.toNat_natCast]
theorem bs_cases (s : ByteArray) : (s.size = 0 ∧ bs s = [] ∧ s.toList = []) ∨ ∃ (b : Nat) (r : List Nat), b < 256 ∧ bs s = b :: r ∧ bt s 0 = (b : Int) ∧ 0 < s.size ∧ bs (s.extract 1 s.size) = r ∧ s.toList ≠ [] ∧ r.length + 1 = s.size := by
 by_cases h : 0 < s.size
 · obtain ⟨b, h1, h2, h3⟩ := bs_get s 0 h
   have e : bs s = b :: (bs s).drop 1 := h3
   have hl : ((bs s).drop 1).length + 1 = s.size := by rw [List.length_drop, bs_length]; omega
   refine .inr ⟨b, (bs s).drop 1, h1, e, h2, h, bs_from s 1, fun g => ?_, hl⟩
   rw [toList_nil.1 g] at e
   cases e
 · have e : bs s = [] := List.length_eq_zero_iff.1 (by rw [bs_length]; omega)
   exact .inl ⟨by omega, e, toList_nil.2 e⟩
theorem bs_size_from (s : ByteArray) (a : Nat) : (s.extract a s.size).size = s.size - a := by rw [ByteArray.size_extract]; omega
theorem bs_size_upto (s : ByteArray) (a : Nat) (h : a ≤ s.size) : (s.extract 0 a).size = a := by rw [ByteArray.size_extract]; omega
theorem bs_mk (l : List UInt8) : bs ⟨l.toArray⟩ = l.map (·.toNat) := rfl
theorem bs_strOfNums (xs : List Int) (h : ∀ x ∈ xs, 0 ≤ x ∧ x < 256) : bs (strOfNums xs) = xs.map (·.toNat) := by
 unfold bs strOfNums
 simp only [List.map_map]
 apply List.map_congr_left
 intro x hx
 have := h x hx
 simp only [Function.comp, UInt8.toNat_ofNat']
 omega
end Go.Proofs.YtkipkbggnfllkaaGreatDoor.P
end
section
namespace Go.Proofs.YtkipkbggnfllkaaGreatDoor.P
set_option linter.unusedVariables false
set_option linter.unusedSimpArgs false
def MayC (c : Nat) : Prop :=
 (160 ≤ c ∧ c ≤ 55295) ∨ (57344 ≤ c ∧ c ≤ 64975) ∨ (65008 ≤ c ∧ c ≤ 65519) ∨ (65536 ≤ c ∧ c % 65536 ≤ 65533 ∧ c ≤ 1114109 ∧ ¬ (917504 ≤ c ∧ c < 921600))
instance (c : Nat) : Decidable (MayC c) := by unfold MayC; exact inferInstance
theorem meetsFrom_iff (lo hi : Int) : ∀ d k, meetsFrom lo hi d k = true ↔ ∃ j, k ≤ j ∧ j < k + d ∧ lo ≤ spanHi j ∧ spanLo j ≤ hi
 | 0, k => by
  simp only [meetsFrom]
  constructor
  · intro h
    cases h
  · rintro ⟨j, h1, h2, -⟩
    omega
 | d + 1, k => by
  simp only [meetsFrom, Bool.or_eq_true, Bool.and_eq_true, decide_eq_true_eq, meetsFrom_iff lo hi d (k + 1)]
  constructor
  · rintro (⟨h1, h2⟩ | ⟨j, h1, h2, h3, h4⟩)
    · exact ⟨k, Nat.le_refl _, by omega, h1, h2⟩
    · exact ⟨j, by omega, by omega, h3, h4⟩
  · rintro ⟨j, h1, h2, h3, h4⟩
    by_cases e : j = k
    · subst e
      exact .inl ⟨h3, h4⟩
    · exact .inr ⟨j, by omega, by omega, h3, h4⟩
theorem meets_iff (lo hi : Nat) (h : lo ≤ hi) : meetsFrom lo hi 19 0 = true ↔ ∃ c, lo ≤ c ∧ c ≤ hi ∧ MayC c := by
 rw [meetsFrom_iff]
 constructor
 · rintro ⟨j, -, hj, h1, h2⟩
   unfold spanHi at h1
   unfold spanLo at h2
   unfold MayC
   by_cases j0 : j = 0
   · rw [if_pos j0] at h1 h2
     exact ⟨max lo 160, by omega, by omega, by omega⟩
   by_cases j1 : j = 1
   · rw [if_neg j0, if_pos j1] at h1 h2
     exact ⟨max lo 57344, by omega, by omega, by omega⟩
   by_cases j2 : j = 2
   · rw [if_neg j0, if_neg j1, if_pos j2] at h1 h2
     exact ⟨max lo 65008, by omega, by omega, by omega⟩
   rw [if_neg j0, if_neg j1, if_neg j2] at h1 h2
   by_cases j3 : j = 16
   · rw [if_pos j3] at h2
     subst j3
     exact ⟨max lo 921600, by omega, by omega, by omega⟩
   · rw [if_neg j3] at h2
     refine ⟨max lo ((j - 2) * 65536), by omega, by omega, ?_⟩
     omega
 · rintro ⟨c, h1, h2, hc⟩
   unfold MayC at hc
   rcases hc with hc | hc | hc | hc
   · exact ⟨0, by omega, by omega, by simp only [spanHi, if_true]; omega, by simp only [spanLo, if_true]; omega⟩
   · exact ⟨1, by omega, by omega, by simp [spanHi]; omega, by simp [spanLo]; omega⟩
   · exact ⟨2, by omega, by omega, by simp [spanHi]; omega, by simp [spanLo]; omega⟩
   · refine ⟨c / 65536 + 2, by omega, by omega, ?_, ?_⟩
     · unfold spanHi
       rw [if_neg (by omega), if_neg (by omega), if_neg (by omega)]
       omega
     · unfold spanLo
       rw [if_neg (by omega), if_neg (by omega), if_neg (by omega)]
       split <;> omega
def mt (lo hi : Nat) : Bool := decide (lo ≤ hi) && meetsFrom lo hi 19 0
theorem mt_iff (lo hi : Nat) : mt lo hi = true ↔ ∃ c, lo ≤ c ∧ c ≤ hi ∧ MayC c := by
 unfold mt
 by_cases h : lo ≤ hi
 · rw [decide_eq_true h, Bool.true_and]
   exact meets_iff lo hi h
 · rw [decide_eq_false h, Bool.false_and]
   constructor
   · intro h
     cases h
   · rintro ⟨c, h1, h2, -⟩
     omega
theorem mt_of {c lo hi : Nat} (h : MayC c) (h1 : lo ≤ c) (h2 : c ≤ hi) : mt lo hi = true := (mt_iff _ _).2 ⟨c, h1, h2, h⟩
def ucsAt : List Nat → Nat
 | b0 :: b1 :: r =>
  if b0 / 32 = 6 then (if b1 / 64 = 2 ∧ 128 ≤ b0 % 32 * 64 + b1 % 64 ∧ MayC (b0 % 32 * 64 + b1 % 64) then 2 else 0)
  else match r with
   | [] => 0
   | b2 :: r =>
    if b0 / 16 = 14 then (if b1 / 64 = 2 ∧ b2 / 64 = 2 ∧ 2048 ≤ b0 % 16 * 4096 + b1 % 64 * 64 + b2 % 64 ∧ MayC (b0 % 16 * 4096 + b1 % 64 * 64 + b2 % 64) then 3 else 0)
    else match r with
     | [] => 0
     | b3 :: _ =>
      if b0 / 8 = 30 then (if b1 / 64 = 2 ∧ b2 / 64 = 2 ∧ b3 / 64 = 2 ∧ 65536 ≤ b0 % 8 * 262144 + b1 % 64 * 4096 + b2 % 64 * 64 + b3 % 64 ∧ MayC (b0 % 8 * 262144 + b1 % 64 * 4096 + b2 % 64 * 64 + b3 % 64) then 4 else 0)
      else 0
 | _ => 0
def fits : List Nat → Bool
 | [b0] =>
  if b0 / 32 = 6 then mt (max 128 (b0 % 32 * 64)) (b0 % 32 * 64 + 63)
  else if b0 / 16 = 14 then mt (max 2048 (b0 % 16 * 4096)) (b0 % 16 * 4096 + 4095)
  else if b0 / 8 = 30 then mt (max 65536 (b0 % 8 * 262144)) (b0 % 8 * 262144 + 262143) else false
 | [b0, b1] =>
  if b1 / 64 = 2 then
   (if b0 / 32 = 6 then mt (max 128 (b0 % 32 * 64 + b1 % 64)) (b0 % 32 * 64 + b1 % 64)
   else if b0 / 16 = 14 then mt (max 2048 (b0 % 16 * 4096 + b1 % 64 * 64)) (b0 % 16 * 4096 + b1 % 64 * 64 + 63)
   else if b0 / 8 = 30 then mt (max 65536 (b0 % 8 * 262144 + b1 % 64 * 4096)) (b0 % 8 * 262144 + b1 % 64 * 4096 + 4095) else false)
  else false
 | [b0, b1, b2] =>
  if b1 / 64 = 2 ∧ b2 / 64 = 2 then
   (if b0 / 16 = 14 then mt (max 2048 (b0 % 16 * 4096 + b1 % 64 * 64 + b2 % 64)) (b0 % 16 * 4096 + b1 % 64 * 64 + b2 % 64)
   else if b0 / 8 = 30 then mt (max 65536 (b0 % 8 * 262144 + b1 % 64 * 4096 + b2 % 64 * 64)) (b0 % 8 * 262144 + b1 % 64 * 4096 + b2 % 64 * 64 + 63) else false)
  else false
 | [b0, b1, b2, b3] =>
  if b1 / 64 = 2 ∧ b2 / 64 = 2 ∧ b3 / 64 = 2 then
   (if b0 / 8 = 30 then mt (max 65536 (b0 % 8 * 262144 + b1 % 64 * 4096 + b2 % 64 * 64 + b3 % 64)) (b0 % 8 * 262144 + b1 % 64 * 4096 + b2 % 64 * 64 + b3 % 64) else false)
  else false
 | _ => false
theorem ucsAt_low (b : Nat) (r : List Nat) (h : b < 192) : ucsAt (b :: r) = 0 := by
 unfold ucsAt
 repeat' split
 all_goals first | rfl | (exfalso; omega) | (simp only [List.cons.injEq] at *; omega)
theorem ucsAt_steps (l : List Nat) : ucsAt l = 0 ∨
 (ucsAt l = 2 ∧ ∃ b0 b1 r, l = b0 :: b1 :: r ∧ 192 ≤ b0 ∧ fits [b0] = true ∧ ucsAt [b0, b1] = 2) ∨
 (ucsAt l = 3 ∧ ∃ b0 b1 b2 r, l = b0 :: b1 :: b2 :: r ∧ 192 ≤ b0 ∧ fits [b0] = true ∧ ucsAt [b0, b1] = 0 ∧ fits [b0, b1] = true ∧ ucsAt [b0, b1, b2] = 3) ∨
 (ucsAt l = 4 ∧ ∃ b0 b1 b2 b3 r, l = b0 :: b1 :: b2 :: b3 :: r ∧ 192 ≤ b0 ∧ fits [b0] = true ∧ ucsAt [b0, b1] = 0 ∧ fits [b0, b1] = true ∧ ucsAt [b0, b1, b2] = 0 ∧ fits [b0, b1, b2] = true ∧ ucsAt [b0, b1, b2, b3] = 4) := by
 match l with
 | [] => exact .inl rfl
 | [b0] => exact .inl rfl
 | b0 :: b1 :: r =>
  by_cases h2 : b0 / 32 = 6
  · by_cases hg : b1 / 64 = 2 ∧ 128 ≤ b0 % 32 * 64 + b1 % 64 ∧ MayC (b0 % 32 * 64 + b1 % 64)
    · refine .inr (.inl ⟨by simp only [ucsAt]; rw [if_pos h2, if_pos hg], b0, b1, r, rfl, by omega, ?_, by simp only [ucsAt]; rw [if_pos h2, if_pos hg]⟩)
      simp only [fits]
      rw [if_pos h2]
      exact mt_of hg.2.2 (by omega) (by omega)
    · exact .inl (by simp only [ucsAt]; rw [if_pos h2, if_neg hg])
  · match r with
    | [] => exact .inl (by simp only [ucsAt]; rw [if_neg h2])
    | b2 :: r =>
     by_cases h3 : b0 / 16 = 14
     · by_cases hg : b1 / 64 = 2 ∧ b2 / 64 = 2 ∧ 2048 ≤ b0 % 16 * 4096 + b1 % 64 * 64 + b2 % 64 ∧ MayC (b0 % 16 * 4096 + b1 % 64 * 64 + b2 % 64)
       · refine .inr (.inr (.inl ⟨by simp only [ucsAt]; rw [if_neg h2, if_pos h3, if_pos hg], b0, b1, b2, r, rfl, by omega, ?_, by simp only [ucsAt]; rw [if_neg h2], ?_, by simp only [ucsAt]; rw [if_neg h2, if_pos h3, if_pos hg]⟩))
         · simp only [fits]
           rw [if_neg h2, if_pos h3]
           exact mt_of hg.2.2.2 (by omega) (by omega)
         · simp only [fits]
           rw [if_pos hg.1, if_neg h2, if_pos h3]
           exact mt_of hg.2.2.2 (by omega) (by omega)
       · exact .inl (by simp only [ucsAt]; rw [if_neg h2, if_pos h3, if_neg hg])
     · match r with
       | [] => exact .inl (by simp only [ucsAt]; rw [if_neg h2, if_neg h3])
       | b3 :: r =>
        by_cases h4 : b0 / 8 = 30
        · by_cases hg : b1 / 64 = 2 ∧ b2 / 64 = 2 ∧ b3 / 64 = 2 ∧ 65536 ≤ b0 % 8 * 262144 + b1 % 64 * 4096 + b2 % 64 * 64 + b3 % 64 ∧ MayC (b0 % 8 * 262144 + b1 % 64 * 4096 + b2 % 64 * 64 + b3 % 64)
          · refine .inr (.inr (.inr ⟨by simp only [ucsAt]; rw [if_neg h2, if_neg h3, if_pos h4, if_pos hg], b0, b1, b2, b3, r, rfl, by omega, ?_, by simp only [ucsAt]; rw [if_neg h2], ?_, by simp only [ucsAt]; rw [if_neg h2, if_neg h3], ?_, by simp only [ucsAt]; rw [if_neg h2, if_neg h3, if_pos h4, if_pos hg]⟩))
            · simp only [fits]
              rw [if_neg h2, if_neg h3, if_pos h4]
              exact mt_of hg.2.2.2.2 (by omega) (by omega)
            · simp only [fits]
              rw [if_pos hg.1, if_neg h2, if_neg h3, if_pos h4]
              exact mt_of hg.2.2.2.2 (by omega) (by omega)
            · simp only [fits]
              rw [if_pos ⟨hg.1, hg.2.1⟩, if_neg h3, if_pos h4]
              exact mt_of hg.2.2.2.2 (by omega) (by omega)
          · exact .inl (by simp only [ucsAt]; rw [if_neg h2, if_neg h3, if_pos h4, if_neg hg])
        · exact .inl (by simp only [ucsAt]; rw [if_neg h2, if_neg h3, if_neg h4])
inductive Q where
 | top | p1 | p2 | u (l : List Nat) | e0 | ns | n | nd | np1 | np2 | c (k : Nat) | st
def isOp (c : Nat) : Bool := c == 43 || c == 35 || c == 46 || c == 47 || c == 59 || c == 63 || c == 38
def fin (b : Nat) : Option Q := if b = 44 then some .ns else if b = 125 then some .top else none
def nsStep (b : Nat) : Option Q := if isWord b = true then some .n else if b = 37 then some .np1 else none
def step : Q → Nat → Option Q
 | .top, b => if isLit b = true then some .top else if b = 37 then some .p1 else if b = 123 then some .e0 else if fits [b] = true then some (.u [b]) else none
 | .p1, b => if isHex b = true then some .p2 else none
 | .p2, b => if isHex b = true then some .top else none
 | .u l, b => if ucsAt (l ++ [b]) = l.length + 1 then some .top else if fits (l ++ [b]) = true then some (.u (l ++ [b])) else none
 | .e0, b => if isOp b = true then some .ns else nsStep b
 | .ns, b => nsStep b
 | .nd, b => nsStep b
 | .n, b => if isWord b = true then some .n else if b = 37 then some .np1 else if b = 46 then some .nd else if b = 42 then some .st else if b = 58 then some (.c 0) else fin b
 | .np1, b => if isHex b = true then some .np2 else none
 | .np2, b => if isHex b = true then some .n else none
 | .c k, b => if isDigit b = true ∧ k < 4 ∧ ¬ (k = 0 ∧ b = 48) then some (.c (k + 1)) else if k = 0 then none else fin b
 | .st, b => fin b
def nstep : Q → Nat → Option Q
 | .n, b => if isWord b = true then some .n else if b = 37 then some .np1 else if b = 46 then some .nd else none
 | .ns, b => nsStep b
 | .nd, b => nsStep b
 | .np1, b => if isHex b = true then some .np2 else none
 | .np2, b => if isHex b = true then some .n else none
 | _, _ => none
def run (f : Q → Nat → Option Q) : Q → List Nat → Option Q
 | q, [] => some q
 | q, b :: r => match f q b with
  | none => none
  | some q' => run f q' r
section
variable {f : Q → Nat → Option Q}
theorem run_nil (q : Q) : run f q [] = some q := rfl
theorem run_some {q q' : Q} {b : Nat} (h : f q b = some q') (r : List Nat) : run f q (b :: r) = run f q' r := by simp only [run, h]
theorem run_none {q : Q} {b : Nat} (h : f q b = none) (r : List Nat) : run f q (b :: r) = none := by simp only [run, h]
theorem run_append (m : List Nat) : ∀ (l : List Nat) (q : Q), run f q (l ++ m) = (run f q l).bind fun q' => run f q' m
 | [], q => rfl
 | b :: r, q => by
  cases h : f q b with
  | none => rw [List.cons_append, run_none h, run_none h, Option.bind_none]
  | some q' => rw [List.cons_append, run_some h, run_some h, run_append m r q']
end
def isN : Q → Bool
 | .n => true
 | _ => false
theorem isN_iff (q : Q) : isN q = true ↔ q = .n := by cases q <;> simp [isN]
def scan : Q → Nat → Nat → List Nat → Nat × Nat
 | _, a, e, [] => (a, e)
 | q, a, e, b :: r => match nstep q b with
  | none => (a, e)
  | some q' => scan q' (a + 1) (if isN q' = true then a + 1 else e) r
theorem scan_none {q : Q} {b : Nat} (h : nstep q b = none) (a e : Nat) (r : List Nat) : scan q a e (b :: r) = (a, e) := by simp only [scan, h]
theorem scan_some {q q' : Q} {b : Nat} (h : nstep q b = some q') (a e : Nat) (r : List Nat) : scan q a e (b :: r) = scan q' (a + 1) (if isN q' = true then a + 1 else e) r := by simp only [scan, h]
theorem scan_end : ∀ (l : List Nat) (q : Q) (a e : Nat),
 ((scan q a e l).2 = e ∧ ∀ m, 1 ≤ m → m ≤ l.length → run nstep q (l.take m) ≠ some .n) ∨
 ∃ m, 1 ≤ m ∧ m ≤ l.length ∧ (scan q a e l).2 = a + m ∧ run nstep q (l.take m) = some .n ∧ ∀ m', m < m' → m' ≤ l.length → run nstep q (l.take m') ≠ some .n
 | [], q, a, e => .inl ⟨rfl, fun m h1 h2 => by simp at h2; omega⟩
 | b :: r, q, a, e => by
  cases h : nstep q b with
  | none =>
   refine .inl ⟨by rw [scan_none h], fun m h1 h2 => ?_⟩
   obtain ⟨m, rfl⟩ : ∃ k, m = k + 1 := ⟨m - 1, by omega⟩
   rw [List.take_succ_cons, run_none h]
   simp
  | some q' =>
   have key : ∀ m, run nstep q ((b :: r).take (m + 1)) = run nstep q' (r.take m) := fun m => by rw [List.take_succ_cons, run_some h]
   rw [scan_some h]
   rcases scan_end r q' (a + 1) (if isN q' = true then a + 1 else e) with ⟨h1, h2⟩ | ⟨m, h1, h2, h3, h4, h5⟩
   · by_cases hn : isN q' = true
     · refine .inr ⟨1, Nat.le_refl _, by simp, by rw [h1, if_pos hn], by rw [key 0]; exact congrArg some ((isN_iff q').1 hn), fun m' g1 g2 => ?_⟩
       obtain ⟨m', rfl⟩ : ∃ k, m' = k + 1 := ⟨m' - 1, by omega⟩
       rw [key]
       exact h2 m' (by omega) (by simpa using g2)
     · refine .inl ⟨by rw [h1, if_neg hn], fun m' g1 g2 => ?_⟩
       obtain ⟨m', rfl⟩ : ∃ k, m' = k + 1 := ⟨m' - 1, by omega⟩
       rw [key]
       by_cases g : m' = 0
       · subst g
         intro h6
         exact hn ((isN_iff q').2 (Option.some.inj h6))
       · exact h2 m' (by omega) (by simpa using g2)
   · refine .inr ⟨m + 1, by omega, by simpa using h2, by rw [h3]; omega, by rw [key]; exact h4, fun m' g1 g2 => ?_⟩
     obtain ⟨m', rfl⟩ : ∃ k, m' = k + 1 := ⟨m' - 1, by omega⟩
     rw [key]
     exact h5 m' (by omega) (by simpa using g2)
def nameEnd (l : List Nat) : Nat := (scan .ns 0 0 l).2
theorem nameEnd_le (l : List Nat) : nameEnd l ≤ l.length := by
 rcases scan_end l .ns 0 0 with ⟨h1, -⟩ | ⟨m, -, h2, h3, -⟩
 · rw [nameEnd, h1]
   omega
 · rw [nameEnd, h3]
   omega
theorem nameEnd_is (l : List Nat) (h : nameEnd l ≠ 0) : run nstep .ns (l.take (nameEnd l)) = some .n := by
 rcases scan_end l .ns 0 0 with ⟨h1, -⟩ | ⟨m, -, h2, h3, h4, -⟩
 · exact absurd h1 h
 · rw [nameEnd, h3, Nat.zero_add]
   exact h4
theorem nameEnd_last (l : List Nat) (m : Nat) (h1 : nameEnd l < m) (h2 : m ≤ l.length) : run nstep .ns (l.take m) ≠ some .n := by
 rcases scan_end l .ns 0 0 with ⟨g1, g2⟩ | ⟨k, -, g2, g3, g4, g5⟩
 · exact g2 m (by omega) h2
 · rw [nameEnd, g3] at h1
   exact g5 m (by omega) h2
theorem nameEnd_eq {l : List Nat} {m : Nat} (h1 : m ≤ l.length) (h2 : run nstep .ns (l.take m) = some .n) (h3 : ∀ k, m < k → k ≤ l.length → run nstep .ns (l.take k) ≠ some .n) : nameEnd l = m := by
 rcases Nat.lt_trichotomy (nameEnd l) m with h | h | h
 · exact absurd h2 (nameEnd_last l m h h1)
 · exact h
 · exact absurd (nameEnd_is l (by omega)) (h3 _ h (nameEnd_le l))
def num (r : List Nat) : Nat := r.foldl (fun a d => 10 * a + (d - 48)) 0
structure MVar where
 name : List Nat
 max : Int
 star : Bool
def trip : List Nat → Bool
 | a :: b :: c :: _ => a == 37 && (isHex b && isHex c)
 | _ => false
def pieceN : List Nat → Nat
 | [] => 0
 | b :: r => if isLit b = true then 1 else if trip (b :: r) = true then 3 else ucsAt (b :: r)
def piecesN : Nat → List Nat → Nat
 | 0, _ => 0
 | d + 1, l => if pieceN l = 0 then 0 else pieceN l + piecesN d (l.drop (pieceN l))
theorem lit_kind {b : Nat} (h : isLit b = true) : b ≠ 37 ∧ b ≠ 123 ∧ b ≠ 44 + 81 ∧ b < 192 := by
 refine ⟨?_, ?_, ?_, ?_⟩
 · rintro rfl; revert h; decide
 · rintro rfl; revert h; decide
 · rintro rfl; revert h; decide
 · simp [isLit] at h
   omega
theorem step_lit {b : Nat} (h : isLit b = true) : step .top b = some .top := by simp only [step]; rw [if_pos h]
theorem step_pct : step .top 37 = some .p1 := by
 have : isLit 37 = false := by decide
 simp [step, this]
theorem step_u {b : Nat} (h : 192 ≤ b) : step .top b = if fits [b] = true then some (.u [b]) else none := by
 have h1 : ¬ isLit b = true := fun g => by have := lit_kind g; omega
 simp only [step]
 rw [if_neg h1, if_neg (by omega), if_neg (by omega)]
theorem step_u_next {l : List Nat} {b : Nat} (h : ucsAt (l ++ [b]) ≠ l.length + 1) (hf : fits (l ++ [b]) = true) : step (.u l) b = some (.u (l ++ [b])) := by simp only [step]; rw [if_neg h, if_pos hf]
theorem step_u_top {l : List Nat} {b : Nat} (h : ucsAt (l ++ [b]) = l.length + 1) : step (.u l) b = some .top := by simp only [step]; rw [if_pos h]
theorem piece_top {l : List Nat} (h : pieceN l ≠ 0) : pieceN l ≤ l.length ∧ run step .top (l.take (pieceN l)) = some .top ∧ l.head? ≠ some 123 := by
 match l, h with
 | [], h => exact absurd rfl h
 | b :: r, h =>
  by_cases h1 : isLit b = true
  · have e : pieceN (b :: r) = 1 := by simp only [pieceN]; rw [if_pos h1]
    rw [e]
    refine ⟨by simp, by rw [List.take_succ_cons, List.take_zero, run_some (step_lit h1), run_nil], ?_⟩
    intro g
    exact (lit_kind h1).2.1 (Option.some.inj g)
  by_cases h2 : trip (b :: r) = true
  · have e : pieceN (b :: r) = 3 := by simp only [pieceN]; rw [if_neg h1, if_pos h2]
    rw [e]
    match r, h2 with
    | [], h2 => cases h2
    | [_], h2 => cases h2
    | c :: d :: r, h2 =>
     simp only [trip, Bool.and_eq_true, beq_iff_eq] at h2
     obtain ⟨rfl, hc, hd⟩ := h2
     refine ⟨by simp, ?_, by simp⟩
     rw [List.take_succ_cons, List.take_succ_cons, List.take_succ_cons, List.take_zero, run_some step_pct, run_some (q' := .p2) (by simp only [step]; rw [if_pos hc]), run_some (q' := .top) (by simp only [step]; rw [if_pos hd]), run_nil]
  have e : pieceN (b :: r) = ucsAt (b :: r) := by simp only [pieceN]; rw [if_neg h1, if_neg h2]
  rw [e] at h ⊢
  rcases ucsAt_steps (b :: r) with g | ⟨g, b0, b1, r', he, hb, f1, u2⟩ | ⟨g, b0, b1, b2, r', he, hb, f1, u2, f2, u3⟩ | ⟨g, b0, b1, b2, b3, r', he, hb, f1, u2, f2, u3, f3, u4⟩
  · exact absurd g h
  · rw [g, he]
    have s1 : step .top b0 = some (.u [b0]) := by rw [step_u hb, if_pos f1]
    refine ⟨by simp, ?_, by simp; omega⟩
    rw [List.take_succ_cons, List.take_succ_cons, List.take_zero, run_some s1, run_some (step_u_top (l := [b0]) u2), run_nil]
  · rw [g, he]
    have s1 : step .top b0 = some (.u [b0]) := by rw [step_u hb, if_pos f1]
    have s2 : step (.u [b0]) b1 = some (.u [b0, b1]) := step_u_next (l := [b0]) (by simp [u2]) f2
    refine ⟨by simp, ?_, by simp; omega⟩
    rw [List.take_succ_cons, List.take_succ_cons, List.take_succ_cons, List.take_zero, run_some s1, run_some s2, run_some (step_u_top (l := [b0, b1]) u3), run_nil]
  · rw [g, he]
    have s1 : step .top b0 = some (.u [b0]) := by rw [step_u hb, if_pos f1]
    have s2 : step (.u [b0]) b1 = some (.u [b0, b1]) := step_u_next (l := [b0]) (by simp [u2]) f2
    have s3 : step (.u [b0, b1]) b2 = some (.u [b0, b1, b2]) := step_u_next (l := [b0, b1]) (by simp [u3]) f3
    refine ⟨by simp, ?_, by simp; omega⟩
    rw [List.take_succ_cons, List.take_succ_cons, List.take_succ_cons, List.take_succ_cons, List.take_zero, run_some s1, run_some s2, run_some s3, run_some (step_u_top (l := [b0, b1, b2]) u4), run_nil]
theorem pieces_zero (d : Nat) (l : List Nat) : piecesN (d + 1) l = 0 ↔ pieceN l = 0 := by
 simp only [piecesN]
 by_cases h : pieceN l = 0
 · rw [if_pos h]
   exact ⟨fun _ => h, fun _ => rfl⟩
 · rw [if_neg h]
   exact ⟨fun g => by omega, fun g => absurd g h⟩
structure MPart where
 lit : List Nat
 op : Int
 specs : List MVar
end Go.Proofs.YtkipkbggnfllkaaGreatDoor.P
end
section
namespace Go.Proofs.YtkipkbggnfllkaaGreatDoor.P
open Go.RowKit Go.Proofs.YtkipkbggnfllkaaGreatDoorW.PrintWords Go.Proofs.YtkipkbggnfllkaaGreatDoorW.PrintLast Go.Proofs.YtkipkbggnfllkaaGreatDoorW.PrintMore
set_option linter.unusedVariables false
set_option linter.unusedSimpArgs false
theorem w64 {n : Int} (h1 : -9223372036854775808 ≤ n) (h2 : n < 9223372036854775808) : wrap64 n = n := by unfold wrap64; omega
theorem Ev.pos {α : Type} {c : Prop} [Decidable c] {f g : Nat → Option α} {r : α} (h : c) (k : Ev f r) : Ev (fun n => if c then f n else g n) r := Ev.congr (fun n => if_pos h) k
theorem Ev.neg {α : Type} {c : Prop} [Decidable c] {f g : Nat → Option α} {r : α} (h : ¬ c) (k : Ev g r) : Ev (fun n => if c then f n else g n) r := Ev.congr (fun n => if_neg h) k
theorem trip_short {l : List Nat} (h : l.length < 3) : trip l = false := by
 match l, h with
 | [], _ => rfl
 | [_], _ => rfl
 | [_, _], _ => rfl
 | _ :: _ :: _ :: _, h =>
  simp only [List.length_cons] at h
  omega
def vM (x : S43) : MVar := ⟨bs x.f0, x.f1, x.f2⟩
def pM (x : S41) : MPart := ⟨bs x.f0, x.f1, x.f2.map vM⟩
theorem bs_one (b : Nat) (h : b < 256) : bs (strOfNums [(wrap64 (b : Int)) % 256]) = [b] := by
 have e : (wrap64 (b : Int)) % 256 = (b : Int) := by unfold wrap64; omega
 rw [e, bs_strOfNums]
 · simp
 · intro x hx
   simp at hx
   omega
end Go.Proofs.YtkipkbggnfllkaaGreatDoor.P
end
section
namespace Go.Proofs.YtkipkbggnfllkaaGreatDoor.P
set_option linter.unusedVariables false
set_option linter.unusedSimpArgs false
def MayR (c : Nat) : Prop := c ≤ 1114111 ∧ (c < 55296 ∨ 57343 < c)
instance (c : Nat) : Decidable (MayR c) := by unfold MayR; exact inferInstance
theorem mayC_mayR {c : Nat} (h : MayC c) : MayR c := by
 unfold MayC at h
 unfold MayR
 omega
def uAt : List Nat → Nat × Nat
 | [] => (0, 0)
 | b0 :: r =>
  if b0 < 128 then (b0, 1) else match r with
  | [] => (0, 0)
  | b1 :: r =>
   if b0 / 32 = 6 then (if b1 / 64 = 2 ∧ 128 ≤ b0 % 32 * 64 + b1 % 64 then (b0 % 32 * 64 + b1 % 64, 2) else (0, 0))
   else match r with
   | [] => (0, 0)
   | b2 :: r =>
    if b0 / 16 = 14 then (if b1 / 64 = 2 ∧ b2 / 64 = 2 ∧ 2048 ≤ b0 % 16 * 4096 + b1 % 64 * 64 + b2 % 64 ∧ MayR (b0 % 16 * 4096 + b1 % 64 * 64 + b2 % 64) then (b0 % 16 * 4096 + b1 % 64 * 64 + b2 % 64, 3) else (0, 0))
    else match r with
    | [] => (0, 0)
    | b3 :: _ =>
     if b0 / 8 = 30 then (if b1 / 64 = 2 ∧ b2 / 64 = 2 ∧ b3 / 64 = 2 ∧ 65536 ≤ b0 % 8 * 262144 + b1 % 64 * 4096 + b2 % 64 * 64 + b3 % 64 ∧ MayR (b0 % 8 * 262144 + b1 % 64 * 4096 + b2 % 64 * 64 + b3 % 64) then (b0 % 8 * 262144 + b1 % 64 * 4096 + b2 % 64 * 64 + b3 % 64, 4) else (0, 0))
     else (0, 0)
theorem uo {c n : Nat} (hn : n ≠ 0) : (if ((c, n) : Nat × Nat).2 = 0 then 0 else if MayC ((c, n) : Nat × Nat).1 then ((c, n) : Nat × Nat).2 else 0) = if MayC c then n else 0 := if_neg hn
theorem uo0 : (if ((0, 0) : Nat × Nat).2 = 0 then 0 else if MayC ((0, 0) : Nat × Nat).1 then ((0, 0) : Nat × Nat).2 else 0) = 0 := rfl
theorem ucs_uAt (l : List Nat) (hl : ∀ b ∈ l, b < 256) : ucsAt l = if (uAt l).2 = 0 then 0 else if MayC (uAt l).1 then (uAt l).2 else 0 := by
 match l, hl with
 | [], _ => rfl
 | [b0], _ =>
  simp only [uAt, ucsAt]
  by_cases h : b0 < 128
  · rw [if_pos h, uo (by decide), if_neg]
    unfold MayC
    omega
  · rw [if_neg h, uo0]
 | b0 :: b1 :: r, _ =>
  by_cases h : b0 < 128
  · rw [ucsAt_low _ _ (by omega)]
    simp only [uAt]
    rw [if_pos h, uo (by decide), if_neg]
    unfold MayC
    omega
  by_cases h2 : b0 / 32 = 6
  · simp only [uAt, ucsAt]
    rw [if_neg h, if_pos h2, if_pos h2]
    by_cases hg : b1 / 64 = 2 ∧ 128 ≤ b0 % 32 * 64 + b1 % 64
    · rw [if_pos hg, uo (by decide)]
      by_cases hm : MayC (b0 % 32 * 64 + b1 % 64)
      · rw [if_pos hm, if_pos ⟨hg.1, hg.2, hm⟩]
      · rw [if_neg hm, if_neg fun g => hm g.2.2]
    · rw [if_neg hg, uo0, if_neg fun g => hg ⟨g.1, g.2.1⟩]
  match r with
  | [] =>
   simp only [uAt, ucsAt]
   rw [if_neg h, if_neg h2, if_neg h2, uo0]
  | b2 :: r =>
   by_cases h3 : b0 / 16 = 14
   · simp only [uAt, ucsAt]
     rw [if_neg h, if_neg h2, if_neg h2, if_pos h3, if_pos h3]
     by_cases hg : b1 / 64 = 2 ∧ b2 / 64 = 2 ∧ 2048 ≤ b0 % 16 * 4096 + b1 % 64 * 64 + b2 % 64 ∧ MayR (b0 % 16 * 4096 + b1 % 64 * 64 + b2 % 64)
     · rw [if_pos hg, uo (by decide)]
       by_cases hm : MayC (b0 % 16 * 4096 + b1 % 64 * 64 + b2 % 64)
       · rw [if_pos hm, if_pos ⟨hg.1, hg.2.1, hg.2.2.1, hm⟩]
       · rw [if_neg hm, if_neg fun g => hm g.2.2.2]
     · rw [if_neg hg, uo0, if_neg fun g => hg ⟨g.1, g.2.1, g.2.2.1, mayC_mayR g.2.2.2⟩]
   match r with
   | [] =>
    simp only [uAt, ucsAt]
    rw [if_neg h, if_neg h2, if_neg h2, if_neg h3, if_neg h3, uo0]
   | b3 :: r =>
    by_cases h4 : b0 / 8 = 30
    · simp only [uAt, ucsAt]
      rw [if_neg h, if_neg h2, if_neg h2, if_neg h3, if_neg h3, if_pos h4, if_pos h4]
      by_cases hg : b1 / 64 = 2 ∧ b2 / 64 = 2 ∧ b3 / 64 = 2 ∧ 65536 ≤ b0 % 8 * 262144 + b1 % 64 * 4096 + b2 % 64 * 64 + b3 % 64 ∧ MayR (b0 % 8 * 262144 + b1 % 64 * 4096 + b2 % 64 * 64 + b3 % 64)
      · rw [if_pos hg, uo (by decide)]
        by_cases hm : MayC (b0 % 8 * 262144 + b1 % 64 * 4096 + b2 % 64 * 64 + b3 % 64)
        · rw [if_pos hm, if_pos ⟨hg.1, hg.2.1, hg.2.2.1, hg.2.2.2.1, hm⟩]
        · rw [if_neg hm, if_neg fun g => hm g.2.2.2.2]
      · rw [if_neg hg, uo0, if_neg fun g => hg ⟨g.1, g.2.1, g.2.2.1, g.2.2.2.1, mayC_mayR g.2.2.2.2⟩]
    · simp only [uAt, ucsAt]
      rw [if_neg h, if_neg h2, if_neg h2, if_neg h3, if_neg h3, if_neg h4, if_neg h4, uo0]
def width (b0 : Nat) : Nat := if b0 < 128 then 1 else if b0 / 32 = 6 then 2 else if b0 / 16 = 14 then 3 else if b0 / 8 = 30 then 4 else 5
theorem uAt_width (b0 : Nat) (r : List Nat) : (uAt (b0 :: r)).2 = 0 ∨ ((uAt (b0 :: r)).2 = width b0 ∧ width b0 ≤ r.length + 1 ∧ width b0 ≤ 4 ∧ ∀ m, width b0 ≤ m → uAt ((b0 :: r).take m) = uAt (b0 :: r)) := by
 by_cases h : b0 < 128
 · have e : width b0 = 1 := by unfold width; rw [if_pos h]
   refine .inr ⟨?_, by omega, by omega, fun m hm => ?_⟩
   · simp only [uAt]
     rw [if_pos h, e]
   · obtain ⟨m, rfl⟩ : ∃ k, m = k + 1 := ⟨m - 1, by omega⟩
     rw [List.take_succ_cons]
     simp only [uAt]
     rw [if_pos h, if_pos h]
 match r with
 | [] =>
  left
  simp only [uAt]
  rw [if_neg h]
 | b1 :: r =>
  by_cases h2 : b0 / 32 = 6
  · have e : width b0 = 2 := by unfold width; rw [if_neg h, if_pos h2]
    by_cases hg : b1 / 64 = 2 ∧ 128 ≤ b0 % 32 * 64 + b1 % 64
    · refine .inr ⟨?_, by rw [e]; simp, by omega, fun m hm => ?_⟩
      · simp only [uAt]
        rw [if_neg h, if_pos h2, if_pos hg, e]
      · obtain ⟨m, rfl⟩ : ∃ k, m = k + 2 := ⟨m - 2, by omega⟩
        rw [List.take_succ_cons, List.take_succ_cons]
        simp only [uAt]
        rw [if_neg h, if_pos h2, if_neg h, if_pos h2]
    · left
      simp only [uAt]
      rw [if_neg h, if_pos h2, if_neg hg]
  match r with
  | [] =>
   left
   simp only [uAt]
   rw [if_neg h, if_neg h2]
  | b2 :: r =>
   by_cases h3 : b0 / 16 = 14
   · have e : width b0 = 3 := by unfold width; rw [if_neg h, if_neg h2, if_pos h3]
     by_cases hg : b1 / 64 = 2 ∧ b2 / 64 = 2 ∧ 2048 ≤ b0 % 16 * 4096 + b1 % 64 * 64 + b2 % 64 ∧ MayR (b0 % 16 * 4096 + b1 % 64 * 64 + b2 % 64)
     · refine .inr ⟨?_, by rw [e]; simp, by omega, fun m hm => ?_⟩
       · simp only [uAt]
         rw [if_neg h, if_neg h2, if_pos h3, if_pos hg, e]
       · obtain ⟨m, rfl⟩ : ∃ k, m = k + 3 := ⟨m - 3, by omega⟩
         rw [List.take_succ_cons, List.take_succ_cons, List.take_succ_cons]
         simp only [uAt]
         rw [if_neg h, if_neg h2, if_pos h3, if_neg h, if_neg h2, if_pos h3]
     · left
       simp only [uAt]
       rw [if_neg h, if_neg h2, if_pos h3, if_neg hg]
   match r with
   | [] =>
    left
    simp only [uAt]
    rw [if_neg h, if_neg h2, if_neg h3]
   | b3 :: r =>
    by_cases h4 : b0 / 8 = 30
    · have e : width b0 = 4 := by unfold width; rw [if_neg h, if_neg h2, if_neg h3, if_pos h4]
      by_cases hg : b1 / 64 = 2 ∧ b2 / 64 = 2 ∧ b3 / 64 = 2 ∧ 65536 ≤ b0 % 8 * 262144 + b1 % 64 * 4096 + b2 % 64 * 64 + b3 % 64 ∧ MayR (b0 % 8 * 262144 + b1 % 64 * 4096 + b2 % 64 * 64 + b3 % 64)
      · refine .inr ⟨?_, by rw [e]; simp, by omega, fun m hm => ?_⟩
        · simp only [uAt]
          rw [if_neg h, if_neg h2, if_neg h3, if_pos h4, if_pos hg, e]
        · obtain ⟨m, rfl⟩ : ∃ k, m = k + 4 := ⟨m - 4, by omega⟩
          rw [List.take_succ_cons, List.take_succ_cons, List.take_succ_cons, List.take_succ_cons]
          simp only [uAt]
      · left
        simp only [uAt]
        rw [if_neg h, if_neg h2, if_neg h3, if_pos h4, if_neg hg]
    · left
      simp only [uAt]
      rw [if_neg h, if_neg h2, if_neg h3, if_neg h4]
theorem mt_le {lo hi : Nat} (h : lo ≤ hi) : meetsFrom lo hi 19 0 = mt lo hi := by
 unfold mt
 rw [decide_eq_true h, Bool.true_and]
def u2 (b0 b1 : Nat) : Nat := b0 % 32 * 64 + b1 % 64
def u3 (b0 b1 b2 : Nat) : Nat := b0 % 16 * 4096 + b1 % 64 * 64 + b2 % 64
def u4 (b0 b1 b2 b3 : Nat) : Nat := b0 % 8 * 262144 + b1 % 64 * 4096 + b2 % 64 * 64 + b3 % 64
theorem width2 {b0 : Nat} (h : b0 / 32 = 6) : width b0 = 2 := by unfold width; rw [if_neg (by omega), if_pos h]
theorem width3 {b0 : Nat} (h : b0 / 16 = 14) : width b0 = 3 := by unfold width; rw [if_neg (by omega), if_neg (by omega), if_pos h]
theorem width4 {b0 : Nat} (h : b0 / 8 = 30) : width b0 = 4 := by unfold width; rw [if_neg (by omega), if_neg (by omega), if_neg (by omega), if_pos h]
theorem uAt2 {b0 : Nat} (h : b0 / 32 = 6) (b1 : Nat) (r : List Nat) : uAt (b0 :: b1 :: r) = if b1 / 64 = 2 ∧ 128 ≤ u2 b0 b1 then (u2 b0 b1, 2) else (0, 0) := by
 simp only [uAt]
 rw [if_neg (by omega), if_pos h]
 rfl
theorem uAt3 {b0 : Nat} (h : b0 / 16 = 14) (b1 b2 : Nat) (r : List Nat) : uAt (b0 :: b1 :: b2 :: r) = if b1 / 64 = 2 ∧ b2 / 64 = 2 ∧ 2048 ≤ u3 b0 b1 b2 ∧ MayR (u3 b0 b1 b2) then (u3 b0 b1 b2, 3) else (0, 0) := by
 simp only [uAt]
 rw [if_neg (by omega), if_neg (by omega), if_pos h]
 rfl
theorem uAt4 {b0 : Nat} (h : b0 / 8 = 30) (b1 b2 b3 : Nat) (r : List Nat) : uAt (b0 :: b1 :: b2 :: b3 :: r) = if b1 / 64 = 2 ∧ b2 / 64 = 2 ∧ b3 / 64 = 2 ∧ 65536 ≤ u4 b0 b1 b2 b3 ∧ MayR (u4 b0 b1 b2 b3) then (u4 b0 b1 b2 b3, 4) else (0, 0) := by
 simp only [uAt]
 rw [if_neg (by omega), if_neg (by omega), if_neg (by omega), if_pos h]
 rfl
end Go.Proofs.YtkipkbggnfllkaaGreatDoor.P
end
section
namespace Go.Proofs.YtkipkbggnfllkaaGreatDoor.P
open Go.RowKit Go.Proofs.YtkipkbggnfllkaaGreatDoorW.PrintWords Go.Proofs.YtkipkbggnfllkaaGreatDoorW.PrintLast Go.Proofs.YtkipkbggnfllkaaGreatDoorW.PrintMore
def figsFrom (s : ByteArray) : Nat → Int → Int
 | 0, n => n
 | d + 1, n => if isDigit (bt s n).toNat = true ∧ ¬ (n = 0 ∧ bt s n = 48) then figsFrom s d (n + 1) else n
theorem figsFrom_le (s : ByteArray) (d : Nat) (n : Int) : n ≤ figsFrom s d n ∧ figsFrom s d n ≤ n + d := by
 induction d generalizing n with
 | zero => exact ⟨Int.le_refl _, by simp [figsFrom]⟩
 | succ d ih =>
  rw [figsFrom]
  split
  · have := ih (n + 1)
    omega
  · omega
def spec_figures.f (s : ByteArray) : Option Int := if s.size ≤ 1099511627776 then some (figsFrom s (min s.size 4) 0) else none
structure Set1 (w wr : World) (f : Nat → Bool) (g : Nat) : Prop where
 s : Four wr g (wd f)
 b : Below w.heap.size w wr
theorem Set1.step {w wr w1 : World} {f : Nat → Bool} {g : Nat} (H : Set1 w wr f g) (hb : Below wr.heap.size wr w1) : Set1 w w1 f g :=
 ⟨H.s.kept (hb.block _ H.s.lt), below_then H.b H.b.size hb⟩
set_option maxRecDepth 100000 in
set_option maxHeartbeats 800000 in
theorem spec_figures.calls (s : ByteArray) (r : Int) (w : World) (h : spec_figures.f s = some r) :
 Calls Tryz.prog 109 #[.string s] w fun e w' => e = .returned (.int .i64 r) ∧ Below w.heap.size w w' := by
 unfold spec_figures.f at h
 split at h
 · rename_i hs
   injection h with h
   have HR := Lib.hid h
   clear h
   go_enter Tryz.func109, Tryz.ntmps109
   go_wp2_with fail
   refine (chars_Digit.calls _ _ rfl).mono ?_
   rintro e w1 ⟨rfl, hb⟩
   have HB := Lib.hid hb
   clear hb
   unfold setV
   go_wp2
   all_goals
    go_loopw [5, 11] (fun _ a wr => ∃ (d : Nat) (n : Int), a = .int .i64 n ∧ 0 ≤ n ∧ (d : Int) + n = min s.size 4 ∧ Hid (figsFrom s d n = r) ∧ Hid (Set1 w wr isDigit w1.heap.size)) (fun _ a _ => 4 - (intOf a).toNat)
    case atStart =>
     exact ⟨min s.size 4, 0, rfl, by omega, by omega, HR, Lib.hid ⟨Four.newP w1 isDigit _, HB.out.alloc HB.out.size _⟩⟩
    case round =>
     obtain ⟨d, n, rfl, hn0, hk, HE, HS⟩ := hrel
     cases d with
     | zero =>
      have hE := HE.out
      rw [figsFrom] at hE
      have HE1 := Lib.hid hE
      clear hE HE
      go_wp2
      go_ret
      refine ⟨?_, HS.out.b⟩
      show Ending.returned (.int .i64 _) = _
      rw [← HE1.out]
      congr 2
      omega
     | succ d =>
      have hE := HE.out
      rw [figsFrom] at hE
      have hnlt : n < s.size := by omega
      have hnt : n.toNat < s.size := by omega
      have hix := bt_at s n
      have hcr := bt_range s n
      obtain ⟨c, hc⟩ : ∃ c, c = bt s n := ⟨_, rfl⟩
      rw [← hc] at hE hcr hix
      obtain ⟨hc0, hc1⟩ := hcr
      have c0 := HS.out.s.cell 0 (by omega)
      have c1 := HS.out.s.cell 1 (by omega)
      have c2 := HS.out.s.cell 2 (by omega)
      have c3 := HS.out.s.cell 3 (by omega)
      have HE0 := Lib.hid hE
      clear hc hE HE
      cases hb : isDigit c.toNat with
      | false =>
       have HDB := Lib.hid hb
       have hE := HE0.out
       rw [if_neg (fun h => by rw [hb] at h; exact absurd h.1 (by simp))] at hE
       have HE1 := Lib.hid hE
       clear hE hb HE0
       go_wp2_with fail
       have k0 := cell_regrown c0
       have k1 := cell_regrown c1
       have k2 := cell_regrown c2
       have k3 := cell_regrown c3
       refine wp_region_quiet_below (by kernel_rfl) (by kernel_rfl) ?_
       repeat (go_big_quiet_step (exact Calls.regrown_of (chars_Set_Has.calls isDigit c false _ (by rw [chars_Set_Has.f, if_pos ⟨hc0, hc1⟩, HDB.out]))))
       refine wpQuiet_nil ?_
       rintro _ ⟨⟨dq, osq⟩, rfl⟩
       have HX5 := Lib.hid (HS.out.step (below_regrown wr dq osq))
       go_wp2
       go_ret
       exact ⟨by show Ending.returned (.int .i64 n) = _; rw [HE1.out], HX5.out.b⟩
      | true =>
       have HDB := Lib.hid hb
       have hq : ((n == 0) = true ∧ (c == 48) = true ∧ Hid (n = r)) ∨ ((n == 0) = true ∧ (c == 48) = false ∧ Hid (figsFrom s d (n + 1) = r)) ∨ ((n == 0) = false ∧ Hid (figsFrom s d (n + 1) = r)) := by
        have hE := HE0.out
        by_cases h1 : n = 0
        · by_cases h2 : c = 48
          · rw [if_neg (fun h => h.2 ⟨h1, h2⟩)] at hE
            exact .inl ⟨beq_iff_eq.2 (by omega), beq_iff_eq.2 h2, Lib.hid hE⟩
          · rw [if_pos ⟨hb, fun h => h2 h.2⟩] at hE
            exact .inr (.inl ⟨beq_iff_eq.2 (by omega), beq_eq_false_iff_ne.2 h2, Lib.hid hE⟩)
        · rw [if_pos ⟨hb, fun h => h1 h.1⟩] at hE
          exact .inr (.inr ⟨beq_eq_false_iff_ne.2 (by omega), Lib.hid hE⟩)
       clear hb HE0
       rcases hq with ⟨q1, q2, HE1⟩ | ⟨q1, q2, HE1⟩ | ⟨q1, HE1⟩
       · go_wp2_with fail
         have k0 := cell_regrown c0
         have k1 := cell_regrown c1
         have k2 := cell_regrown c2
         have k3 := cell_regrown c3
         refine wp_region_quiet_below (by kernel_rfl) (by kernel_rfl) ?_
         repeat (go_big_quiet_step (exact Calls.regrown_of (chars_Set_Has.calls isDigit c true _ (by rw [chars_Set_Has.f, if_pos ⟨hc0, hc1⟩, HDB.out]))))
         refine wpQuiet_nil ?_
         rintro _ ⟨⟨dq, osq⟩, rfl⟩
         have HX5 := Lib.hid (HS.out.step (below_regrown wr dq osq))
         go_wp2
         go_ret
         exact ⟨by show Ending.returned (.int .i64 n) = _; rw [HE1.out], HX5.out.b⟩
       all_goals
        go_wp2_with fail
        have k0 := cell_regrown c0
        have k1 := cell_regrown c1
        have k2 := cell_regrown c2
        have k3 := cell_regrown c3
        refine wp_region_quiet_below (by kernel_rfl) (by kernel_rfl) ?_
        repeat (go_big_quiet_step (exact Calls.regrown_of (chars_Set_Has.calls isDigit c true _ (by rw [chars_Set_Has.f, if_pos ⟨hc0, hc1⟩, HDB.out]))))
        refine wpQuiet_nil ?_
        rintro _ ⟨⟨dq, osq⟩, rfl⟩
        have HX5 := Lib.hid (HS.out.step (below_regrown wr dq osq))
        go_wp2
        go_roundw
        case rel => exact ⟨d, n + 1, by go_num, by omega, by omega, HE1, HX5⟩
        case measure => simp [intOf]; omega
 · cases h
end Go.Proofs.YtkipkbggnfllkaaGreatDoor.P
end
section
namespace Go.Proofs.YtkipkbggnfllkaaGreatDoor.P
open Go.RowKit Go.Proofs.YtkipkbggnfllkaaGreatDoorW.PrintWords Go.Proofs.YtkipkbggnfllkaaGreatDoorW.PrintLast Go.Proofs.YtkipkbggnfllkaaGreatDoorW.PrintMore
attribute [local go_sem] max2_int min2_int max_two min_two max_three min_three max_four min_four
set_option linter.unusedVariables false
set_option linter.unusedSimpArgs false
def vname_Bad.f (a0 : ByteArray) : Option (Int) := (vname_ends.f a0).bind fun bt387 => (some bt387.1)
set_option maxHeartbeats 8000000 in
set_option maxRecDepth 100000 in
theorem vname_Bad.calls (a0 : ByteArray) (r : Int) (w : World) (h : vname_Bad.f a0 = some r) :
 Calls Tryz.prog 90 #[.string a0] w fun e w' => e = .returned (.int .i64 r) ∧ Below w.heap.size w w' := by
 have HB := Aside0.mk (Below.refl w.heap.size w)
 have H : ((vname_ends.f a0).bind fun bt387 => (some bt387.1)) = some r := h
 clear h
 replace H := Option.bind_eq_some_iff.mp H
 obtain ⟨⟨t387, t388⟩, A20, H⟩ := H
 replace H : (some t387) = some r := H
 have A2 := Aside0.mk A20
 clear A20
 obtain rfl := Option.some.inj H
 go_enter Tryz.func90, Tryz.ntmps90
 go_wp2_with (first | ((with_reducible refine gate_callee (f := 103) rfl ?_); refine goesL_ (some 7) rfl rfl Tryz.func103 (by kernel_rfl) rfl #[.string a0] rfl (by (try simp only [List.map_toArray, List.map_cons, List.map_nil]); first | done | rfl | (simp only [List.length_drop, List.length_take]; rfl)) ?_; (with_reducible refine (vname_ends.calls a0 t387 t388 _ A2.out).mono ?_); rintro e w3 ⟨rfl, hb⟩; refine ⟨_, rfl, ?_⟩; have n0_ := Aside0.mk (below_step (by repeat (first | (with_reducible first | exact HB.out | apply below_alloc | apply pw_below_drewN | apply below_drew1) | exact HB.out)) hb); clear HB; have HB := n0_; clear n0_; (try clear hb); (try clear hb2); (try clear hk); (try clear hi)))
 go_ret
 exact ⟨by first | rfl | (simp [errW_none, errW_some] <;> rfl) | (simp [*, errW_none, errW_some] <;> rfl), by repeat (first | (with_reducible first | exact HB.out | apply below_alloc | apply pw_below_drewN | apply below_drew1) | exact HB.out)⟩
end Go.Proofs.YtkipkbggnfllkaaGreatDoor.P
end
section
namespace Go.Proofs.YtkipkbggnfllkaaGreatDoor.P
open Go.RowKit Go.Proofs.YtkipkbggnfllkaaGreatDoorW.PrintWords Go.Proofs.YtkipkbggnfllkaaGreatDoorW.PrintLast Go.Proofs.YtkipkbggnfllkaaGreatDoorW.PrintMore
theorem enters_fn {P : Program} {f : FuncId} {fn : Func} {c : Code} (hf : P.funcs[f]? = some fn) (hname : (fn.name == "runtime.NumGoroutine") = false) (hb : fn.body = some c) :
 ∀ (args : Array Value) (w : World), (callFunc f args).run P w = .ok (.enter f args) w := by
 intro args w
 have h1 : fn.name ≠ "runtime.NumGoroutine" := by simpa using hname
 simp [callFunc, hf, h1, hb, mark]
def badAt (s : ByteArray) (p : Nat) : Bool :=
 (Utf8.decode s p).1 == 65533 && (decide (s.size - p < 3) || (s.extract p (p + 3)).toList != (Utf8.encode 65533).toList)
def charsFrom (s : ByteArray) : Nat → Nat → List Int × Nat
 | 0, p => ([], p)
 | k + 1, p => if p < s.size ∧ badAt s p = false then (((Utf8.decode s p).1 : Int) :: (charsFrom s k (p + (Utf8.decode s p).2)).1, (charsFrom s k (p + (Utf8.decode s p).2)).2) else ([], p)
theorem decode_pos (s : ByteArray) (p : Nat) (h : p < s.size) : 1 ≤ (Utf8.decode s p).2 := by
 by_cases ha : (s[p]'h).toNat < 128
 · rw [decode_ascii s p h ha]
   exact Nat.le_refl _
 · exact (decode_high s p h (by omega)).2
theorem decode_fits (s : ByteArray) (p : Nat) (h : p < s.size) : p + (Utf8.decode s p).2 ≤ s.size := by
 unfold Utf8.decode
 repeat' (first | split | dsimp only [] at *)
 all_goals (try simp only [Bool.and_eq_true, decide_eq_true_eq] at *)
 all_goals omega
theorem charsFrom_step {s : ByteArray} {k p : Nat} (h : p < s.size) (hb : badAt s p = false) : charsFrom s (k + 1) p = (((Utf8.decode s p).1 : Int) :: (charsFrom s k (p + (Utf8.decode s p).2)).1, (charsFrom s k (p + (Utf8.decode s p).2)).2) := by
 rw [charsFrom, if_pos ⟨h, hb⟩]
theorem charsFrom_stop {s : ByteArray} {k p : Nat} (h : ¬ (p < s.size ∧ badAt s p = false)) : charsFrom s k p = ([], p) := by
 cases k with
 | zero => rfl
 | succ k => rw [charsFrom, if_neg h]
theorem badAt_eq (s : ByteArray) (p : Nat) (c : Int) (hc : c = ((Utf8.decode s p).1 : Int)) :
 badAt s p = (c == 65533 && (decide (s.size - p < 3) || (s.extract p (p + 3)).toList != (Utf8.encode c).toList)) := by
 unfold badAt
 by_cases h : c = 65533
 · have h1 : (Utf8.decode s p).1 = 65533 := by omega
   rw [h1, h]; simp
 · have h1 : ¬ (Utf8.decode s p).1 = 65533 := by omega
   rw [show ((Utf8.decode s p).1 == 65533) = false from beq_eq_false_iff_ne.2 h1, show (c == 65533) = false from beq_eq_false_iff_ne.2 h]; rfl
theorem utf_round {w w1 : World} {I : List Int → World → Prop} {s : ByteArray} {k p n : Nat} {c : Int} {l : List Int} (hn : n = (Utf8.decode s p).2) (hc : c = ((Utf8.decode s p).1 : Int)) (hlt : p < s.size) (hb : badAt s p = false)
 (HC : charsFrom s s.size 0 = (l ++ (charsFrom s k p).1, (charsFrom s k p).2)) (hk : s.size ≤ p + k) (hp : p + n ≤ s.size) (hlen : l.length ≤ p)
 (HK : Hid (w1.heap[w.heap.size]? = some (.stringIter s (p + n)))) (HI : Hid (I (l ++ [c]) w1)) :
 ∃ (k p : Nat) (l : List Int), Hid (w1.heap[w.heap.size]? = some (.stringIter s p)) ∧ Hid (charsFrom s s.size 0 = (l ++ (charsFrom s k p).1, (charsFrom s k p).2)) ∧ s.size ≤ p + k ∧ p ≤ s.size ∧ l.length ≤ p ∧ Hid (I l w1) := by
 cases k with
 | zero => omega
 | succ k =>
  have h1 := decode_pos s p hlt
  refine ⟨k, p + n, l ++ [c], HK, Lib.hid ?_, by omega, hp, by simp; omega, HI⟩
  rw [HC, charsFrom_step hlt hb, hn, hc]
  simp
theorem utf_measure {w wr w1 : World} {s : ByteArray} {p n : Nat} (h : wr.heap[w.heap.size]? = some (.stringIter s p)) (h1 : w1.heap[w.heap.size]? = some (.stringIter s (p + n))) (hlt : p < s.size) (hn : 1 ≤ n) :
 s.size - w1.iterPos w.heap.size < s.size - wr.iterPos w.heap.size := by
 simp only [World.iterPos, h, h1]
 omega
set_option maxRecDepth 100000 in
set_option maxHeartbeats 800000 in
theorem utf_each (G : Nat) (cap : Array Value) (hcf : ∀ (args : Array Value) (W : World), (callFunc G args).run Tryz.prog W = .ok (.enter G args) W) (s : ByteArray) (hs : s.size ≤ 9223372036854775807) (I : List Int → World → Prop) (w : World) (h0 : I [] (w.iter s 0))
 (hI : ∀ l W p q, W.heap[w.heap.size]? = some (.stringIter s q) → I l W → I l (W.iterAt w.heap.size s p))
 (hstep : ∀ l (c : Int) W, 0 ≤ c → c ≤ 2147483647 → l.length < s.size → I l W → Calls Tryz.prog G (#[.int .i64 c] ++ cap) W fun e W' => e = .returned (.tuple #[]) ∧ I (l ++ [c]) W' ∧ (∀ p, W.heap[w.heap.size]? = some (.stringIter s p) → W'.heap[w.heap.size]? = some (.stringIter s p))) :
 Calls Tryz.prog 112 #[.string s, .func (.func G) #[] cap] w fun e w' => e = .returned (.int .i64 (charsFrom s s.size 0).2) ∧ I (charsFrom s s.size 0).1 w' := by
 have H0 := Lib.hid h0
 have HI := Lib.hid hI
 have HS := Lib.hid hstep
 clear h0 hI hstep
 go_enter Tryz.func112, Tryz.ntmps112
 go_wp2
 go_loopw [5, 6] (fun _ _ wr => ∃ (k p : Nat) (l : List Int), Hid (wr.heap[w.heap.size]? = some (.stringIter s p)) ∧ Hid (charsFrom s s.size 0 = (l ++ (charsFrom s k p).1, (charsFrom s k p).2)) ∧ s.size ≤ p + k ∧ p ≤ s.size ∧ l.length ≤ p ∧ Hid (I l wr)) (fun _ _ wr => s.size - wr.iterPos w.heap.size)
 case atStart =>
  exact ⟨s.size, 0, [], Lib.hid (World.iter_heap w s 0), Lib.hid (by simp), by omega, by omega, by simp, H0⟩
 case round =>
  obtain ⟨k, p, l, HK, HC, hk, hp, hlen, HIl⟩ := hrel
  by_cases hlt : p < s.size
  · have hnx : ∀ ty, (Instr.next (.pointer (some ⟨w.heap.size, 0, none⟩)) true ty).run Tryz.prog wr = _ := fun ty => Lib.run_next_any_at wr w.heap.size s p ty HK.out hlt
    obtain ⟨c, hc⟩ : ∃ c : Int, c = ((Utf8.decode s p).1 : Int) := ⟨_, rfl⟩
    obtain ⟨n, hn⟩ : ∃ n, n = (Utf8.decode s p).2 := ⟨_, rfl⟩
    rw [← hc, ← hn] at hnx
    have hc0 : 0 ≤ c := by rw [hc]; exact Int.natCast_nonneg _
    have hc1 : c ≤ 2147483647 := by have := decode_le s p; rw [hc]; omega
    have hn1 : 1 ≤ n := by rw [hn]; exact decode_pos s p hlt
    have hnle : p + n ≤ s.size := by rw [hn]; exact decode_fits s p hlt
    have HCc := Lib.hid hc
    have HN := Lib.hid hn
    clear hc hn
    by_cases hc : c = 65533
    · have hcb : (c == 65533) = true := beq_iff_eq.2 hc
      have HCN := Lib.hid hc
      clear hc
      by_cases h3 : s.size - p < 3
      · have h3b : decide ((s.size : Int) - (p : Int) < 3) = true := decide_eq_true (by omega)
        have HBad : Hid (badAt s p = true) := Lib.hid (by rw [badAt_eq s p c HCc.out]; simp [HCN.out, h3])
        have HI1 := Lib.hid (HI.out l wr (p + n) p HK.out HIl.out)
        go_wp2
        go_ret
        rw [HC.out, charsFrom_stop (fun h => by rw [HBad.out] at h; exact absurd h.2 (by simp))]
        exact ⟨rfl, by simpa using HI1.out⟩
      · have h3b : decide ((s.size : Int) - (p : Int) < 3) = false := decide_eq_false (by omega)
        have h3n : decide (s.size - p < 3) = false := decide_eq_false h3
        have hsl : ∀ W, (Instr.slice 9 (.string s) (some (.int .i64 (p : Int))) (some (.int .i64 ((p : Int) + 3))) none).run Tryz.prog W = .ok (.string (s.extract p (p + 3))) W := fun W => by
         rw [run_slice_string (P := Tryz.prog) W 9 s .i64 .i64 (p : Int) ((p : Int) + 3) Tryz.underlying9 (by omega) (by omega) (by omega)]
         rw [Int.toNat_natCast, show ((p : Int) + 3).toNat = p + 3 by omega]
        by_cases h4 : (s.extract p (p + 3)).toList = (Utf8.encode c).toList
        · have h4b : ((s.extract p (p + 3)).toList == (Utf8.encode c).toList) = true := by simp [h4]
          clear h4
          have HBad : Hid (badAt s p = false) := Lib.hid (by rw [badAt_eq s p c HCc.out]; simp only [bne, h4b, h3n]; simp)
          go_wp2_with fail
          refine (HS.out l c (wr.iterAt w.heap.size s (p + n)) hc0 hc1 (by omega) (HI.out l wr (p + n) p HK.out HIl.out)).mono ?_
          rintro e w1 ⟨rfl, hi1, hi2⟩
          have HI1 := Lib.hid hi1
          have HK1 := Lib.hid (hi2 _ (Lib.iterAt_heap wr w.heap.size s p (p + n) HK.out))
          clear hi1 hi2
          go_wp2
          go_roundw
          case rel => exact utf_round HN.out HCc.out hlt HBad.out HC.out hk hnle hlen HK1 HI1
          case measure => exact utf_measure HK.out HK1.out hlt hn1
        · have h4b : ((s.extract p (p + 3)).toList == (Utf8.encode c).toList) = false := by simp [h4]
          clear h4
          have HBad : Hid (badAt s p = true) := Lib.hid (by rw [badAt_eq s p c HCc.out]; simp only [bne, h4b, hcb]; simp)
          have HI1 := Lib.hid (HI.out l wr (p + n) p HK.out HIl.out)
          go_wp2
          go_ret
          rw [HC.out, charsFrom_stop (fun h => by rw [HBad.out] at h; exact absurd h.2 (by simp))]
          exact ⟨rfl, by simpa using HI1.out⟩
    · have hcb : (c == 65533) = false := beq_eq_false_iff_ne.2 hc
      have HCN := Lib.hid hc
      clear hc
      have HBad : Hid (badAt s p = false) := Lib.hid (by rw [badAt_eq s p c HCc.out]; simp [HCN.out])
      go_wp2_with fail
      refine (HS.out l c (wr.iterAt w.heap.size s (p + n)) hc0 hc1 (by omega) (HI.out l wr (p + n) p HK.out HIl.out)).mono ?_
      rintro e w1 ⟨rfl, hi1, hi2⟩
      have HI1 := Lib.hid hi1
      have HK1 := Lib.hid (hi2 _ (Lib.iterAt_heap wr w.heap.size s p (p + n) HK.out))
      clear hi1 hi2
      go_wp2
      go_roundw
      case rel => exact utf_round HN.out HCc.out hlt HBad.out HC.out hk hnle hlen HK1 HI1
      case measure => exact utf_measure HK.out HK1.out hlt hn1
  · have hnx : ∀ ty, (Instr.next (.pointer (some ⟨w.heap.size, 0, none⟩)) true ty).run Tryz.prog wr = _ := fun ty => Lib.run_next_end_at wr w.heap.size s p ty HK.out hlt
    go_wp2
    go_ret
    rw [HC.out, charsFrom_stop (fun h => hlt h.1)]
    simp
    refine ⟨?_, HIl.out⟩
    omega
def utf_Bad.f (s : ByteArray) : Option Int := if s.size ≤ 1099511627776 then some ((charsFrom s s.size 0).2 : Int) else none
set_option maxHeartbeats 400000 in
theorem utf_Bad1.calls (c : Int) (w : World) : Calls Tryz.prog 124 (#[.int .i64 c] ++ #[]) w fun e w' => e = .returned (.tuple #[]) ∧ w = w' := by
 show Calls Tryz.prog 124 #[.int .i64 c] w _
 go_enter Tryz.func124, Tryz.ntmps124
 go_wp2
 go_end0
 exact ⟨rfl, rfl⟩
theorem utf_Bad.calls (s : ByteArray) (r : Int) (w : World) (h : utf_Bad.f s = some r) :
 Calls Tryz.prog 111 #[.string s] w fun e w' => e = .returned (.int .i64 r) ∧ Below w.heap.size w w' := by
 unfold utf_Bad.f at h
 split at h
 · rename_i hs
   injection h with h
   have HR := Lib.hid h
   clear h
   go_enter Tryz.func111, Tryz.ntmps111
   go_wp2_with fail
   refine (utf_each 124 #[] (enters_fn Tryz.func124 (by kernel_rfl) rfl) s (by omega) (fun _ W => Below w.heap.size w W) w ((Below.refl _ _).alloc (Nat.le_refl _) _) (fun l W p _ _ hb => Lib.below_iterAt hb (Nat.le_refl _) _ _) ?_).mono ?_
   · intro l c W _ _ _ hI
     refine (utf_Bad1.calls c W).mono ?_
     rintro e w' ⟨rfl, rfl⟩
     exact ⟨rfl, hI, fun p hp => hp⟩
   · rintro e w' ⟨rfl, hb⟩
     go_wp2
     go_ret
     rw [HR.out]
     exact ⟨rfl, hb⟩
 · cases h
def notB (B k : Nat) : Prop := k ≠ B
structure LBox (B : Nat) (w W : World) (l : List Int) (v : Value) : Prop where
 box : W.heap[B]? = some (.cells #[v] 91 (0, 0))
 row : (Kd.int .i64).R 3 W B (notB B) v l
 b : Below B w W
theorem infoInt : (Tryz.prog.info? 3).map (fun i => (i.zero, i.size, i.bytes)) = some (some (.int .i64 0), 1, 8) := by kernel_rfl
set_option maxRecDepth 100000 in
set_option maxHeartbeats 400000 in
theorem utf_Chars1.calls (B : Nat) (w W : World) (l : List Int) (v : Value) (c : Int) (hl : l.length < 1099511627776) (H : LBox B w W l v) :
 Calls Tryz.prog 113 (#[.int .i64 c] ++ #[.pointer (some ⟨B, 0, none⟩)]) W fun e W' => e = .returned (.tuple #[]) ∧ (∃ v', LBox B w W' (l ++ [c]) v') ∧ ∀ (D : Nat) (s : ByteArray) (p : Nat), W.heap[D]? = some (Obj.stringIter s p) → W'.heap[D]? = some (Obj.stringIter s p) := by
 have hc := cell_of_one H.box
 have hf := free_of_one H.box
 have HH := Lib.hid H
 clear H
 show Calls Tryz.prog 113 #[.int .i64 c, .pointer (some ⟨B, 0, none⟩)] W _
 go_enter Tryz.func113, Tryz.ntmps113
 go_wp2_with (at_builtin; go_must (refine Kd.R_append (Kd.int .i64) (w0 := w) B rfl _ _ 91 3 (.int .i64 0) 8 rfl Tryz.underlying91 infoInt rfl (by decide) (by decide) v l c [.int .i64 c] (notB B) (fun k => notB B k ∧ some k ≠ v.ownBlock) rfl rfl rfl (fun _ h => h) ?hfr HH.out.row HH.out.b (Nat.le_of_lt (lt_of_block HH.out.box)) (by omega) ?_))
 case hfr => exact fun k hk => by have := lt_of_block HH.out.box; unfold notB; omega
 intro v1 w1 HR HB hg hat
 have hbox : w1.heap[B]? = some (.cells #[v] 91 (0, 0)) := (hg.block B (lt_of_block HH.out.box) (fun e => HH.out.row.1 B e.symm rfl)).trans HH.out.box
 have HD := Lib.hid (show ∀ (D : Nat) (s : ByteArray) (p : Nat), W.heap[D]? = some (Obj.stringIter s p) → w1.heap[D]? = some (Obj.stringIter s p) from fun D s p h => (hg.block D (lt_of_block h) (fun e => by
  obtain ⟨cells, hcc⟩ := Kd.R_typed HH.out.row D e.symm
  rw [hcc] at h
  cases h)).trans h)
 have HX := Lib.hid hbox
 have hc1 := cell_of_one hbox
 have hf1 := free_of_one hbox
 obtain ⟨A1, c1, rfl⟩ := Kd.R_slice HR
 rw [List.length_append, List.length_singleton] at HR
 have HRR := Lib.hid HR
 have HBB := Lib.hid HB
 clear HR HB hg hat hc hf hbox
 go_wp2
 go_end0
 refine ⟨rfl, ⟨_, one_setCell HX.out, Kd.R_far (p := ⟨B, 0, none⟩) HRR.out (fun k hk => hk) _, HBB.out.setCell (Nat.le_refl _) _⟩, fun D s p h => ?_⟩
 rw [Below.heap_setCell _ _ _ _ (fun e => ?_)]
 · exact HD.out D s p h
 · have h1 := HH.out.box
   have h2 : D = B := e
   rw [← h2, h] at h1
   cases h1
def utf_Chars.f (s : ByteArray) : Option (List Int × Bool) :=
 if s.size ≤ 1099511627776 then some (if (charsFrom s s.size 0).2 < s.size then ([], false) else ((charsFrom s s.size 0).1, true)) else none
set_option maxRecDepth 100000 in
set_option maxHeartbeats 400000 in
theorem utf_Chars.calls (s : ByteArray) (r1 : List Int) (r2 : Bool) (w : World) (h : utf_Chars.f s = some (r1, r2)) :
 Calls Tryz.prog 92 #[.string s] w fun e w' => ∃ v0_ : Value, e = .returned (.tuple #[v0_, .bool r2]) ∧ (Kd.int .i64).R 3 w' w.heap.size (fun _ => True) v0_ r1 ∧ Below w.heap.size w w' := by
 unfold utf_Chars.f at h
 split at h
 · rename_i hs
   injection h with h
   have HR := Lib.hid h
   clear h
   go_enter Tryz.func92, Tryz.ntmps92
   go_wp2_with fail
   refine (utf_each 113 _ (enters_fn Tryz.func113 (by kernel_rfl) rfl) s (by omega) (fun l W => ∃ v, LBox w.heap.size w W l v) _ ?h0 ?hI ?hstep).mono ?_
   case h0 => exact ⟨_, (heap_alloc_old _ _ (by simp)).trans (heap_alloc_new w _), Kd.R_nil _ _ _ _ _, ((Below.refl _ _).alloc (Nat.le_refl _) _).alloc (by simp) _⟩
   case hI =>
    rintro l W p q hq ⟨v, h⟩
    refine ⟨v, (Lib.iterAt_other _ _ _ _ _ (by simp)).trans h.box, Kd.R_mono (Kd.R_move (Kd.R_bound h.row) (fun k hk => Lib.iterAt_other _ _ _ _ _ (fun e => ?_))) (fun k hk => hk.1), Lib.below_iterAt h.b (by simp) _ _⟩
    obtain ⟨_, _, _, _, _, cells, hcc⟩ := hk
    rw [e, hq] at hcc
    cases hcc
   case hstep =>
    rintro l c W _ _ hl ⟨v, h⟩
    refine (utf_Chars1.calls w.heap.size w W l v c (by omega) h).mono ?_
    rintro e W' ⟨rfl, hv, hk⟩
    exact ⟨rfl, hv, fun p hp => hk _ _ p hp⟩
   rintro e w1 ⟨rfl, v, hb⟩
   obtain ⟨n, hn⟩ : ∃ n, n = (charsFrom s s.size 0).2 := ⟨_, rfl⟩
   obtain ⟨l, hl⟩ : ∃ l, l = (charsFrom s s.size 0).1 := ⟨_, rfl⟩
   rw [← hl] at hb
   rw [← hn, ← hl] at HR
   rw [← hn]
   clear hn hl
   by_cases hlt : n < s.size
   · rw [if_pos hlt] at HR
     have hd : decide (n < s.size) = true := decide_eq_true hlt
     have HB := Lib.hid hb
     clear hb
     go_wp2
     go_ret2
     have := HR.out
     simp only [Prod.mk.injEq] at this
     obtain ⟨rfl, rfl⟩ := this
     exact ⟨_, rfl, Kd.R_nil _ _ _ _ _, HB.out.b⟩
   · rw [if_neg hlt] at HR
     have hd : decide (n < s.size) = false := decide_eq_false hlt
     have hc := cell_of_one hb.box
     have HB := Lib.hid hb
     clear hb
     go_wp2
     go_ret2
     have := HR.out
     simp only [Prod.mk.injEq] at this
     obtain ⟨rfl, rfl⟩ := this
     exact ⟨_, rfl, Kd.R_mono HB.out.row (fun _ _ => trivial), HB.out.b⟩
 · cases h
def prefPos (s : ByteArray) (most : Int) : Nat → Nat → Int → Nat
 | 0, p, _ => p
 | k + 1, p, n => if p < s.size then (if n ≥ most then p else prefPos s most k (p + (Utf8.decode s p).2) (n + 1)) else s.size
def utf_Prefix.f (s : ByteArray) (most : Int) : Option ByteArray :=
 if s.size ≤ 1099511627776 then some ((s.extract 0 (charsFrom s s.size 0).2).extract 0 (prefPos (s.extract 0 (charsFrom s s.size 0).2) most ((s.extract 0 (charsFrom s s.size 0).2).size + 1) 0 0)) else none
theorem charsFrom_le (s : ByteArray) : ∀ k p, p ≤ s.size → (charsFrom s k p).2 ≤ s.size
 | 0, p, h => h
 | k + 1, p, h => by
  by_cases hs : p < s.size ∧ badAt s p = false
  · rw [charsFrom_step hs.1 hs.2]
    exact charsFrom_le s k _ (decode_fits s p hs.1)
  · rw [charsFrom_stop hs]; exact h
set_option maxRecDepth 100000 in
set_option maxHeartbeats 400000 in
theorem utf_Prefix.calls (s : ByteArray) (most : Int) (r : ByteArray) (w : World) (h : utf_Prefix.f s most = some r) :
 Calls Tryz.prog 91 #[.string s, .int .i64 most] w fun e w' => e = .returned (.string r) ∧ Below w.heap.size w w' := by
 unfold utf_Prefix.f at h
 split at h
 · rename_i hs
   injection h with h
   obtain ⟨n, hn⟩ : ∃ n, n = (charsFrom s s.size 0).2 := ⟨_, rfl⟩
   have hns : n ≤ s.size := by rw [hn]; exact charsFrom_le s _ _ (Nat.zero_le _)
   have HB0 : utf_Bad.f s = some (n : Int) := by rw [utf_Bad.f, if_pos hs, hn]
   rw [← hn] at h
   obtain ⟨u, hu⟩ : ∃ u, u = s.extract 0 n := ⟨_, rfl⟩
   have husz : u.size ≤ 1099511627776 := by rw [hu]; simp; omega
   have HU := Lib.hid hu
   rw [← hu] at h
   have HR := Lib.hid h
   have HB1 := Lib.hid HB0
   clear h hn HB0 hu
   have hsl : ∀ W, (Instr.slice 9 (.string s) none (some (.int .i64 (n : Int))) none).run Tryz.prog W = .ok (.string u) W := fun W => by
    rw [run_slice_string_h (P := Tryz.prog) W 9 s Tryz.underlying9 .i64 (n : Int) (by omega) (by omega), HU.out]
    rfl
   go_enter Tryz.func91, Tryz.ntmps91
   go_wp2_with fail
   refine (utf_Bad.calls s _ _ HB1.out).mono ?_
   rintro e w1 ⟨rfl, hb⟩
   have HB := Lib.hid hb
   clear hb
   go_wp2
   go_loopw [5, 6] (fun c _ wr => ∃ (k p m : Nat), wr = w1.iter u p ∧ c = .int .i64 (m : Int) ∧ m ≤ p ∧ p ≤ u.size ∧ u.size < p + k ∧ Hid (prefPos u most k p (m : Int) = prefPos u most (u.size + 1) 0 0)) (fun _ _ wr => u.size - wr.iterPos w1.heap.size)
   case atStart => exact ⟨u.size + 1, 0, 0, rfl, rfl, by omega, by omega, by omega, Lib.hid rfl⟩
   case round =>
    obtain ⟨k, p, m, rfl, rfl, hm, hp, hk, HP⟩ := hrel
    by_cases hlt : p < u.size
    · have hnx : ∀ ty, (Instr.next (.pointer (some ⟨w1.heap.size, 0, none⟩)) true ty).run Tryz.prog (w1.iter u p) = _ := fun ty => run_next_any w1 u p ty hlt
      obtain ⟨q, hq⟩ : ∃ q, q = (Utf8.decode u p).2 := ⟨_, rfl⟩
      obtain ⟨c, hc⟩ : ∃ c : Int, c = ((Utf8.decode u p).1 : Int) := ⟨_, rfl⟩
      rw [← hc, ← hq] at hnx
      have hq1 : 1 ≤ q := by rw [hq]; exact decode_pos u p hlt
      have hqle : p + q ≤ u.size := by rw [hq]; exact decode_fits u p hlt
      have HQ := Lib.hid hq
      clear hc hq
      cases k with
      | zero => omega
      | succ k =>
       have HP1 := HP.out
       rw [prefPos, if_pos hlt] at HP1
       by_cases hge : (m : Int) ≥ most
       · rw [if_pos hge] at HP1
         have hgb : decide (most ≤ (m : Int)) = true := decide_eq_true hge
         have HPP := Lib.hid HP1
         clear HP1 hge HP
         have hsl2 : ∀ W, (Instr.slice 9 (.string u) none (some (.int .i64 (p : Int))) none).run Tryz.prog W = .ok (.string (u.extract 0 p)) W := fun W => by
          rw [run_slice_string_h (P := Tryz.prog) W 9 u Tryz.underlying9 .i64 (p : Int) (by omega) (by omega)]
          rfl
         go_wp2
         go_ret
         refine ⟨?_, ?_⟩
         · show Ending.returned (.string (u.extract 0 p)) = _; rw [← HR.out, ← HPP.out]
         · exact HB.out.alloc HB.out.size _
       · rw [if_neg hge] at HP1
         have hgb : decide (most ≤ (m : Int)) = false := decide_eq_false hge
         have HPP := Lib.hid HP1
         clear HP1 hge HP
         go_wp2
         go_roundw
         case rel => exact ⟨k, p + q, m + 1, rfl, by go_num, by omega, hqle, by omega, Lib.hid (by rw [← HPP.out, HQ.out]; rfl)⟩
         case measure => simp; omega
    · have hnx : ∀ ty, (Instr.next (.pointer (some ⟨w1.heap.size, 0, none⟩)) true ty).run Tryz.prog (w1.iter u p) = _ := fun ty => run_next_end w1 u p ty hlt
      cases k with
      | zero => omega
      | succ k =>
       have HP1 := HP.out
       rw [prefPos, if_neg hlt] at HP1
       have HPP := Lib.hid HP1
       clear HP1 HP
       go_wp2
       go_ret
       refine ⟨?_, ?_⟩
       · show Ending.returned (.string u) = _; rw [← HR.out, ← HPP.out, ByteArray.extract_zero_size]
       · exact HB.out.alloc HB.out.size _
 · cases h
def anyFrom (s : ByteArray) : Nat → Nat → Int
 | 0, _ => -1
 | k + 1, p => if p < s.size then (if ((Utf8.decode s p).1 : Int) = 44 ∨ ((Utf8.decode s p).1 : Int) = 125 then (p : Int) else anyFrom s k (p + (Utf8.decode s p).2)) else -1
def twoEnds : ByteArray := ⟨#[44, 125]⟩
def endAt (d : Nat) : Int := if d = 0 then 44 else 125
theorem twoEnds_decode (d : Nat) (h : d < 2) : (((Utf8.decode twoEnds d).1 : Int), (Utf8.decode twoEnds d).2) = (endAt d, 1) := by
 match d, h with
 | 0, _ => decide
 | 1, _ => decide
set_option maxRecDepth 100000 in
set_option maxHeartbeats 800000 in
theorem tmpl_anyAt.calls (s : ByteArray) (hs : s.size ≤ 1099511627776) (w : World) :
 Calls Tryz.prog 71 #[.string s, .string twoEnds] w fun e w' => e = .returned (.int .i64 (anyFrom s s.size 0)) ∧ Below w.heap.size w w' := by
 obtain ⟨r, hr⟩ : ∃ r, r = anyFrom s s.size 0 := ⟨_, rfl⟩
 rw [← hr]
 have HR := Lib.hid hr.symm
 have HD := Lib.hid twoEnds_decode
 have hsz : twoEnds.size = 2 := rfl
 obtain ⟨E, hE⟩ : ∃ E, E = twoEnds := ⟨_, rfl⟩
 rw [← hE] at hsz HD ⊢
 clear hr hE
 go_enter Tryz.func71, Tryz.ntmps71
 go_wp2
 go_loopw [5, 6, 8] (fun _ _ _ wr => ∃ (k p : Nat), Hid (wr.heap[w.heap.size]? = some (.stringIter s p)) ∧ Hid (anyFrom s k p = r) ∧ s.size ≤ p + k ∧ p ≤ s.size ∧ Hid (Below w.heap.size w wr)) (fun _ _ _ wr => s.size - wr.iterPos w.heap.size)
 case atStart =>
  exact ⟨s.size, 0, Lib.hid (World.iter_heap w s 0), HR, by omega, by omega, Lib.hid ((Below.refl _ _).alloc (Nat.le_refl _) _)⟩
 case round =>
  obtain ⟨k, p, HK, HC, hk, hp, HBw⟩ := hrel
  by_cases hlt : p < s.size
  · cases k with
    | zero => omega
    | succ k =>
    have hC := HC.out
    rw [anyFrom, if_pos hlt] at hC
    have hnx : ∀ ty, (Instr.next (.pointer (some ⟨w.heap.size, 0, none⟩)) true ty).run Tryz.prog wr = _ := fun ty => Lib.run_next_any_at wr w.heap.size s p ty HK.out hlt
    obtain ⟨c, hc⟩ : ∃ c : Int, c = ((Utf8.decode s p).1 : Int) := ⟨_, rfl⟩
    obtain ⟨n, hn⟩ : ∃ n, n = (Utf8.decode s p).2 := ⟨_, rfl⟩
    rw [← hc, ← hn] at hnx hC
    have hn1 : 1 ≤ n := by rw [hn]; exact decode_pos s p hlt
    have hnle : p + n ≤ s.size := by rw [hn]; exact decode_fits s p hlt
    have HK1 := Lib.hid (Lib.iterAt_heap wr w.heap.size s p (p + n) HK.out)
    have HB1 := Lib.hid (Lib.below_iterAt HBw.out (Nat.le_refl _) s (p + n))
    have HC1 := Lib.hid hC
    clear hc hn hC HC
    go_wp2_with fail
    obtain ⟨W1, hW1⟩ : ∃ W1, W1 = wr.iterAt w.heap.size s (p + n) := ⟨_, rfl⟩
    rw [← hW1] at HK1 HB1
    rw [← hW1]
    have HW1 := Lib.hid hW1
    clear hW1 hnx
    have hlt1 : w.heap.size < W1.heap.size := (Array.getElem?_eq_some_iff.1 HK1.out).1
    go_loopw [8] (fun _ W => ∃ d : Nat, d ≤ 2 ∧ (∀ j, j < d → c ≠ endAt j) ∧ Hid (W.heap[W1.heap.size]? = some (.stringIter E d)) ∧ Hid (W.heap[w.heap.size]? = some (.stringIter s (p + n))) ∧ Hid (Below w.heap.size w W)) (fun _ W => 2 - W.iterPos W1.heap.size)
    case atStart =>
     exact ⟨0, by omega, fun j hj => by omega, Lib.hid (World.iter_heap W1 E 0), Lib.hid ((heap_alloc_old W1 _ hlt1).trans HK1.out), Lib.hid (HB1.out.alloc (Nat.le_of_lt hlt1) _)⟩
    case round =>
     obtain ⟨d, hd, hne, HI, HO, HBi⟩ := hrel
     by_cases hd2 : d < 2
     · have hnx := fun ty => Lib.run_next_any_at (P := Tryz.prog) _ W1.heap.size E d ty HI.out (by rw [hsz]; exact hd2)
       have hdec := HD.out d hd2
       simp only [Prod.mk.injEq] at hdec
       rw [hdec.1, hdec.2] at hnx
       have hE2 : endAt d = 44 ∨ endAt d = 125 := by unfold endAt; split <;> simp
       obtain ⟨x, hx⟩ : ∃ x, x = endAt d := ⟨_, rfl⟩
       rw [← hx] at hnx hE2
       have HX := Lib.hid hx
       clear hdec hx
       have HI1 := Lib.hid (Lib.iterAt_heap _ W1.heap.size E d (d + 1) HI.out)
       have HB2 := Lib.hid (Lib.below_iterAt HBi.out (Nat.le_of_lt hlt1) E (d + 1))
       have HO2 := Lib.hid ((Lib.iterAt_other _ W1.heap.size w.heap.size E (d + 1) (by omega)).trans HO.out)
       by_cases hcx : c = x
       · have q1 : (c == x) = true := beq_iff_eq.2 hcx
         have hC := HC1.out
         rw [if_pos (by rw [hcx]; exact hE2)] at hC
         have HCC := Lib.hid hC
         clear hC hcx hE2
         go_wp2
         go_ret
         exact ⟨by show Ending.returned (.int .i64 (p : Int)) = _; rw [HCC.out], HB2.out⟩
       · have q1 : (c == x) = false := beq_eq_false_iff_ne.2 hcx
         have HN := Lib.hid (show ∀ j, j < d + 1 → c ≠ endAt j from fun j hj => by
          rcases Nat.lt_succ_iff_lt_or_eq.1 hj with h | h
          · exact hne j h
          · rw [h, ← HX.out]; exact hcx)
         clear hne hcx hE2
         go_wp2
         go_roundw
         case rel => exact ⟨d + 1, by omega, HN.out, HI1, HO2, HB2⟩
         case measure =>
          have h1 := HI.out
          have h2 := HI1.out
          simp only [World.iterPos, h1, h2]
          omega
     · have hnx := fun ty => Lib.run_next_end_at (P := Tryz.prog) _ W1.heap.size E d ty HI.out (by rw [hsz]; exact hd2)
       have hC := HC1.out
       have hd3 : d = 2 := by omega
       rw [if_neg (fun h => by
        rcases h with h | h
        · exact hne 0 (by omega) h
        · exact hne 1 (by omega) h)] at hC
       have HCC := Lib.hid hC
       clear hC hne hd3
       go_wp2
       go_roundw
       case rel => exact ⟨k, p + n, HO, HCC, by omega, by omega, HBi⟩
       case measure =>
        have h1 := HK.out
        have h2 := HO.out
        simp only [World.iterPos, h1, h2]
        omega
  · have hnx : ∀ ty, (Instr.next (.pointer (some ⟨w.heap.size, 0, none⟩)) true ty).run Tryz.prog wr = _ := fun ty => Lib.run_next_end_at wr w.heap.size s p ty HK.out hlt
    have hC := HC.out
    have hstop : anyFrom s k p = -1 := by
     cases k with
     | zero => rfl
     | succ k => rw [anyFrom, if_neg hlt]
    rw [hstop] at hC
    have HC1 := Lib.hid hC
    clear hC HC hstop
    go_wp2
    go_ret
    exact ⟨by show Ending.returned (.int .i64 (-1)) = _; rw [HC1.out], HBw.out⟩
end Go.Proofs.YtkipkbggnfllkaaGreatDoor.P
end
section
namespace Go.Proofs.YtkipkbggnfllkaaGreatDoor.P
open Go.RowKit
theorem storeCells_mark (P : Program) (g o : Nat) (t : TypeId) (fz : Nat × Nat) : ∀ (vs : List Value) (i : Nat) (cur : Array Value) (w : World), w.heap[g]? = some (.cells cur t fz) → (fz.2 ≤ o + i ∨ cur.size ≤ fz.1) → o + i + vs.length ≤ cur.size → (∀ v ∈ vs, v.oneCell' = true) →
 (storeCells ⟨g, o, none⟩ vs i).run P w = .ok () (w.setRow g (cur.toList.take (o + i) ++ vs ++ cur.toList.drop (o + i + vs.length)).toArray)
 | [], i, cur, w, hg, _, _, _ => by
  simp only [storeCells, List.append_nil, List.length_nil, Nat.add_zero, List.take_append_drop, Array.toArray_toList]
  rw [setRow_self w g cur t fz hg]
  rfl
 | v :: rest, i, cur, w, hg, hfz, hl, h1 => by
  have hi : o + i < cur.size := by simp at hl; omega
  have hadd : (⟨g, o, none⟩ : Addr).add i = ⟨g, o + i, none⟩ := by unfold Addr.add; split <;> simp_all
  have hcell : w.cell? ⟨g, o + i, none⟩ = some cur[o + i] := by simp [World.cell?, hg, hi]
  have hfro : w.frozen? ⟨g, o + i, none⟩ = false := by
   obtain ⟨lo, hi'⟩ := fz
   simp only [World.frozen?, hg, Bool.and_eq_false_iff, decide_eq_false_iff_not]
   simp only at hfz
   omega
  have hst : (store ((⟨g, o, none⟩ : Addr).add i) v).run P w = .ok () (w.setRow g (cur.setIfInBounds (o + i) v)) := by
   rw [hadd, run_store P w _ v _ (h1 v (by simp)), hcell]
   simp [hfro, setCell_eq_setRow w g (o + i) cur t fz v hg]
  have ih := storeCells_mark P g o t fz rest (i + 1) (cur.setIfInBounds (o + i) v) (w.setRow g (cur.setIfInBounds (o + i) v)) (setRow_heap w g cur _ t _ hg) (by simp; omega) (by simp at hl ⊢; omega) (fun x hx => h1 x (by simp [hx]))
  simp only [storeCells, Sem.run_bind, hst, Result.andThen_ok, ih, setRow_setRow]
  congr 3
  have e := list_seg_step cur.toList (o + i) v rest (by simp at hl ⊢; omega)
  simpa [Array.toList_setIfInBounds, Nat.add_assoc] using e
def RowM (w : World) (base : Nat) (e : TypeId) (v : Value) (xs : List Value) : Prop :=
 ∃ g cap cur fz, v = .slice (some ⟨g, 0, none⟩) xs.length cap ∧ base ≤ g ∧ w.heap[g]? = some (.cells cur e fz) ∧ (fz.2 ≤ xs.length ∨ cur.size ≤ fz.1) ∧ xs.length ≤ cap ∧ cap ≤ maxLen ∧ cur.size = cap ∧ cur.toList.take xs.length = xs
section
variable {P : Program} (w : World)
theorem RowM.cells {w : World} {base : Nat} {e : TypeId} {v : Value} {xs : List Value} (h : RowM w base e v xs) : ∃ g cap, v = .slice (some ⟨g, 0, none⟩) xs.length cap ∧ ∀ j u, xs[j]? = some u → w.cell? ⟨g, j, none⟩ = some u := by
 obtain ⟨g, cap, cur, fz, rfl, _, hgg, _, _, _, _, ht⟩ := h
 refine ⟨g, cap, rfl, fun j u hu => ?_⟩
 rw [cell_of_row w g j cur e fz hgg]
 rw [← ht, List.getElem?_take] at hu
 split at hu
 · simpa using hu
 · cases hu
theorem RowM.below {w w1 : World} {base : Nat} {e : TypeId} {v : Value} {xs : List Value} (h : RowM w base e v xs) (hb : Below w.heap.size w w1) : RowM w1 base e v xs := by
 obtain ⟨g, cap, cur, fz, rfl, hg, hgg, r⟩ := h
 exact ⟨g, cap, cur, fz, rfl, hg, (hb.block g (Array.getElem?_eq_some_iff.1 hgg).1).trans hgg, r⟩
theorem run_append_mark (base : Nat) (t ty e : TypeId) (i : TypeInfo) (z : Value) (bytes : Nat) (ht : P.underlying t = some (.slice e)) (hi : P.info? e = some i) (hz : i.zero = some z)
 (hsize : i.size = 1) (hby : i.bytes = bytes) (hzs : z.cells.size = 1)
 (v : Value) (xs : List Value) (hown : RowM w base e v xs) (a : Addr) (u : Value) (hu : w.cell? (a.add 0) = some u) (h1 : u.oneCell' = true)
 (h63 : xs.length + 1 ≤ maxLen) (hbytes : (xs.length + 1) * bytes ≤ 140737488355328) (hbase : base ≤ w.heap.size) :
 ∃ v' w', (Builtin.append_ #[t, t] ty #[v, .slice (some a) 1 1]).run P w = .ok v' w' ∧ RowM w' base e v' (xs ++ [u]) ∧ w.grownBy w' v.ownBlock := by
 have hcells := hown.cells
 obtain ⟨g, cap, cur, fz, rfl, hbg, hg, hfz, hnc, hcm, hcs, htake⟩ := hown
 subst hby
 have hnews : ∀ j x, [u][j]? = some x → w.cell? (a.add j) = some x := by
  intro j x hx
  cases j with
  | zero => simp at hx; rw [← hx]; exact hu
  | succ j => simp at hx
 have h1s : ∀ x ∈ [u], x.oneCell' = true := by simp [h1]
 have hlen : (xs ++ [u]).length = xs.length + 1 := by simp
 by_cases hroom : xs.length + 1 ≤ cap
 · have hf := run_firstCells_some (P := P) w i.size 1 a 1 1 [u] (by simp [hsize]) hnews
   have hst := storeCells_mark P g xs.length e fz [u] 0 cur w hg (by simpa using hfz) (by simp; omega) h1s
   simp only [Nat.add_zero] at hst
   have hr : (Builtin.append_ #[t, t] ty #[.slice (some ⟨g, 0, none⟩) xs.length cap, .slice (some a) 1 1]).run P w = .ok (.slice (some ⟨g, 0, none⟩) (xs.length + 1) cap) (w.setRow g (cur.toList.take xs.length ++ [u] ++ cur.toList.drop (xs.length + [u].length)).toArray) := by
    simp only [hsize] at hf
    simp [Builtin.append_, run_underlying ht, sizeOf, typeInfo, hi, hsize, Builtin.lenOf, hroom, hf, Addr.add_lit, hst]
   refine ⟨_, _, hr, ⟨g, cap, _, fz, by rw [hlen], hbg, setRow_heap w g cur _ e _ hg, ?_, by rw [hlen]; exact hroom, hcm, ?_, ?_⟩, ⟨rfl, rfl, rfl, by simp, fun k _ hk => setRow_other w g k _ (fun e => hk (by simp [Value.ownBlock, e]))⟩⟩
   · rw [hlen]
     rcases hfz with h | h
     · left; omega
     · right
       simp only [List.size_toArray, List.length_append, List.length_take, List.length_drop, Array.length_toList, List.length_cons, List.length_nil]
       omega
   · simp only [List.size_toArray, List.length_append, List.length_take, List.length_drop, Array.length_toList, List.length_cons, List.length_nil]
     omega
   · rw [htake]
     exact List.take_left
 · have holds : ∀ j x, xs[j]? = some x → w.cell? ((⟨g, 0, none⟩ : Addr).add j) = some x := by
    obtain ⟨g', cap', he, hc⟩ := hcells
    injection he with he1 _ _
    injection he1 with he1
    injection he1 with he1 _ _
    subst he1
    intro j x hx
    have hadd : (⟨g, 0, none⟩ : Addr).add j = ⟨g, j, none⟩ := by unfold Addr.add; split <;> simp_all
    rw [hadd]; exact hc j x hx
   have hsmall : xs.length + 1 ≤ 9223372036854775807 := by simp only [maxLen] at h63; omega
   have hr := run_append_grow (P := P) w t ty e i z ht hi hz ⟨g, 0, none⟩ xs.length cap xs (by rw [hsize, Nat.mul_one]) holds a 1 1 [u] (by rw [hsize]; rfl) hnews (by omega) (by omega) (growslice_fits (by omega) hbytes)
   have hge := grownCap_ge w (xs.length + 1) cap e
   have hcm2 : grownCap w (xs.length + 1) cap e ≤ maxLen := grownCap_le_maxLen w (xs.length + 1) cap e h63
   refine ⟨_, _, hr, ⟨w.heap.size, _, _, (0, 0), by rw [hlen], hbase, heap_alloc_new w.drew _, .inl (Nat.zero_le _), by rw [hlen]; exact hge, hcm2, ?_, ?_⟩, ⟨rfl, rfl, rfl, by simp, fun k hk _ => by first | exact heap_alloc_old w.drew _ k hk | exact heap_alloc_old w.drew _ hk⟩⟩
   · simp only [Array.size_append, List.size_toArray, size_zeroCells, hzs, List.length_cons, List.length_nil]
     omega
   · simp only [Array.toList_append, List.append_assoc]
     rw [← List.append_assoc]
     exact List.take_left
theorem wpList_append_mark {ops : Array Oper} {rest : List Oper} {o : Oper} {a : Act} {Q : Exit → Act → World → Prop} (hgd : o.guard = none) (s x : Operand) (t : TypeId)
 (ho : o.op = .call { callee := .builtin .append, args := #[s, x], argTypes := #[t, t] })
 (base : Nat) (e : TypeId) (i : TypeInfo) (z : Value) (bytes : Nat) (ht : P.underlying t = some (.slice e)) (hi : P.info? e = some i) (hz : i.zero = some z)
 (hsize : i.size = 1) (hby : i.bytes = bytes) (hzs : z.cells.size = 1)
 (v : Value) (xs : List Value) (hs : a.eval s = v) (hown : RowM w base e v xs) (ad : Addr) (u : Value) (hx : a.eval x = .slice (some ad) 1 1) (hu : w.cell? (ad.add 0) = some u) (h1 : u.oneCell' = true)
 (h63 : xs.length + 1 ≤ maxLen) (hbytes : (xs.length + 1) * bytes ≤ 140737488355328) (hbase : base ≤ w.heap.size)
 (h : ∀ v' w', RowM w' base e v' (xs ++ [u]) → w.grownBy w' v.ownBlock → wpList P ops Q rest (a.put o.dst v') w') : wpList P ops Q (o :: rest) a w := by
 refine wpList_plain hgd fun K hK => ?_
 obtain ⟨v', w', hr, h2, h3⟩ := run_append_mark (P := P) w base t o.type e i z bytes ht hi hz hsize hby hzs v xs hown ad u hu h1 h63 hbytes hbase
 unfold Oper.wp execOp
 simp only [ho, resolve, invoke, builtin, Sem.run_bind, Sem.run_pure, Result.andThen_ok, List.map_toArray, List.map_cons, List.map_nil, hs, hx, hr]
 exact hK _ _ (h v' w' h2 h3)
end
def byteVals (s : ByteArray) : List Value := s.data.toList.map fun b => Value.int .u8 b.toNat
theorem RowM.made (w : World) (e : TypeId) (s : ByteArray) (hs : s.size ≤ maxLen) : RowM (Lib.bytesWorld w e s) w.heap.size e (.slice (some ⟨w.heap.size, 0, none⟩) s.size (grownCap w s.size 0 e)) (byteVals s) := by
 have hl : (byteVals s).length = s.size := by simp [byteVals]
 have hge := grownCap_ge w s.size 0 e
 refine ⟨_, _, _, _, by rw [hl], Nat.le_refl _, Lib.bytesWorld_at_new w e s, .inr (Nat.le_refl _), by rw [hl]; exact hge, grownCap_le_maxLen w s.size 0 e hs, ?_, ?_⟩
 · simp only [Lib.bytesCells, Array.size_append, Array.size_map, Array.size_replicate]
   have : s.data.size = s.size := rfl
   omega
 · rw [hl]
   have : s.data.size = s.size := rfl
   simp only [Lib.bytesCells, Array.toList_append, Array.toList_map, byteVals]
   rw [List.take_append_of_le_length (by simp), List.take_of_length_le (by simp)]
theorem RowM.below_made (w : World) (e : TypeId) (s : ByteArray) : Below w.heap.size w (Lib.bytesWorld w e s) :=
 ⟨by simp [Lib.bytesWorld, World.freeze, World.alloc, World.drew, -World.alloc_eq, -World.drew_eq], by simp [Lib.bytesWorld, World.freeze, World.alloc, World.drew, -World.alloc_eq, -World.drew_eq], by simp [Lib.bytesWorld, World.freeze, World.alloc, World.drew, -World.alloc_eq, -World.drew_eq], by rw [Lib.bytesWorld_size]; omega, fun k hk => Lib.bytesWorld_at_old w e s k hk⟩
end Go.Proofs.YtkipkbggnfllkaaGreatDoor.P
end
section
namespace Go.Proofs.YtkipkbggnfllkaaGreatDoor.P
open Go.RowKit Go.Proofs.YtkipkbggnfllkaaGreatDoorW.PrintWords Go.Proofs.YtkipkbggnfllkaaGreatDoorW.PrintLast Go.Proofs.YtkipkbggnfllkaaGreatDoorW.PrintMore
def filledFrom (c : Int) : Nat → List Int → Int × Bool
 | 0, _ => (0, false)
 | d + 1, x =>
  if x.length ≤ 4 then
   (if (charsFrom (strOfNums x) (strOfNums x).size 0).2 < (strOfNums x).size then filledFrom c d (x ++ [c])
    else match (charsFrom (strOfNums x) (strOfNums x).size 0).1 with
     | [n] => (n, true)
     | _ => filledFrom c d (x ++ [c]))
  else (0, false)
def ucs_filled.f (b : ByteArray) (c : Int) : Option (Int × Bool) := if b.size ≤ 1099511627776 then some (filledFrom c 6 (bytesOf b)) else none
theorem filled_step (c : Int) (d : Nat) (x : List Int) (s : ByteArray) (hs : s = strOfNums x) (hx : x.length ≤ 4) :
 ∃ l ok, utf_Chars.f s = some (l, ok) ∧ filledFrom c (d + 1) x = if ok = true ∧ l.length = 1 then (l.getD 0 0, true) else filledFrom c d (x ++ [c]) := by
 have hsz : s.size ≤ 4 := by rw [hs, strOfNums_size]; exact hx
 rw [filledFrom, if_pos hx, ← hs]
 by_cases hb : (charsFrom s s.size 0).2 < s.size
 · refine ⟨[], false, by rw [utf_Chars.f, if_pos (by omega), if_pos hb], ?_⟩
   rw [if_pos hb, if_neg (by simp)]
 · refine ⟨(charsFrom s s.size 0).1, true, by rw [utf_Chars.f, if_pos (by omega), if_neg hb], ?_⟩
   rw [if_neg hb]
   generalize (charsFrom s s.size 0).1 = l
   cases l with
   | nil => simp
   | cons a l =>
    cases l with
    | nil => simp
    | cons b l => simp
theorem heapcell_new (W : World) (u : Value) (t : TypeId) : (W.alloc (.cells #[u] t)).cell? ((⟨W.heap.size, 0, none⟩ : Addr).add 0) = some u := by
 rw [show ((⟨W.heap.size, 0, none⟩ : Addr).add 0) = ⟨W.heap.size, 0, none⟩ from rfl]
 simp
theorem bytes_nums (s : ByteArray) : byteVals s = nums .u8 (bytesOf s) := by simp [byteVals, nums, bytesOf]
theorem RowM.base {w : World} {base : Nat} {e : TypeId} {v : Value} {xs : List Value} (h : RowM w base e v xs) (k : Nat) (hk : v.ownBlock = some k) : base ≤ k := by
 obtain ⟨g, cap, cur, fz, rfl, hg, _⟩ := h
 have : g = k := by simpa [Value.ownBlock] using hk
 omega
theorem RowM.reads {w : World} {base : Nat} {e : TypeId} {v : Value} {xs : List Int} (h : RowM w base e v (nums .u8 xs)) (hl : xs.length ≤ 9223372036854775807) : ∃ g cap, v = .slice (some ⟨g, 0, none⟩) xs.length cap ∧ ReadsInt w .u8 (some ⟨g, 0, none⟩) xs.length xs := by
 obtain ⟨g, cap, hv, hc⟩ := h.cells
 rw [nums_length] at hv
 refine ⟨g, cap, hv, rfl, hl, fun _ => ⟨_, rfl, fun j hj => ?_⟩⟩
 have hadd : (⟨g, 0, none⟩ : Addr).add j = ⟨g, j, none⟩ := by unfold Addr.add; split <;> simp_all
 rw [hadd]
 refine hc j _ ?_
 simp [nums, List.getElem?_eq_getElem hj, List.getD_eq_getElem?_getD]
def sliceLen : Value → Nat
 | .slice _ n _ => n
 | _ => 0
theorem infoByte : (Tryz.prog.info? 5).map (fun i => (i.zero, i.size, i.bytes)) = some (some (.int .u8 0), 1, 1) := by kernel_rfl
set_option maxRecDepth 100000 in
set_option maxHeartbeats 800000 in
theorem ucs_filled.calls (b : ByteArray) (c : Int) (r1 : Int) (r2 : Bool) (w : World) (h : ucs_filled.f b c = some (r1, r2)) :
 Calls Tryz.prog 98 #[.string b, .int .u8 c] w fun e w' => e = .returned (.tuple #[.int .i64 r1, .bool r2]) ∧ Below w.heap.size w w' := by
 unfold ucs_filled.f at h
 split at h
 · rename_i hs
   injection h with h
   have hcv : ∀ W : World, (convert 9 58 (.string b)).run Tryz.prog W = .ok (.slice (some ⟨W.heap.size, 0, none⟩) b.size (grownCap W b.size 0 5)) (Lib.bytesWorld W 5 b) := fun W => Lib.run_convert_string_bytes W _ _ _ b Tryz.underlying9 Tryz.underlying58 Tryz.underlying5
   have hrow := RowM.made w 5 b (by simp only [maxLen]; omega)
   rw [bytes_nums] at hrow
   have HRow := Lib.hid hrow
   have HB := Lib.hid (RowM.below_made w 5 b)
   have hbl := bytesOf_length b
   obtain ⟨x, hx⟩ : ∃ x, x = bytesOf b := ⟨_, rfl⟩
   rw [← hx] at HRow h hbl
   have HR := Lib.hid h
   have hxl : x.length ≤ 1099511627776 := by omega
   have HL := Lib.hid hbl
   clear h hrow hx hbl
   obtain ⟨i0, hi0, hzz⟩ := Option.map_eq_some_iff.1 infoByte
   simp only [Prod.mk.injEq] at hzz
   obtain ⟨hz0, hz1, hz2⟩ := hzz
   go_enter Tryz.func98, Tryz.ntmps98
   go_wp2
   go_loopw [6, 7, 8] (fun v _ _ wr => ∃ (d : Nat) (x : List Int), Hid (RowM wr w.heap.size 5 v (nums .u8 x)) ∧ Hid (filledFrom c d x = (r1, r2)) ∧ 6 ≤ x.length + d ∧ x.length ≤ 1099511627777 ∧ Hid (Below w.heap.size w wr) ∧ sliceLen v = x.length) (fun v _ _ _ => 5 - sliceLen v)
   case atStart => exact ⟨6, x, HRow, HR, by omega, by omega, HB, HL.out.symm⟩
   case round =>
    obtain ⟨d, x, HW, HF, hd, hx, HBw, hv⟩ := hrel
    obtain ⟨g, cap, rfl, hreads⟩ := HW.out.reads (by omega)
    have hcs : (convert 58 9 (.slice (some ⟨g, 0, none⟩) x.length cap)).run Tryz.prog wr = .ok (.string (strOfNums x)) wr := string_of_reads Tryz.underlying58 Tryz.underlying5 Tryz.underlying9 hreads
    clear hreads hv
    by_cases hle : x.length ≤ 4
    · cases d with
      | zero => omega
      | succ d =>
       obtain ⟨s, hs'⟩ : ∃ s, s = strOfNums x := ⟨_, rfl⟩
       have hssz : s.size ≤ 4 := by rw [hs', strOfNums_size]; exact hle
       obtain ⟨l, ok, hch, hst⟩ := filled_step c d x s hs' hle
       rw [← hs'] at hcs
       have HF1 := hst.symm.trans HF.out
       have HCH := Lib.hid hch
       have hleb : decide (x.length ≤ 4) = true := decide_eq_true hle
       clear hs' hst hch
       go_wp2_with fail
       refine (utf_Chars.calls s _ _ _ HCH.out).mono ?_
       rintro e w2 ⟨v0, rfl, hrow2, hb2⟩
       obtain ⟨A0, c0, rfl, hl0, hr0⟩ := Kd.R_reads hrow2
       have HR2 := Lib.hid hr0
       have HW2 := Lib.hid (HW.out.below hb2)
       have HB2 := Lib.hid (below_then HBw.out HBw.out.size hb2)
       have hsz2 := hb2.size
       clear hrow2 hb2 hr0 hcs HW HBw
       cases ok with
       | false =>
        rw [if_neg (by simp)] at HF1
        have HFF := Lib.hid HF1
        clear HF1 HF
        go_wp2_with (at_builtin; go_must (refine wpList_append_mark _ rfl _ _ 58 rfl w.heap.size 5 i0 (.int .u8 0) 1 Tryz.underlying58 hi0 hz0 hz1 hz2 rfl _ (nums .u8 x) rfl (HW2.out.below ((Below.refl _ _).alloc (Nat.le_refl _) _)) ⟨w2.heap.size, 0, none⟩ (.int .u8 c) rfl ?hu rfl ?h63 ?hby ?hbase ?_))
        case hu => exact heapcell_new w2 _ _
        case h63 => rw [nums_length]; simp only [maxLen]; omega
        case hby => rw [nums_length]; omega
        case hbase => simp; have := HB2.out.size; omega
        intro v' w3 hrow3 hg3
        rw [show nums .u8 x ++ [Value.int .u8 c] = nums .u8 (x ++ [c]) by rw [nums_append]; rfl] at hrow3
        have HR3 := Lib.hid hrow3
        have HB3 := Lib.hid ((HB2.out.alloc HB2.out.size _).grown hg3 (by simp; have := HB2.out.size; omega) (fun k hk => HW2.out.base k hk))
        obtain ⟨g3, cap3, rfl, _⟩ := hrow3.reads (by simp; omega)
        rw [List.length_append, List.length_singleton] at *
        clear hrow3 hg3
        go_wp2
        go_roundw
        case rel => exact ⟨d, x ++ [c], HR3, HFF, by simp; omega, by simp; omega, HB3, by simp [sliceLen]⟩
        case measure => simp [sliceLen]; omega
       | true =>
        by_cases h1 : l.length = 1
        · have h1b : (l.length == 1) = true := beq_iff_eq.2 h1
          rw [if_pos ⟨rfl, h1⟩] at HF1
          have HFF := Lib.hid HF1
          clear HF1 HF
          obtain ⟨n, rfl⟩ : ∃ n, l = [n] := by
           cases l with
           | nil => simp at h1
           | cons a l => cases l with
            | nil => exact ⟨a, rfl⟩
            | cons b l => simp at h1
          obtain ⟨ad, rfl, hca⟩ := Kd.at_int HR2.out 0 (by omega) (by simp)
          have hca2 : w2.cell? ad = some (.int .i64 n) := by
           have : ad.add (0 : Int).toNat = ad := by unfold Addr.add; split <;> simp_all
           rw [this] at hca
           exact hca
          clear hca
          go_wp2
          go_ret2
          have := HFF.out
          simp only [Prod.mk.injEq] at this
          obtain ⟨rfl, rfl⟩ := this
          exact ⟨rfl, HB2.out⟩
        · have h1b : (l.length == 1) = false := beq_eq_false_iff_ne.2 h1
          rw [if_neg (fun h => h1 h.2)] at HF1
          have HFF := Lib.hid HF1
          clear HF1 HF
          go_wp2_with (at_builtin; go_must (refine wpList_append_mark _ rfl _ _ 58 rfl w.heap.size 5 i0 (.int .u8 0) 1 Tryz.underlying58 hi0 hz0 hz1 hz2 rfl _ (nums .u8 x) rfl (HW2.out.below ((Below.refl _ _).alloc (Nat.le_refl _) _)) ⟨w2.heap.size, 0, none⟩ (.int .u8 c) rfl ?hu rfl ?h63 ?hby ?hbase ?_))
          case hu => exact heapcell_new w2 _ _
          case h63 => rw [nums_length]; simp only [maxLen]; omega
          case hby => rw [nums_length]; omega
          case hbase => simp; have := HB2.out.size; omega
          intro v' w3 hrow3 hg3
          rw [show nums .u8 x ++ [Value.int .u8 c] = nums .u8 (x ++ [c]) by rw [nums_append]; rfl] at hrow3
          have HR3 := Lib.hid hrow3
          have HB3 := Lib.hid ((HB2.out.alloc HB2.out.size _).grown hg3 (by simp; have := HB2.out.size; omega) (fun k hk => HW2.out.base k hk))
          obtain ⟨g3, cap3, rfl, _⟩ := hrow3.reads (by simp; omega)
          rw [List.length_append, List.length_singleton] at *
          clear hrow3 hg3
          go_wp2
          go_roundw
          case rel => exact ⟨d, x ++ [c], HR3, HFF, by simp; omega, by simp; omega, HB3, by simp [sliceLen]⟩
          case measure => simp [sliceLen]; omega
    · have hleb : decide (x.length ≤ 4) = false := decide_eq_false hle
      have hz : (0, false) = (r1, r2) := by
       rw [← HF.out]
       cases d with
       | zero => rfl
       | succ d => rw [filledFrom, if_neg hle]
      have HZ := Lib.hid hz
      clear hz
      go_wp2
      go_ret2
      have := HZ.out
      simp only [Prod.mk.injEq] at this
      obtain ⟨rfl, rfl⟩ := this
      exact ⟨rfl, HBw.out⟩
 · cases h
end Go.Proofs.YtkipkbggnfllkaaGreatDoor.P
end
section
namespace Go.Proofs.YtkipkbggnfllkaaGreatDoor.P
open Go.RowKit Go.Proofs.YtkipkbggnfllkaaGreatDoorW.PrintWords Go.Proofs.YtkipkbggnfllkaaGreatDoorW.PrintLast Go.Proofs.YtkipkbggnfllkaaGreatDoorW.PrintMore
attribute [local go_sem] max2_int min2_int max_two min_two max_three min_three max_four min_four
set_option linter.unusedVariables false
set_option linter.unusedSimpArgs false
def ucs_ends.f (a0 : ByteArray) : Option (Int × Int × Bool) := (ucs_filled.f a0 128).bind fun bt363 => ((ucs_filled.f a0 191).bind fun bt365 => (if a0.toList = ([224] : List UInt8) then ((ucs_filled.f (⟨#[224, 160]⟩ : ByteArray) 128).bind fun bt367 => (if bt367.2 = true then (some (bt367.1, bt365.1, bt365.2)) else (some (bt367.1, bt365.1, false)))) else (if a0.toList = ([240] : List UInt8) then ((ucs_filled.f (⟨#[240, 144]⟩ : ByteArray) 128).bind fun bt369 => (if bt369.2 = true then (some (bt369.1, bt365.1, bt365.2)) else (some (bt369.1, bt365.1, false)))) else (if a0.toList = ([237] : List UInt8) then ((ucs_filled.f (⟨#[237, 159]⟩ : ByteArray) 191).bind fun bt371 => (if bt363.2 = true then (some (bt363.1, bt371.1, bt371.2)) else (some (bt363.1, bt371.1, false)))) else (if a0.toList = ([244] : List UInt8) then ((ucs_filled.f (⟨#[244, 143]⟩ : ByteArray) 191).bind fun bt373 => (if bt363.2 = true then (some (bt363.1, bt373.1, bt373.2)) else (some (bt363.1, bt373.1, false)))) else (if bt363.2 = true then (some (bt363.1, bt365.1, bt365.2)) else (some (bt363.1, bt365.1, false))))))))
set_option maxHeartbeats 8000000 in
set_option maxRecDepth 100000 in
theorem ucs_ends.calls (a0 : ByteArray) (r1 : Int) (r2 : Int) (r3 : Bool) (w : World) (h : ucs_ends.f a0 = some (r1, r2, r3)) :
 Calls Tryz.prog 80 #[.string a0] w fun e w' => e = .returned (.tuple #[.int .i64 r1, .int .i64 r2, .bool r3]) ∧ Below w.heap.size w w' := by
 have HB := Aside0.mk (Below.refl w.heap.size w)
 have H : ((ucs_filled.f a0 128).bind fun bt363 => ((ucs_filled.f a0 191).bind fun bt365 => (if a0.toList = ([224] : List UInt8) then ((ucs_filled.f (⟨#[224, 160]⟩ : ByteArray) 128).bind fun bt367 => (if bt367.2 = true then (some (bt367.1, bt365.1, bt365.2)) else (some (bt367.1, bt365.1, false)))) else (if a0.toList = ([240] : List UInt8) then ((ucs_filled.f (⟨#[240, 144]⟩ : ByteArray) 128).bind fun bt369 => (if bt369.2 = true then (some (bt369.1, bt365.1, bt365.2)) else (some (bt369.1, bt365.1, false)))) else (if a0.toList = ([237] : List UInt8) then ((ucs_filled.f (⟨#[237, 159]⟩ : ByteArray) 191).bind fun bt371 => (if bt363.2 = true then (some (bt363.1, bt371.1, bt371.2)) else (some (bt363.1, bt371.1, false)))) else (if a0.toList = ([244] : List UInt8) then ((ucs_filled.f (⟨#[244, 143]⟩ : ByteArray) 191).bind fun bt373 => (if bt363.2 = true then (some (bt363.1, bt373.1, bt373.2)) else (some (bt363.1, bt373.1, false)))) else (if bt363.2 = true then (some (bt363.1, bt365.1, bt365.2)) else (some (bt363.1, bt365.1, false))))))))) = some (r1, r2, r3) := h
 clear h
 replace H := Option.bind_eq_some_iff.mp H
 obtain ⟨⟨t363, t364⟩, A20, H⟩ := H
 replace H : ((ucs_filled.f a0 191).bind fun bt365 => (if a0.toList = ([224] : List UInt8) then ((ucs_filled.f (⟨#[224, 160]⟩ : ByteArray) 128).bind fun bt367 => (if bt367.2 = true then (some (bt367.1, bt365.1, bt365.2)) else (some (bt367.1, bt365.1, false)))) else (if a0.toList = ([240] : List UInt8) then ((ucs_filled.f (⟨#[240, 144]⟩ : ByteArray) 128).bind fun bt369 => (if bt369.2 = true then (some (bt369.1, bt365.1, bt365.2)) else (some (bt369.1, bt365.1, false)))) else (if a0.toList = ([237] : List UInt8) then ((ucs_filled.f (⟨#[237, 159]⟩ : ByteArray) 191).bind fun bt371 => (if t364 = true then (some (t363, bt371.1, bt371.2)) else (some (t363, bt371.1, false)))) else (if a0.toList = ([244] : List UInt8) then ((ucs_filled.f (⟨#[244, 143]⟩ : ByteArray) 191).bind fun bt373 => (if t364 = true then (some (t363, bt373.1, bt373.2)) else (some (t363, bt373.1, false)))) else (if t364 = true then (some (t363, bt365.1, bt365.2)) else (some (t363, bt365.1, false)))))))) = some (r1, r2, r3) := H
 have A2 := Aside0.mk A20
 clear A20
 replace H := Option.bind_eq_some_iff.mp H
 obtain ⟨⟨t365, t366⟩, A30, H⟩ := H
 replace H : (if a0.toList = ([224] : List UInt8) then ((ucs_filled.f (⟨#[224, 160]⟩ : ByteArray) 128).bind fun bt367 => (if bt367.2 = true then (some (bt367.1, t365, t366)) else (some (bt367.1, t365, false)))) else (if a0.toList = ([240] : List UInt8) then ((ucs_filled.f (⟨#[240, 144]⟩ : ByteArray) 128).bind fun bt369 => (if bt369.2 = true then (some (bt369.1, t365, t366)) else (some (bt369.1, t365, false)))) else (if a0.toList = ([237] : List UInt8) then ((ucs_filled.f (⟨#[237, 159]⟩ : ByteArray) 191).bind fun bt371 => (if t364 = true then (some (t363, bt371.1, bt371.2)) else (some (t363, bt371.1, false)))) else (if a0.toList = ([244] : List UInt8) then ((ucs_filled.f (⟨#[244, 143]⟩ : ByteArray) 191).bind fun bt373 => (if t364 = true then (some (t363, bt373.1, bt373.2)) else (some (t363, bt373.1, false)))) else (if t364 = true then (some (t363, t365, t366)) else (some (t363, t365, false))))))) = some (r1, r2, r3) := H
 have A3 := Aside0.mk A30
 clear A30
 by_cases c4 : a0.toList = ([224] : List UInt8)
 · rw [if_pos c4] at H
   have c4b0 : (a0.toList == ([224] : List UInt8)) = true := beq_iff_eq.mpr c4
   have c4b1 : (a0.toList != ([224] : List UInt8)) = false := bne_eq_false_iff_eq.mpr c4
   clear c4
   replace H := Option.bind_eq_some_iff.mp H
   obtain ⟨⟨t367, t368⟩, A50, H⟩ := H
   replace H : (if t368 = true then (some (t367, t365, t366)) else (some (t367, t365, false))) = some (r1, r2, r3) := H
   have A5 := Aside0.mk A50
   clear A50
   by_cases c6 : t368 = true
   · subst c6
     have H1 : (some (t367, t365, t366)) = some (r1, r2, r3) := by rw [if_pos rfl] at H; exact H
     clear H
     have H := H1
     clear H1
     simp only [Option.some.injEq, Prod.mk.injEq] at H
     obtain ⟨rfl, rfl, rfl⟩ := H
     go_enter Tryz.func80, Tryz.ntmps80
     go_wp2_with (first | ((with_reducible refine gate_callee (f := 98) rfl ?_); refine goesL_ (some 11) rfl rfl Tryz.func98 (by kernel_rfl) rfl #[.string a0, .int .u8 128] rfl (by (try simp only [List.map_toArray, List.map_cons, List.map_nil]); first | done | rfl | (simp only [List.length_drop, List.length_take]; rfl)) ?_; (with_reducible refine (ucs_filled.calls a0 128 t363 t364 _ A2.out).mono ?_); rintro e w7 ⟨rfl, hb⟩; refine ⟨_, rfl, ?_⟩; have n0_ := Aside0.mk (below_step (by repeat (first | (with_reducible first | exact HB.out | apply below_alloc | apply pw_below_drewN | apply below_drew1) | exact HB.out)) hb); clear HB; have HB := n0_; clear n0_; (try clear hb); (try clear hb2); (try clear hk); (try clear hi)) | ((with_reducible refine gate_callee (f := 98) rfl ?_); refine goesL_ (some 16) rfl rfl Tryz.func98 (by kernel_rfl) rfl #[.string a0, .int .u8 191] rfl (by (try simp only [List.map_toArray, List.map_cons, List.map_nil]); first | done | rfl | (simp only [List.length_drop, List.length_take]; rfl)) ?_; (with_reducible refine (ucs_filled.calls a0 191 t365 t366 _ A3.out).mono ?_); rintro e w8 ⟨rfl, hb⟩; refine ⟨_, rfl, ?_⟩; have n0_ := Aside0.mk (below_step (by repeat (first | (with_reducible first | exact HB.out | apply below_alloc | apply pw_below_drewN | apply below_drew1) | exact HB.out)) hb); clear HB; have HB := n0_; clear n0_; (try clear hb); (try clear hb2); (try clear hk); (try clear hi)) | ((with_reducible refine gate_callee (f := 98) rfl ?_); refine goesL_ (some 23) rfl rfl Tryz.func98 (by kernel_rfl) rfl #[.string (⟨#[224, 160]⟩ : ByteArray), .int .u8 128] rfl (by (try simp only [List.map_toArray, List.map_cons, List.map_nil]); first | done | rfl | (simp only [List.length_drop, List.length_take]; rfl)) ?_; (with_reducible refine (ucs_filled.calls (⟨#[224, 160]⟩ : ByteArray) 128 t367 true _ A5.out).mono ?_); rintro e w9 ⟨rfl, hb⟩; refine ⟨_, rfl, ?_⟩; have n0_ := Aside0.mk (below_step (by repeat (first | (with_reducible first | exact HB.out | apply below_alloc | apply pw_below_drewN | apply below_drew1) | exact HB.out)) hb); clear HB; have HB := n0_; clear n0_; (try clear hb); (try clear hb2); (try clear hk); (try clear hi)))
     go_ret3
     exact ⟨by first | rfl | (simp [errW_none, errW_some] <;> rfl) | (simp [*, errW_none, errW_some] <;> rfl), by repeat (first | (with_reducible first | exact HB.out | apply below_alloc | apply pw_below_drewN | apply below_drew1) | exact HB.out)⟩
   · replace c6 := Bool.eq_false_iff.mpr c6
     subst c6
     have H1 : (some (t367, t365, false)) = some (r1, r2, r3) := by rw [if_neg (show ¬ (false = true) by decide)] at H; exact H
     clear H
     have H := H1
     clear H1
     simp only [Option.some.injEq, Prod.mk.injEq] at H
     obtain ⟨rfl, rfl, rfl⟩ := H
     go_enter Tryz.func80, Tryz.ntmps80
     go_wp2_with (first | ((with_reducible refine gate_callee (f := 98) rfl ?_); refine goesL_ (some 11) rfl rfl Tryz.func98 (by kernel_rfl) rfl #[.string a0, .int .u8 128] rfl (by (try simp only [List.map_toArray, List.map_cons, List.map_nil]); first | done | rfl | (simp only [List.length_drop, List.length_take]; rfl)) ?_; (with_reducible refine (ucs_filled.calls a0 128 t363 t364 _ A2.out).mono ?_); rintro e w10 ⟨rfl, hb⟩; refine ⟨_, rfl, ?_⟩; have n0_ := Aside0.mk (below_step (by repeat (first | (with_reducible first | exact HB.out | apply below_alloc | apply pw_below_drewN | apply below_drew1) | exact HB.out)) hb); clear HB; have HB := n0_; clear n0_; (try clear hb); (try clear hb2); (try clear hk); (try clear hi)) | ((with_reducible refine gate_callee (f := 98) rfl ?_); refine goesL_ (some 16) rfl rfl Tryz.func98 (by kernel_rfl) rfl #[.string a0, .int .u8 191] rfl (by (try simp only [List.map_toArray, List.map_cons, List.map_nil]); first | done | rfl | (simp only [List.length_drop, List.length_take]; rfl)) ?_; (with_reducible refine (ucs_filled.calls a0 191 t365 t366 _ A3.out).mono ?_); rintro e w11 ⟨rfl, hb⟩; refine ⟨_, rfl, ?_⟩; have n0_ := Aside0.mk (below_step (by repeat (first | (with_reducible first | exact HB.out | apply below_alloc | apply pw_below_drewN | apply below_drew1) | exact HB.out)) hb); clear HB; have HB := n0_; clear n0_; (try clear hb); (try clear hb2); (try clear hk); (try clear hi)) | ((with_reducible refine gate_callee (f := 98) rfl ?_); refine goesL_ (some 23) rfl rfl Tryz.func98 (by kernel_rfl) rfl #[.string (⟨#[224, 160]⟩ : ByteArray), .int .u8 128] rfl (by (try simp only [List.map_toArray, List.map_cons, List.map_nil]); first | done | rfl | (simp only [List.length_drop, List.length_take]; rfl)) ?_; (with_reducible refine (ucs_filled.calls (⟨#[224, 160]⟩ : ByteArray) 128 t367 false _ A5.out).mono ?_); rintro e w12 ⟨rfl, hb⟩; refine ⟨_, rfl, ?_⟩; have n0_ := Aside0.mk (below_step (by repeat (first | (with_reducible first | exact HB.out | apply below_alloc | apply pw_below_drewN | apply below_drew1) | exact HB.out)) hb); clear HB; have HB := n0_; clear n0_; (try clear hb); (try clear hb2); (try clear hk); (try clear hi)))
     go_ret3
     exact ⟨by first | rfl | (simp [errW_none, errW_some] <;> rfl) | (simp [*, errW_none, errW_some] <;> rfl), by repeat (first | (with_reducible first | exact HB.out | apply below_alloc | apply pw_below_drewN | apply below_drew1) | exact HB.out)⟩
 · rw [if_neg c4] at H
   have c4b0 : (a0.toList == ([224] : List UInt8)) = false := beq_eq_false_iff_ne.mpr c4
   have c4b1 : (a0.toList != ([224] : List UInt8)) = true := bne_iff_ne.mpr c4
   by_cases c13 : a0.toList = ([240] : List UInt8)
   · rw [if_pos c13] at H
     have c13b0 : (a0.toList == ([240] : List UInt8)) = true := beq_iff_eq.mpr c13
     have c13b1 : (a0.toList != ([240] : List UInt8)) = false := bne_eq_false_iff_eq.mpr c13
     clear c13
     replace H := Option.bind_eq_some_iff.mp H
     obtain ⟨⟨t369, t370⟩, A140, H⟩ := H
     replace H : (if t370 = true then (some (t369, t365, t366)) else (some (t369, t365, false))) = some (r1, r2, r3) := H
     have A14 := Aside0.mk A140
     clear A140
     by_cases c15 : t370 = true
     · subst c15
       have H1 : (some (t369, t365, t366)) = some (r1, r2, r3) := by rw [if_pos rfl] at H; exact H
       clear H
       have H := H1
       clear H1
       simp only [Option.some.injEq, Prod.mk.injEq] at H
       obtain ⟨rfl, rfl, rfl⟩ := H
       go_enter Tryz.func80, Tryz.ntmps80
       go_wp2_with (first | ((with_reducible refine gate_callee (f := 98) rfl ?_); refine goesL_ (some 11) rfl rfl Tryz.func98 (by kernel_rfl) rfl #[.string a0, .int .u8 128] rfl (by (try simp only [List.map_toArray, List.map_cons, List.map_nil]); first | done | rfl | (simp only [List.length_drop, List.length_take]; rfl)) ?_; (with_reducible refine (ucs_filled.calls a0 128 t363 t364 _ A2.out).mono ?_); rintro e w16 ⟨rfl, hb⟩; refine ⟨_, rfl, ?_⟩; have n0_ := Aside0.mk (below_step (by repeat (first | (with_reducible first | exact HB.out | apply below_alloc | apply pw_below_drewN | apply below_drew1) | exact HB.out)) hb); clear HB; have HB := n0_; clear n0_; (try clear hb); (try clear hb2); (try clear hk); (try clear hi)) | ((with_reducible refine gate_callee (f := 98) rfl ?_); refine goesL_ (some 16) rfl rfl Tryz.func98 (by kernel_rfl) rfl #[.string a0, .int .u8 191] rfl (by (try simp only [List.map_toArray, List.map_cons, List.map_nil]); first | done | rfl | (simp only [List.length_drop, List.length_take]; rfl)) ?_; (with_reducible refine (ucs_filled.calls a0 191 t365 t366 _ A3.out).mono ?_); rintro e w17 ⟨rfl, hb⟩; refine ⟨_, rfl, ?_⟩; have n0_ := Aside0.mk (below_step (by repeat (first | (with_reducible first | exact HB.out | apply below_alloc | apply pw_below_drewN | apply below_drew1) | exact HB.out)) hb); clear HB; have HB := n0_; clear n0_; (try clear hb); (try clear hb2); (try clear hk); (try clear hi)) | ((with_reducible refine gate_callee (f := 98) rfl ?_); refine goesL_ (some 29) rfl rfl Tryz.func98 (by kernel_rfl) rfl #[.string (⟨#[240, 144]⟩ : ByteArray), .int .u8 128] rfl (by (try simp only [List.map_toArray, List.map_cons, List.map_nil]); first | done | rfl | (simp only [List.length_drop, List.length_take]; rfl)) ?_; (with_reducible refine (ucs_filled.calls (⟨#[240, 144]⟩ : ByteArray) 128 t369 true _ A14.out).mono ?_); rintro e w18 ⟨rfl, hb⟩; refine ⟨_, rfl, ?_⟩; have n0_ := Aside0.mk (below_step (by repeat (first | (with_reducible first | exact HB.out | apply below_alloc | apply pw_below_drewN | apply below_drew1) | exact HB.out)) hb); clear HB; have HB := n0_; clear n0_; (try clear hb); (try clear hb2); (try clear hk); (try clear hi)))
       go_ret3
       exact ⟨by first | rfl | (simp [errW_none, errW_some] <;> rfl) | (simp [*, errW_none, errW_some] <;> rfl), by repeat (first | (with_reducible first | exact HB.out | apply below_alloc | apply pw_below_drewN | apply below_drew1) | exact HB.out)⟩
     · replace c15 := Bool.eq_false_iff.mpr c15
       subst c15
       have H1 : (some (t369, t365, false)) = some (r1, r2, r3) := by rw [if_neg (show ¬ (false = true) by decide)] at H; exact H
       clear H
       have H := H1
       clear H1
       simp only [Option.some.injEq, Prod.mk.injEq] at H
       obtain ⟨rfl, rfl, rfl⟩ := H
       go_enter Tryz.func80, Tryz.ntmps80
       go_wp2_with (first | ((with_reducible refine gate_callee (f := 98) rfl ?_); refine goesL_ (some 11) rfl rfl Tryz.func98 (by kernel_rfl) rfl #[.string a0, .int .u8 128] rfl (by (try simp only [List.map_toArray, List.map_cons, List.map_nil]); first | done | rfl | (simp only [List.length_drop, List.length_take]; rfl)) ?_; (with_reducible refine (ucs_filled.calls a0 128 t363 t364 _ A2.out).mono ?_); rintro e w19 ⟨rfl, hb⟩; refine ⟨_, rfl, ?_⟩; have n0_ := Aside0.mk (below_step (by repeat (first | (with_reducible first | exact HB.out | apply below_alloc | apply pw_below_drewN | apply below_drew1) | exact HB.out)) hb); clear HB; have HB := n0_; clear n0_; (try clear hb); (try clear hb2); (try clear hk); (try clear hi)) | ((with_reducible refine gate_callee (f := 98) rfl ?_); refine goesL_ (some 16) rfl rfl Tryz.func98 (by kernel_rfl) rfl #[.string a0, .int .u8 191] rfl (by (try simp only [List.map_toArray, List.map_cons, List.map_nil]); first | done | rfl | (simp only [List.length_drop, List.length_take]; rfl)) ?_; (with_reducible refine (ucs_filled.calls a0 191 t365 t366 _ A3.out).mono ?_); rintro e w20 ⟨rfl, hb⟩; refine ⟨_, rfl, ?_⟩; have n0_ := Aside0.mk (below_step (by repeat (first | (with_reducible first | exact HB.out | apply below_alloc | apply pw_below_drewN | apply below_drew1) | exact HB.out)) hb); clear HB; have HB := n0_; clear n0_; (try clear hb); (try clear hb2); (try clear hk); (try clear hi)) | ((with_reducible refine gate_callee (f := 98) rfl ?_); refine goesL_ (some 29) rfl rfl Tryz.func98 (by kernel_rfl) rfl #[.string (⟨#[240, 144]⟩ : ByteArray), .int .u8 128] rfl (by (try simp only [List.map_toArray, List.map_cons, List.map_nil]); first | done | rfl | (simp only [List.length_drop, List.length_take]; rfl)) ?_; (with_reducible refine (ucs_filled.calls (⟨#[240, 144]⟩ : ByteArray) 128 t369 false _ A14.out).mono ?_); rintro e w21 ⟨rfl, hb⟩; refine ⟨_, rfl, ?_⟩; have n0_ := Aside0.mk (below_step (by repeat (first | (with_reducible first | exact HB.out | apply below_alloc | apply pw_below_drewN | apply below_drew1) | exact HB.out)) hb); clear HB; have HB := n0_; clear n0_; (try clear hb); (try clear hb2); (try clear hk); (try clear hi)))
       go_ret3
       exact ⟨by first | rfl | (simp [errW_none, errW_some] <;> rfl) | (simp [*, errW_none, errW_some] <;> rfl), by repeat (first | (with_reducible first | exact HB.out | apply below_alloc | apply pw_below_drewN | apply below_drew1) | exact HB.out)⟩
   · rw [if_neg c13] at H
     have c13b0 : (a0.toList == ([240] : List UInt8)) = false := beq_eq_false_iff_ne.mpr c13
     have c13b1 : (a0.toList != ([240] : List UInt8)) = true := bne_iff_ne.mpr c13
     by_cases c22 : a0.toList = ([237] : List UInt8)
     · rw [if_pos c22] at H
       have c22b0 : (a0.toList == ([237] : List UInt8)) = true := beq_iff_eq.mpr c22
       have c22b1 : (a0.toList != ([237] : List UInt8)) = false := bne_eq_false_iff_eq.mpr c22
       clear c22
       replace H := Option.bind_eq_some_iff.mp H
       obtain ⟨⟨t371, t372⟩, A230, H⟩ := H
       replace H : (if t364 = true then (some (t363, t371, t372)) else (some (t363, t371, false))) = some (r1, r2, r3) := H
       have A23 := Aside0.mk A230
       clear A230
       by_cases c24 : t364 = true
       · subst c24
         have H1 : (some (t363, t371, t372)) = some (r1, r2, r3) := by rw [if_pos rfl] at H; exact H
         clear H
         have H := H1
         clear H1
         simp only [Option.some.injEq, Prod.mk.injEq] at H
         obtain ⟨rfl, rfl, rfl⟩ := H
         go_enter Tryz.func80, Tryz.ntmps80
         go_wp2_with (first | ((with_reducible refine gate_callee (f := 98) rfl ?_); refine goesL_ (some 11) rfl rfl Tryz.func98 (by kernel_rfl) rfl #[.string a0, .int .u8 128] rfl (by (try simp only [List.map_toArray, List.map_cons, List.map_nil]); first | done | rfl | (simp only [List.length_drop, List.length_take]; rfl)) ?_; (with_reducible refine (ucs_filled.calls a0 128 t363 true _ A2.out).mono ?_); rintro e w25 ⟨rfl, hb⟩; refine ⟨_, rfl, ?_⟩; have n0_ := Aside0.mk (below_step (by repeat (first | (with_reducible first | exact HB.out | apply below_alloc | apply pw_below_drewN | apply below_drew1) | exact HB.out)) hb); clear HB; have HB := n0_; clear n0_; (try clear hb); (try clear hb2); (try clear hk); (try clear hi)) | ((with_reducible refine gate_callee (f := 98) rfl ?_); refine goesL_ (some 16) rfl rfl Tryz.func98 (by kernel_rfl) rfl #[.string a0, .int .u8 191] rfl (by (try simp only [List.map_toArray, List.map_cons, List.map_nil]); first | done | rfl | (simp only [List.length_drop, List.length_take]; rfl)) ?_; (with_reducible refine (ucs_filled.calls a0 191 t365 t366 _ A3.out).mono ?_); rintro e w26 ⟨rfl, hb⟩; refine ⟨_, rfl, ?_⟩; have n0_ := Aside0.mk (below_step (by repeat (first | (with_reducible first | exact HB.out | apply below_alloc | apply pw_below_drewN | apply below_drew1) | exact HB.out)) hb); clear HB; have HB := n0_; clear n0_; (try clear hb); (try clear hb2); (try clear hk); (try clear hi)) | ((with_reducible refine gate_callee (f := 98) rfl ?_); refine goesL_ (some 35) rfl rfl Tryz.func98 (by kernel_rfl) rfl #[.string (⟨#[237, 159]⟩ : ByteArray), .int .u8 191] rfl (by (try simp only [List.map_toArray, List.map_cons, List.map_nil]); first | done | rfl | (simp only [List.length_drop, List.length_take]; rfl)) ?_; (with_reducible refine (ucs_filled.calls (⟨#[237, 159]⟩ : ByteArray) 191 t371 t372 _ A23.out).mono ?_); rintro e w27 ⟨rfl, hb⟩; refine ⟨_, rfl, ?_⟩; have n0_ := Aside0.mk (below_step (by repeat (first | (with_reducible first | exact HB.out | apply below_alloc | apply pw_below_drewN | apply below_drew1) | exact HB.out)) hb); clear HB; have HB := n0_; clear n0_; (try clear hb); (try clear hb2); (try clear hk); (try clear hi)))
         go_ret3
         exact ⟨by first | rfl | (simp [errW_none, errW_some] <;> rfl) | (simp [*, errW_none, errW_some] <;> rfl), by repeat (first | (with_reducible first | exact HB.out | apply below_alloc | apply pw_below_drewN | apply below_drew1) | exact HB.out)⟩
       · replace c24 := Bool.eq_false_iff.mpr c24
         subst c24
         have H1 : (some (t363, t371, false)) = some (r1, r2, r3) := by rw [if_neg (show ¬ (false = true) by decide)] at H; exact H
         clear H
         have H := H1
         clear H1
         simp only [Option.some.injEq, Prod.mk.injEq] at H
         obtain ⟨rfl, rfl, rfl⟩ := H
         go_enter Tryz.func80, Tryz.ntmps80
         go_wp2_with (first | ((with_reducible refine gate_callee (f := 98) rfl ?_); refine goesL_ (some 11) rfl rfl Tryz.func98 (by kernel_rfl) rfl #[.string a0, .int .u8 128] rfl (by (try simp only [List.map_toArray, List.map_cons, List.map_nil]); first | done | rfl | (simp only [List.length_drop, List.length_take]; rfl)) ?_; (with_reducible refine (ucs_filled.calls a0 128 t363 false _ A2.out).mono ?_); rintro e w28 ⟨rfl, hb⟩; refine ⟨_, rfl, ?_⟩; have n0_ := Aside0.mk (below_step (by repeat (first | (with_reducible first | exact HB.out | apply below_alloc | apply pw_below_drewN | apply below_drew1) | exact HB.out)) hb); clear HB; have HB := n0_; clear n0_; (try clear hb); (try clear hb2); (try clear hk); (try clear hi)) | ((with_reducible refine gate_callee (f := 98) rfl ?_); refine goesL_ (some 16) rfl rfl Tryz.func98 (by kernel_rfl) rfl #[.string a0, .int .u8 191] rfl (by (try simp only [List.map_toArray, List.map_cons, List.map_nil]); first | done | rfl | (simp only [List.length_drop, List.length_take]; rfl)) ?_; (with_reducible refine (ucs_filled.calls a0 191 t365 t366 _ A3.out).mono ?_); rintro e w29 ⟨rfl, hb⟩; refine ⟨_, rfl, ?_⟩; have n0_ := Aside0.mk (below_step (by repeat (first | (with_reducible first | exact HB.out | apply below_alloc | apply pw_below_drewN | apply below_drew1) | exact HB.out)) hb); clear HB; have HB := n0_; clear n0_; (try clear hb); (try clear hb2); (try clear hk); (try clear hi)) | ((with_reducible refine gate_callee (f := 98) rfl ?_); refine goesL_ (some 35) rfl rfl Tryz.func98 (by kernel_rfl) rfl #[.string (⟨#[237, 159]⟩ : ByteArray), .int .u8 191] rfl (by (try simp only [List.map_toArray, List.map_cons, List.map_nil]); first | done | rfl | (simp only [List.length_drop, List.length_take]; rfl)) ?_; (with_reducible refine (ucs_filled.calls (⟨#[237, 159]⟩ : ByteArray) 191 t371 t372 _ A23.out).mono ?_); rintro e w30 ⟨rfl, hb⟩; refine ⟨_, rfl, ?_⟩; have n0_ := Aside0.mk (below_step (by repeat (first | (with_reducible first | exact HB.out | apply below_alloc | apply pw_below_drewN | apply below_drew1) | exact HB.out)) hb); clear HB; have HB := n0_; clear n0_; (try clear hb); (try clear hb2); (try clear hk); (try clear hi)))
         go_ret3
         exact ⟨by first | rfl | (simp [errW_none, errW_some] <;> rfl) | (simp [*, errW_none, errW_some] <;> rfl), by repeat (first | (with_reducible first | exact HB.out | apply below_alloc | apply pw_below_drewN | apply below_drew1) | exact HB.out)⟩
     · rw [if_neg c22] at H
       have c22b0 : (a0.toList == ([237] : List UInt8)) = false := beq_eq_false_iff_ne.mpr c22
       have c22b1 : (a0.toList != ([237] : List UInt8)) = true := bne_iff_ne.mpr c22
       by_cases c31 : a0.toList = ([244] : List UInt8)
       · rw [if_pos c31] at H
         have c31b0 : (a0.toList == ([244] : List UInt8)) = true := beq_iff_eq.mpr c31
         have c31b1 : (a0.toList != ([244] : List UInt8)) = false := bne_eq_false_iff_eq.mpr c31
         clear c31
         replace H := Option.bind_eq_some_iff.mp H
         obtain ⟨⟨t373, t374⟩, A320, H⟩ := H
         replace H : (if t364 = true then (some (t363, t373, t374)) else (some (t363, t373, false))) = some (r1, r2, r3) := H
         have A32 := Aside0.mk A320
         clear A320
         by_cases c33 : t364 = true
         · subst c33
           have H1 : (some (t363, t373, t374)) = some (r1, r2, r3) := by rw [if_pos rfl] at H; exact H
           clear H
           have H := H1
           clear H1
           simp only [Option.some.injEq, Prod.mk.injEq] at H
           obtain ⟨rfl, rfl, rfl⟩ := H
           go_enter Tryz.func80, Tryz.ntmps80
           go_wp2_with (first | ((with_reducible refine gate_callee (f := 98) rfl ?_); refine goesL_ (some 11) rfl rfl Tryz.func98 (by kernel_rfl) rfl #[.string a0, .int .u8 128] rfl (by (try simp only [List.map_toArray, List.map_cons, List.map_nil]); first | done | rfl | (simp only [List.length_drop, List.length_take]; rfl)) ?_; (with_reducible refine (ucs_filled.calls a0 128 t363 true _ A2.out).mono ?_); rintro e w34 ⟨rfl, hb⟩; refine ⟨_, rfl, ?_⟩; have n0_ := Aside0.mk (below_step (by repeat (first | (with_reducible first | exact HB.out | apply below_alloc | apply pw_below_drewN | apply below_drew1) | exact HB.out)) hb); clear HB; have HB := n0_; clear n0_; (try clear hb); (try clear hb2); (try clear hk); (try clear hi)) | ((with_reducible refine gate_callee (f := 98) rfl ?_); refine goesL_ (some 16) rfl rfl Tryz.func98 (by kernel_rfl) rfl #[.string a0, .int .u8 191] rfl (by (try simp only [List.map_toArray, List.map_cons, List.map_nil]); first | done | rfl | (simp only [List.length_drop, List.length_take]; rfl)) ?_; (with_reducible refine (ucs_filled.calls a0 191 t365 t366 _ A3.out).mono ?_); rintro e w35 ⟨rfl, hb⟩; refine ⟨_, rfl, ?_⟩; have n0_ := Aside0.mk (below_step (by repeat (first | (with_reducible first | exact HB.out | apply below_alloc | apply pw_below_drewN | apply below_drew1) | exact HB.out)) hb); clear HB; have HB := n0_; clear n0_; (try clear hb); (try clear hb2); (try clear hk); (try clear hi)) | ((with_reducible refine gate_callee (f := 98) rfl ?_); refine goesL_ (some 41) rfl rfl Tryz.func98 (by kernel_rfl) rfl #[.string (⟨#[244, 143]⟩ : ByteArray), .int .u8 191] rfl (by (try simp only [List.map_toArray, List.map_cons, List.map_nil]); first | done | rfl | (simp only [List.length_drop, List.length_take]; rfl)) ?_; (with_reducible refine (ucs_filled.calls (⟨#[244, 143]⟩ : ByteArray) 191 t373 t374 _ A32.out).mono ?_); rintro e w36 ⟨rfl, hb⟩; refine ⟨_, rfl, ?_⟩; have n0_ := Aside0.mk (below_step (by repeat (first | (with_reducible first | exact HB.out | apply below_alloc | apply pw_below_drewN | apply below_drew1) | exact HB.out)) hb); clear HB; have HB := n0_; clear n0_; (try clear hb); (try clear hb2); (try clear hk); (try clear hi)))
           go_ret3
           exact ⟨by first | rfl | (simp [errW_none, errW_some] <;> rfl) | (simp [*, errW_none, errW_some] <;> rfl), by repeat (first | (with_reducible first | exact HB.out | apply below_alloc | apply pw_below_drewN | apply below_drew1) | exact HB.out)⟩
         · replace c33 := Bool.eq_false_iff.mpr c33
           subst c33
           have H1 : (some (t363, t373, false)) = some (r1, r2, r3) := by rw [if_neg (show ¬ (false = true) by decide)] at H; exact H
           clear H
           have H := H1
           clear H1
           simp only [Option.some.injEq, Prod.mk.injEq] at H
           obtain ⟨rfl, rfl, rfl⟩ := H
           go_enter Tryz.func80, Tryz.ntmps80
           go_wp2_with (first | ((with_reducible refine gate_callee (f := 98) rfl ?_); refine goesL_ (some 11) rfl rfl Tryz.func98 (by kernel_rfl) rfl #[.string a0, .int .u8 128] rfl (by (try simp only [List.map_toArray, List.map_cons, List.map_nil]); first | done | rfl | (simp only [List.length_drop, List.length_take]; rfl)) ?_; (with_reducible refine (ucs_filled.calls a0 128 t363 false _ A2.out).mono ?_); rintro e w37 ⟨rfl, hb⟩; refine ⟨_, rfl, ?_⟩; have n0_ := Aside0.mk (below_step (by repeat (first | (with_reducible first | exact HB.out | apply below_alloc | apply pw_below_drewN | apply below_drew1) | exact HB.out)) hb); clear HB; have HB := n0_; clear n0_; (try clear hb); (try clear hb2); (try clear hk); (try clear hi)) | ((with_reducible refine gate_callee (f := 98) rfl ?_); refine goesL_ (some 16) rfl rfl Tryz.func98 (by kernel_rfl) rfl #[.string a0, .int .u8 191] rfl (by (try simp only [List.map_toArray, List.map_cons, List.map_nil]); first | done | rfl | (simp only [List.length_drop, List.length_take]; rfl)) ?_; (with_reducible refine (ucs_filled.calls a0 191 t365 t366 _ A3.out).mono ?_); rintro e w38 ⟨rfl, hb⟩; refine ⟨_, rfl, ?_⟩; have n0_ := Aside0.mk (below_step (by repeat (first | (with_reducible first | exact HB.out | apply below_alloc | apply pw_below_drewN | apply below_drew1) | exact HB.out)) hb); clear HB; have HB := n0_; clear n0_; (try clear hb); (try clear hb2); (try clear hk); (try clear hi)) | ((with_reducible refine gate_callee (f := 98) rfl ?_); refine goesL_ (some 41) rfl rfl Tryz.func98 (by kernel_rfl) rfl #[.string (⟨#[244, 143]⟩ : ByteArray), .int .u8 191] rfl (by (try simp only [List.map_toArray, List.map_cons, List.map_nil]); first | done | rfl | (simp only [List.length_drop, List.length_take]; rfl)) ?_; (with_reducible refine (ucs_filled.calls (⟨#[244, 143]⟩ : ByteArray) 191 t373 t374 _ A32.out).mono ?_); rintro e w39 ⟨rfl, hb⟩; refine ⟨_, rfl, ?_⟩; have n0_ := Aside0.mk (below_step (by repeat (first | (with_reducible first | exact HB.out | apply below_alloc | apply pw_below_drewN | apply below_drew1) | exact HB.out)) hb); clear HB; have HB := n0_; clear n0_; (try clear hb); (try clear hb2); (try clear hk); (try clear hi)))
           go_ret3
           exact ⟨by first | rfl | (simp [errW_none, errW_some] <;> rfl) | (simp [*, errW_none, errW_some] <;> rfl), by repeat (first | (with_reducible first | exact HB.out | apply below_alloc | apply pw_below_drewN | apply below_drew1) | exact HB.out)⟩
       · rw [if_neg c31] at H
         have c31b0 : (a0.toList == ([244] : List UInt8)) = false := beq_eq_false_iff_ne.mpr c31
         have c31b1 : (a0.toList != ([244] : List UInt8)) = true := bne_iff_ne.mpr c31
         by_cases c40 : t364 = true
         · subst c40
           have H1 : (some (t363, t365, t366)) = some (r1, r2, r3) := by rw [if_pos rfl] at H; exact H
           clear H
           have H := H1
           clear H1
           simp only [Option.some.injEq, Prod.mk.injEq] at H
           obtain ⟨rfl, rfl, rfl⟩ := H
           go_enter Tryz.func80, Tryz.ntmps80
           go_wp2_with (first | ((with_reducible refine gate_callee (f := 98) rfl ?_); refine goesL_ (some 11) rfl rfl Tryz.func98 (by kernel_rfl) rfl #[.string a0, .int .u8 128] rfl (by (try simp only [List.map_toArray, List.map_cons, List.map_nil]); first | done | rfl | (simp only [List.length_drop, List.length_take]; rfl)) ?_; (with_reducible refine (ucs_filled.calls a0 128 t363 true _ A2.out).mono ?_); rintro e w41 ⟨rfl, hb⟩; refine ⟨_, rfl, ?_⟩; have n0_ := Aside0.mk (below_step (by repeat (first | (with_reducible first | exact HB.out | apply below_alloc | apply pw_below_drewN | apply below_drew1) | exact HB.out)) hb); clear HB; have HB := n0_; clear n0_; (try clear hb); (try clear hb2); (try clear hk); (try clear hi)) | ((with_reducible refine gate_callee (f := 98) rfl ?_); refine goesL_ (some 16) rfl rfl Tryz.func98 (by kernel_rfl) rfl #[.string a0, .int .u8 191] rfl (by (try simp only [List.map_toArray, List.map_cons, List.map_nil]); first | done | rfl | (simp only [List.length_drop, List.length_take]; rfl)) ?_; (with_reducible refine (ucs_filled.calls a0 191 t365 t366 _ A3.out).mono ?_); rintro e w42 ⟨rfl, hb⟩; refine ⟨_, rfl, ?_⟩; have n0_ := Aside0.mk (below_step (by repeat (first | (with_reducible first | exact HB.out | apply below_alloc | apply pw_below_drewN | apply below_drew1) | exact HB.out)) hb); clear HB; have HB := n0_; clear n0_; (try clear hb); (try clear hb2); (try clear hk); (try clear hi)))
           go_ret3
           exact ⟨by first | rfl | (simp [errW_none, errW_some] <;> rfl) | (simp [*, errW_none, errW_some] <;> rfl), by repeat (first | (with_reducible first | exact HB.out | apply below_alloc | apply pw_below_drewN | apply below_drew1) | exact HB.out)⟩
         · replace c40 := Bool.eq_false_iff.mpr c40
           subst c40
           have H1 : (some (t363, t365, false)) = some (r1, r2, r3) := by rw [if_neg (show ¬ (false = true) by decide)] at H; exact H
           clear H
           have H := H1
           clear H1
           simp only [Option.some.injEq, Prod.mk.injEq] at H
           obtain ⟨rfl, rfl, rfl⟩ := H
           go_enter Tryz.func80, Tryz.ntmps80
           go_wp2_with (first | ((with_reducible refine gate_callee (f := 98) rfl ?_); refine goesL_ (some 11) rfl rfl Tryz.func98 (by kernel_rfl) rfl #[.string a0, .int .u8 128] rfl (by (try simp only [List.map_toArray, List.map_cons, List.map_nil]); first | done | rfl | (simp only [List.length_drop, List.length_take]; rfl)) ?_; (with_reducible refine (ucs_filled.calls a0 128 t363 false _ A2.out).mono ?_); rintro e w43 ⟨rfl, hb⟩; refine ⟨_, rfl, ?_⟩; have n0_ := Aside0.mk (below_step (by repeat (first | (with_reducible first | exact HB.out | apply below_alloc | apply pw_below_drewN | apply below_drew1) | exact HB.out)) hb); clear HB; have HB := n0_; clear n0_; (try clear hb); (try clear hb2); (try clear hk); (try clear hi)) | ((with_reducible refine gate_callee (f := 98) rfl ?_); refine goesL_ (some 16) rfl rfl Tryz.func98 (by kernel_rfl) rfl #[.string a0, .int .u8 191] rfl (by (try simp only [List.map_toArray, List.map_cons, List.map_nil]); first | done | rfl | (simp only [List.length_drop, List.length_take]; rfl)) ?_; (with_reducible refine (ucs_filled.calls a0 191 t365 t366 _ A3.out).mono ?_); rintro e w44 ⟨rfl, hb⟩; refine ⟨_, rfl, ?_⟩; have n0_ := Aside0.mk (below_step (by repeat (first | (with_reducible first | exact HB.out | apply below_alloc | apply pw_below_drewN | apply below_drew1) | exact HB.out)) hb); clear HB; have HB := n0_; clear n0_; (try clear hb); (try clear hb2); (try clear hk); (try clear hi)))
           go_ret3
           exact ⟨by first | rfl | (simp [errW_none, errW_some] <;> rfl) | (simp [*, errW_none, errW_some] <;> rfl), by repeat (first | (with_reducible first | exact HB.out | apply below_alloc | apply pw_below_drewN | apply below_drew1) | exact HB.out)⟩
end Go.Proofs.YtkipkbggnfllkaaGreatDoor.P
end
section
namespace Go.Proofs.YtkipkbggnfllkaaGreatDoor.P
open Go.RowKit Go.Proofs.YtkipkbggnfllkaaGreatDoorW.PrintWords Go.Proofs.YtkipkbggnfllkaaGreatDoorW.PrintLast Go.Proofs.YtkipkbggnfllkaaGreatDoorW.PrintMore
def spanCell (k j : Nat) : Int :=
 if j = 0 then 160 else if j = 1 then 55295 else if j = 2 then 57344 else if j = 3 then 64975 else if j = 4 then 65008 else if j = 5 then 65519
 else if j / 2 < k + 2 then (if j % 2 = 0 then ((j / 2 - 2 : Nat) : Int) * 65536 else ((j / 2 - 2 : Nat) : Int) * 65536 + 65533) else 0
def spanTab (k : Nat) : Array Value := ((List.range 38).map fun j => Value.int .i64 (spanCell k j)).toArray
theorem spanTab_size (k : Nat) : (spanTab k).size = 38 := by simp [spanTab]
theorem spanTab_get (k j : Nat) (h : j < 38) : (spanTab k)[j]? = some (.int .i64 (spanCell k j)) := by simp [spanTab, h]
theorem spanTab_step (k : Nat) (h1 : 1 ≤ k) (h2 : k ≤ 16) : ((spanTab k).setIfInBounds ((2 + k) * 2) (.int .i64 ((k : Int) * 65536))).setIfInBounds ((2 + k) * 2 + 1) (.int .i64 ((k : Int) * 65536 + 65533)) = spanTab (k + 1) := by
 apply Array.ext_getElem?
 intro j
 by_cases hj : j < 38
 · rw [spanTab_get (k + 1) j hj, Array.getElem?_setIfInBounds, Array.getElem?_setIfInBounds, spanTab_get k j hj]
   simp only [Array.size_setIfInBounds, spanTab_size]
   by_cases e1 : (2 + k) * 2 + 1 = j
   · subst e1
     rw [if_pos rfl, if_pos hj]
     unfold spanCell
     simp only [show ((2 + k) * 2 + 1) / 2 = k + 2 by omega, show ((2 + k) * 2 + 1) % 2 = 1 by omega]
     simp
     omega
   · rw [if_neg e1]
     by_cases e2 : (2 + k) * 2 = j
     · subst e2
       rw [if_pos rfl, if_pos hj]
       unfold spanCell
       simp only [show ((2 + k) * 2) / 2 = k + 2 by omega, show ((2 + k) * 2) % 2 = 0 by omega]
       simp
       omega
     · rw [if_neg e2]
       have : j / 2 < k + 2 ↔ j / 2 < k + 1 + 2 := by omega
       unfold spanCell
       simp only [this]
 · rw [Array.getElem?_eq_none (by simp [spanTab_size]; omega), Array.getElem?_eq_none (by rw [spanTab_size]; omega)]
def spanAll : Array Value := (spanTab 17).setIfInBounds 32 (.int .i64 921600)
theorem span_build : Tryz.prog.built 123 [(0, .agg #[.int .i64 160, .int .i64 55295]), (1, .agg #[.int .i64 57344, .int .i64 64975]), (2, .agg #[.int .i64 65008, .int .i64 65519])] = some (spanTab 1) := by kernel_rfl
theorem span_size : (Tryz.prog.info? 123).map (·.size) = some 38 := by kernel_rfl
section
variable {P : Program}
theorem wpList_build_to {ops : Array Oper} {rest : List Oper} {o : Oper} {a : Act} {w : World} {Q : Exit → Act → World → Prop} (hg : o.guard = none) (t : TypeId) (parts : Array (Nat × Operand)) (ho : o.op = .build t parts) (cs : Array Value)
 (hb : P.built t (parts.map fun (i, x) => (i, a.eval x)).toList = some cs) (h : wpList P ops Q rest (a.put o.dst (.agg cs)) w) : wpList P ops Q (o :: rest) a w :=
 wpList_build hg t parts ho (by rw [hb]; rfl) (by rw [hb]; exact h)
end
theorem spanTab_one (k : Nat) : (spanTab k).all (·.oneCell') = true := by simp [spanTab, Value.oneCell']
theorem heap_setRow_other (w : World) (g k : Nat) (cs : Array Value) (h : k ≠ g) : (w.setRow g cs).heap[k]? = w.heap[k]? := by
 simp only [World.setRow, Array.getElem?_modify]
 rw [if_neg (fun e => h e.symm)]
theorem spanAll_one : spanAll.all (·.oneCell') = true := by kernel_rfl
structure SpInv (w wr : World) (cs : Array Value) : Prop where
 s : wr.heap[w.heap.size + 1]? = some (.cells cs 123 (0, 0))
 r : ∃ z, wr.heap[w.heap.size]? = some (.cells z 123 (0, 0)) ∧ z.size = 38
 b : Below w.heap.size w wr
set_option maxRecDepth 100000 in
set_option maxHeartbeats 400000 in
theorem ucs_spans.calls (w : World) :
 Calls Tryz.prog 99 #[] w fun e w' => e = .returned (.agg spanAll) ∧ Below w.heap.size w w' := by
 obtain ⟨T, hT⟩ : ∃ T, T = spanTab := ⟨_, rfl⟩
 have hsb := span_build
 have h1 := spanTab_one 1
 have hz := spanTab_size 1
 rw [← hT] at hsb h1 hz
 have HB := Lib.hid hsb
 have H1 := Lib.hid h1
 have HZ := Lib.hid hz
 have HT := Lib.hid hT
 clear hsb h1 hz hT
 go_enter Tryz.func99, Tryz.ntmps99
 go_wp2_with (first | (refine wpList_build_to rfl 123 _ rfl (T 1) ?hb ?_) | (refine wpList_store_row rfl 123 _ _ rfl (w.heap.size + 1) (T 1) rfl rfl 123 ?old ?hg ?hi ?ho H1.out ?_))
 case hb => exact HB.out
 case hg => exact heap_alloc2_new w _ _
 case hi => rw [HZ.out]; exact span_size
 case ho => rw [HZ.out]; rfl
 go_loopw [2] (fun p wr => ∃ k : Nat, 1 ≤ k ∧ k ≤ 17 ∧ p = .int .i64 k ∧ Hid (SpInv w wr (T k))) (fun p _ => 17 - (intOf p).toNat)
 case atStart =>
  refine ⟨1, by omega, by omega, rfl, Lib.hid ⟨?_, ⟨_, (heap_setRow_other _ _ _ _ (by omega)).trans (heap_alloc2_old w _ _), rfl⟩, ?_⟩⟩
  · exact setRow_heap _ _ _ _ _ _ (heap_alloc2_new w _ _)
  · exact (((Below.refl _ _).alloc (Nat.le_refl _) _).alloc (by simp) _).trans ⟨rfl, rfl, rfl, by simp, fun k hk => heap_setRow_other _ _ _ _ (by omega)⟩
 case round =>
  obtain ⟨k, hk1, hk2, rfl, HS⟩ := hrel
  have hcell : ∀ j, j < 38 → wr.cell? ⟨w.heap.size + 1, j, none⟩ = some (.int .i64 (spanCell k j)) := fun j hj => by
   rw [cell_of_row _ _ _ _ _ _ HS.out.s, HT.out]; exact spanTab_get k j hj
  have hfree : ∀ j, wr.frozen? ⟨w.heap.size + 1, j, none⟩ = false := fun j => frozen_of_row _ _ j _ _ HS.out.s
  by_cases hlt : k ≤ 16
  · have hkc : (1 : Int) ≤ (k : Int) := by omega
    have hkd : (k : Int) ≤ 16 := by omega
    have c0 := hcell ((2 + k) * 2) (by omega)
    have c1 := hcell ((2 + k) * 2 + 1) (by omega)
    have f0 := hfree ((2 + k) * 2)
    have f1 := hfree ((2 + k) * 2 + 1)
    clear hcell hfree
    go_wp2
    go_roundw
    case rel =>
     refine ⟨k + 1, by omega, by omega, by go_num, Lib.hid ⟨?_, ?_, ?_⟩⟩
     · have h1 := heap_setCell_same _ _ ((2 + k) * 2 + 1) _ _ (.int .i64 ((k : Int) * 65536 + 65533)) (heap_setCell_same _ _ ((2 + k) * 2) _ _ (.int .i64 ((k : Int) * 65536)) HS.out.s)
       rw [HT.out, spanTab_step k hk1 hlt] at h1
       rw [HT.out]
       exact h1
     · obtain ⟨z, hz, hs⟩ := HS.out.r
       exact ⟨z, (heap_setCell_other _ _ _ _ (by simp)).trans ((heap_setCell_other _ _ _ _ (by simp)).trans hz), hs⟩
     · exact (HS.out.b.setCell (by simp) _).setCell (by simp) _
    case measure => simp [intOf]; omega
  · obtain rfl : k = 17 := by omega
    have c0 := hcell 32 (by omega)
    have f0 := hfree 32
    have HS2 := Lib.hid (heap_setCell_same _ _ 32 _ _ (.int .i64 921600) HS.out.s)
    rw [HT.out] at HS2
    clear hcell hfree
    obtain ⟨z, hz, hzs⟩ := HS.out.r
    have HZ1 := Lib.hid ((heap_setCell_other wr ⟨w.heap.size + 1, 32, none⟩ w.heap.size (.int .i64 921600) (by simp)).trans hz)
    have HZ2 := Lib.hid hzs
    clear hz hzs
    have HA := Lib.hid (show (spanTab 17).setIfInBounds 32 (.int .i64 921600) = spanAll from rfl)
    rw [HA.out] at HS2
    have hsz : spanAll.size = 38 := by simp [spanAll, spanTab_size]
    have hone := spanAll_one
    obtain ⟨A, hA⟩ : ∃ A, A = spanAll := ⟨_, rfl⟩
    rw [← hA] at HS2 hsz hone
    have HAE := Lib.hid hA
    have HSZ := Lib.hid hsz
    have HO := Lib.hid hone
    clear HA hA hsz hone
    have HB2 := Lib.hid HS.out.b
    go_wp2_with (first | (refine wpList_load_row rfl 123 _ rfl (w.heap.size + 1) rfl 123 A (0, 0) _ HS2.out Tryz.underlying123 rfl ?hi ?_) | (refine wpList_store_row rfl 123 _ _ rfl w.heap.size A rfl rfl 123 z HZ1.out ?hj ?ho HO.out ?_))
    case hi => rw [HSZ.out]; exact span_size
    case hj => rw [HSZ.out]; exact span_size
    case ho => rw [HSZ.out]; exact HZ2.out
    refine bodyPost_ret (v := .agg A) ?_ rfl ⟨by rw [HAE.out], HB2.out.trans ⟨rfl, rfl, rfl, by simp, fun i hi => ?_⟩⟩
    · exact results_cell_row Tryz.results99 _ _ w.heap.size 123 A (0, 0) _ rfl (setRow_heap _ _ _ _ _ _ HZ1.out) Tryz.underlying123 rfl (by rw [HSZ.out]; exact span_size)
    · rw [heap_setRow_other _ _ _ _ (by omega)]
      exact heap_setCell_other _ _ _ _ (by simp; omega)
theorem span_index (k : Nat) (hk : k < 19) (W : World) :
 (Instr.index 123 (.agg spanAll) (.int .i64 (k : Int))).run Tryz.prog W = .ok (.agg #[.int .i64 (spanLo k), .int .i64 (spanHi k)]) W :=
 match k, hk with
 | 0, _ => by kernel_rfl
 | 1, _ => by kernel_rfl
 | 2, _ => by kernel_rfl
 | 3, _ => by kernel_rfl
 | 4, _ => by kernel_rfl
 | 5, _ => by kernel_rfl
 | 6, _ => by kernel_rfl
 | 7, _ => by kernel_rfl
 | 8, _ => by kernel_rfl
 | 9, _ => by kernel_rfl
 | 10, _ => by kernel_rfl
 | 11, _ => by kernel_rfl
 | 12, _ => by kernel_rfl
 | 13, _ => by kernel_rfl
 | 14, _ => by kernel_rfl
 | 15, _ => by kernel_rfl
 | 16, _ => by kernel_rfl
 | 17, _ => by kernel_rfl
 | 18, _ => by kernel_rfl
 | n + 19, h => absurd h (by omega)
def ucs_meets.f (low high : Int) : Option Bool := some (meetsFrom low high 19 0)
set_option maxRecDepth 100000 in
set_option maxHeartbeats 400000 in
theorem ucs_meets.calls (low high : Int) (r : Bool) (w : World) (h : ucs_meets.f low high = some r) :
 Calls Tryz.prog 81 #[.int .i64 low, .int .i64 high] w fun e w' => e = .returned (.bool r) ∧ Below w.heap.size w w' := by
 injection h with h
 have HR := Lib.hid h
 clear h
 go_enter Tryz.func81, Tryz.ntmps81
 go_wp2_with fail
 refine (ucs_spans.calls _).mono ?_
 rintro e w1 ⟨rfl, hb⟩
 have HX := Lib.hid span_index
 obtain ⟨A, hA⟩ : ∃ A, A = spanAll := ⟨_, rfl⟩
 rw [← hA] at HX ⊢
 clear hA
 go_wp2
 go_loopw [6, 8] (fun _ i wr => ∃ k d : Nat, k + d = 19 ∧ i = .int .i64 k ∧ Hid (meetsFrom low high d k = r) ∧ Hid (Below w.heap.size w wr)) (fun _ i _ => 19 - (intOf i).toNat)
 case atStart => exact ⟨0, 19, rfl, rfl, HR, Lib.hid hb⟩
 case round =>
  obtain ⟨k, d, hkd, rfl, HM, HBw⟩ := hrel
  cases d with
  | zero =>
   have hk : k = 19 := by omega
   subst hk
   go_wp2
   go_ret
   exact ⟨by rw [← HM.out]; rfl, HBw.out⟩
  | succ d =>
   have hlt : k < 19 := by omega
   have hi := HX.out k hlt
   have HM1 := HM.out
   rw [meetsFrom] at HM1
   obtain ⟨a, ha⟩ : ∃ a, a = spanLo k := ⟨_, rfl⟩
   obtain ⟨b, hb'⟩ : ∃ b, b = spanHi k := ⟨_, rfl⟩
   rw [← ha, ← hb'] at hi HM1
   clear ha hb' HM
   by_cases h1 : low ≤ b
   · have h1b : decide (low ≤ b) = true := decide_eq_true h1
     by_cases h2 : a ≤ high
     · have h2b : decide (a ≤ high) = true := decide_eq_true h2
       have HMM := Lib.hid (show true = r by rw [← HM1]; simp [h1b, h2b])
       clear HM1
       go_wp2
       go_ret
       exact ⟨by rw [← HMM.out]; rfl, HBw.out.alloc HBw.out.size _⟩
     · have h2b : decide (a ≤ high) = false := decide_eq_false h2
       have HMM := Lib.hid (show meetsFrom low high d (k + 1) = r by rw [← HM1]; simp [h1b, h2b])
       clear HM1
       go_wp2
       go_roundw
       case rel => exact ⟨k + 1, d, by omega, by go_num, HMM, Lib.hid (HBw.out.alloc HBw.out.size _)⟩
       case measure => simp [intOf]; omega
   · have h1b : decide (low ≤ b) = false := decide_eq_false h1
     have HMM := Lib.hid (show meetsFrom low high d (k + 1) = r by rw [← HM1]; simp [h1b])
     clear HM1
     go_wp2
     go_roundw
     case rel => exact ⟨k + 1, d, by omega, by go_num, HMM, Lib.hid (HBw.out.alloc HBw.out.size _)⟩
     case measure => simp [intOf]; omega
end Go.Proofs.YtkipkbggnfllkaaGreatDoor.P
end
section
namespace Go.Proofs.YtkipkbggnfllkaaGreatDoor.P
open Go.RowKit Go.Proofs.YtkipkbggnfllkaaGreatDoorW.PrintWords Go.Proofs.YtkipkbggnfllkaaGreatDoorW.PrintLast Go.Proofs.YtkipkbggnfllkaaGreatDoorW.PrintMore
attribute [local go_sem] max2_int min2_int max_two min_two max_three min_three max_four min_four
set_option linter.unusedVariables false
set_option linter.unusedSimpArgs false
def ucs_Fits.j0 : Nat → ByteArray → Bool → Option (Bool)
 | 0, _, _ => none
 | k + 1, x0, x12 => if x12 = true then (some false) else ((ucs_ends.f x0).bind fun bt375 => (if bt375.2.2 = true then ((ucs_meets.f bt375.1 bt375.2.1).bind fun t378 => (some t378)) else (some false)))
def ucs_Fits.f (k : Nat) (a0 : ByteArray) : Option (Bool) := if a0.toList = ([] : List UInt8) then (ucs_Fits.j0 k a0 true) else (if 0 < (a0.size : Int) then (ucs_Fits.j0 k a0 (decide ((bt a0 0) < 192))) else (none))
theorem ucs_Fits.mono_l : ∀ k, (∀ y0 y1, LeO (ucs_Fits.j0 k y0 y1) (ucs_Fits.j0 (k + 1) y0 y1))
 | 0 => fun _ _ r h => by simp [ucs_Fits.j0] at h
 | k + 1 => by
  have ih0 := ucs_Fits.mono_l k
  · intro y0 y1
    unfold ucs_Fits.j0
    repeat' first
    | (with_reducible exact ih0 _ _)
    | (with_reducible exact LeO.refl _)
    | (with_reducible exact LeO.none _)
    | (with_reducible refine LeO.ite ?_ ?_)
    | (with_reducible refine LeO.bind ?_ (fun _ => ?_))
    | exact ih0 _ _
    | exact LeO.none _
    | refine LeO.ite ?_ ?_
    | refine LeO.bind ?_ (fun _ => ?_)
theorem ucs_Fits.mono : ∀ a0 k, LeO (ucs_Fits.f k a0) (ucs_Fits.f (k + 1) a0) := by
 intro a0 k
 have ih0 := ucs_Fits.mono_l k
 unfold ucs_Fits.f
 repeat' first
  | (with_reducible exact ih0 _ _)
  | (with_reducible exact LeO.refl _)
  | (with_reducible exact LeO.none _)
  | (with_reducible refine LeO.ite ?_ ?_)
  | (with_reducible refine LeO.bind ?_ (fun _ => ?_))
  | exact ih0 _ _
  | exact LeO.none _
  | refine LeO.ite ?_ ?_
  | refine LeO.bind ?_ (fun _ => ?_)
set_option maxHeartbeats 8000000 in
set_option maxRecDepth 100000 in
theorem ucs_Fits.calls (k : Nat) (a0 : ByteArray) (r : Bool) (w : World) (h : ucs_Fits.f k a0 = some r) :
 Calls Tryz.prog 57 #[.string a0] w fun e w' => e = .returned (.bool r) ∧ Below w.heap.size w w' := by
 have HB := Aside0.mk (Below.refl w.heap.size w)
 have H : (if a0.toList = ([] : List UInt8) then (ucs_Fits.j0 k a0 true) else (if 0 < (a0.size : Int) then (ucs_Fits.j0 k a0 (decide ((bt a0 0) < 192))) else (none))) = some r := h
 clear h
 have HC2 := Aside0.mk H
 clear H
 go_enter Tryz.func57, Tryz.ntmps57
 go_upto_region 1 with (fail)
 go_cut [12] (fun v12 wc => ∃ (kq : Nat) (x12_1 : Bool), v12 = .bool x12_1 ∧ Aside0 (ucs_Fits.j0 kq a0 x12_1 = some r) ∧ Aside0 (kq ≤ k) ∧ Aside0 (Below w.heap.size w wc))
 case first =>
  have H := HC2.out
  clear HC2
  by_cases c3 : a0.toList = ([] : List UInt8)
  · rw [if_pos c3] at H
    have c3b0 : (a0.toList == ([] : List UInt8)) = true := beq_iff_eq.mpr c3
    have c3b1 : (a0.toList != ([] : List UInt8)) = false := bne_eq_false_iff_eq.mpr c3
    clear c3
    (first | rw [c3b0] | (simp only [i64_w, i32_w]; rw [c3b0]) | skip)
    have H' := Aside0.mk H
    clear H
    go_wp2
    go_meet
    case rel => exact ⟨_, (true), (by first | rfl | (simp; done) | (simp [*]; done)), H', ⟨by first | omega | exact Nat.le_refl _⟩, ⟨by repeat (first | (with_reducible first | exact HB.out | apply below_alloc | apply pw_below_drewN | apply below_drew1) | exact HB.out)⟩⟩
  · rw [if_neg c3] at H
    have c3b0 : (a0.toList == ([] : List UInt8)) = false := beq_eq_false_iff_ne.mpr c3
    have c3b1 : (a0.toList != ([] : List UInt8)) = true := bne_iff_ne.mpr c3
    (first | rw [c3b0] | (simp only [i64_w, i32_w]; rw [c3b0]) | skip)
    by_cases c4 : 0 < (a0.size : Int)
    · rw [if_pos c4] at H
      have c4b0 : decide (0 < (a0.size : Int)) = true := decide_eq_true c4
      have c4b1 : decide (0 < a0.size) = true := decide_eq_true (by omega)
      clear c4
      have H' := Aside0.mk H
      clear H
      have p5 : 0 ≤ (0 : Int) := (by omega)
      have q5 : 0 < a0.size := (by have : (0 : Int) < (a0.size : Int) := of_decide_eq_true (by first | (with_reducible assumption) | assumption); omega)
      have hx5 : ∀ h : 0 < a0.size, ((a0[0]'h).toNat : Int) = bt a0 0 := bt_at a0 0
      clear p5
      have qi5 : (0 < (a0.size : Int)) = True := eq_true (of_decide_eq_true (by first | (with_reducible assumption) | assumption))
      replace q5 := eq_true q5
      go_wp2
      go_meet
      case rel => exact ⟨_, (decide ((bt a0 0) < 192)), (by first | rfl | (simp; done) | (simp [*]; done)), H', ⟨by first | omega | exact Nat.le_refl _⟩, ⟨by repeat (first | (with_reducible first | exact HB.out | apply below_alloc | apply pw_below_drewN | apply below_drew1) | exact HB.out)⟩⟩
    · rw [if_neg c4] at H
      exact absurd H (by simp)
 case rest =>
  clear HC2
  try clear p2
  try clear c3
  try clear c3b0
  try clear c3b1
  try clear c4
  try clear c4b0
  try clear c4b1
  try clear c5
  try clear p5
  try clear q5
  try clear hx5
  try clear qi5
  try clear p5
  try clear q5
  obtain ⟨kq, x12_1, rfl, HA, HJ1, HB⟩ := hcut
  cases kq with
  | zero => exact absurd HA.out (by simp [ucs_Fits.j0])
  | succ kj1 =>
   have H := HA.out
   clear HA
   simp only [ucs_Fits.j0] at H
   by_cases c6 : x12_1 = true
   · subst c6
     have H1 : (some false) = some r := by rw [if_pos rfl] at H; exact H
     clear H
     have H := H1
     clear H1
     obtain rfl := Option.some.inj H
     go_wp2
     go_ret
     exact ⟨by first | rfl | (simp [errW_none, errW_some] <;> rfl) | (simp [*, errW_none, errW_some] <;> rfl), by repeat (first | (with_reducible first | exact HB.out | apply below_alloc | apply pw_below_drewN | apply below_drew1) | exact HB.out)⟩
   · replace c6 := Bool.eq_false_iff.mpr c6
     subst c6
     have H1 : ((ucs_ends.f a0).bind fun bt375 => (if bt375.2.2 = true then ((ucs_meets.f bt375.1 bt375.2.1).bind fun t378 => (some t378)) else (some false))) = some r := by rw [if_neg (show ¬ (false = true) by decide)] at H; exact H
     clear H
     have H := H1
     clear H1
     replace H := Option.bind_eq_some_iff.mp H
     obtain ⟨⟨t375, t376, t377⟩, A70, H⟩ := H
     replace H : (if t377 = true then ((ucs_meets.f t375 t376).bind fun t378 => (some t378)) else (some false)) = some r := H
     have A7 := Aside0.mk A70
     clear A70
     by_cases c8 : t377 = true
     · subst c8
       have H1 : ((ucs_meets.f t375 t376).bind fun t378 => (some t378)) = some r := by rw [if_pos rfl] at H; exact H
       clear H
       have H := H1
       clear H1
       replace H := Option.bind_eq_some_iff.mp H
       obtain ⟨t378, A90, H⟩ := H
       replace H : (some t378) = some r := H
       have A9 := Aside0.mk A90
       clear A90
       obtain rfl := Option.some.inj H
       go_wp2_with (first | ((with_reducible refine gate_callee (f := 80) rfl ?_); refine goesL_ (some 15) rfl rfl Tryz.func80 (by kernel_rfl) rfl #[.string a0] rfl (by (try simp only [List.map_toArray, List.map_cons, List.map_nil]); first | done | rfl | (simp only [List.length_drop, List.length_take]; rfl)) ?_; (with_reducible refine (ucs_ends.calls a0 t375 t376 true _ A7.out).mono ?_); rintro e w10 ⟨rfl, hb⟩; refine ⟨_, rfl, ?_⟩; have n0_ := Aside0.mk (below_step (by repeat (first | (with_reducible first | exact HB.out | apply below_alloc | apply pw_below_drewN | apply below_drew1) | exact HB.out)) hb); clear HB; have HB := n0_; clear n0_; (try clear hb); (try clear hb2); (try clear hk); (try clear hi)) | (go_at_call 81; (with_reducible refine (ucs_meets.calls t375 t376 t378 _ A9.out).mono ?_); rintro e w11 ⟨rfl, hb⟩; have n0_ := Aside0.mk (below_step (by repeat (first | (with_reducible first | exact HB.out | apply below_alloc | apply pw_below_drewN | apply below_drew1) | exact HB.out)) hb); clear HB; have HB := n0_; clear n0_; (try clear hb); (try clear hb2); (try clear hk); (try clear hi)))
       go_ret
       exact ⟨by first | rfl | (simp [errW_none, errW_some] <;> rfl) | (simp [*, errW_none, errW_some] <;> rfl), by repeat (first | (with_reducible first | exact HB.out | apply below_alloc | apply pw_below_drewN | apply below_drew1) | exact HB.out)⟩
     · replace c8 := Bool.eq_false_iff.mpr c8
       subst c8
       have H1 : (some false) = some r := by rw [if_neg (show ¬ (false = true) by decide)] at H; exact H
       clear H
       have H := H1
       clear H1
       obtain rfl := Option.some.inj H
       go_wp2_with (first | ((with_reducible refine gate_callee (f := 80) rfl ?_); refine goesL_ (some 15) rfl rfl Tryz.func80 (by kernel_rfl) rfl #[.string a0] rfl (by (try simp only [List.map_toArray, List.map_cons, List.map_nil]); first | done | rfl | (simp only [List.length_drop, List.length_take]; rfl)) ?_; (with_reducible refine (ucs_ends.calls a0 t375 t376 false _ A7.out).mono ?_); rintro e w12 ⟨rfl, hb⟩; refine ⟨_, rfl, ?_⟩; have n0_ := Aside0.mk (below_step (by repeat (first | (with_reducible first | exact HB.out | apply below_alloc | apply pw_below_drewN | apply below_drew1) | exact HB.out)) hb); clear HB; have HB := n0_; clear n0_; (try clear hb); (try clear hb2); (try clear hk); (try clear hi)))
       go_ret
       exact ⟨by first | rfl | (simp [errW_none, errW_some] <;> rfl) | (simp [*, errW_none, errW_some] <;> rfl), by repeat (first | (with_reducible first | exact HB.out | apply below_alloc | apply pw_below_drewN | apply below_drew1) | exact HB.out)⟩
def ucs_May.f (a0 : Int) : Option (Bool) := (ucs_meets.f a0 a0).bind fun t341 => (some t341)
set_option maxHeartbeats 8000000 in
set_option maxRecDepth 100000 in
theorem ucs_May.calls (a0 : Int) (r : Bool) (w : World) (h : ucs_May.f a0 = some r) :
 Calls Tryz.prog 93 #[.int .i64 a0] w fun e w' => e = .returned (.bool r) ∧ Below w.heap.size w w' := by
 have HB := Aside0.mk (Below.refl w.heap.size w)
 have H : ((ucs_meets.f a0 a0).bind fun t341 => (some t341)) = some r := h
 clear h
 replace H := Option.bind_eq_some_iff.mp H
 obtain ⟨t341, A20, H⟩ := H
 replace H : (some t341) = some r := H
 have A2 := Aside0.mk A20
 clear A20
 obtain rfl := Option.some.inj H
 go_enter Tryz.func93, Tryz.ntmps93
 go_wp2_with (first | ((with_reducible refine gate_callee (f := 81) rfl ?_); refine goesL_ (some 5) rfl rfl Tryz.func81 (by kernel_rfl) rfl #[.int .i64 a0, .int .i64 a0] rfl (by (try simp only [List.map_toArray, List.map_cons, List.map_nil]); first | done | rfl | (simp only [List.length_drop, List.length_take]; rfl)) ?_; (with_reducible refine (ucs_meets.calls a0 a0 t341 _ A2.out).mono ?_); rintro e w3 ⟨rfl, hb⟩; refine ⟨_, rfl, ?_⟩; have n0_ := Aside0.mk (below_step (by repeat (first | (with_reducible first | exact HB.out | apply below_alloc | apply pw_below_drewN | apply below_drew1) | exact HB.out)) hb); clear HB; have HB := n0_; clear n0_; (try clear hb); (try clear hb2); (try clear hk); (try clear hi)))
 go_ret
 exact ⟨by first | rfl | (simp [errW_none, errW_some] <;> rfl) | (simp [*, errW_none, errW_some] <;> rfl), by repeat (first | (with_reducible first | exact HB.out | apply below_alloc | apply pw_below_drewN | apply below_drew1) | exact HB.out)⟩
def ucs_Take.l0 : Nat → ByteArray → List Int → Int → Int → Option (Int × Int)
 | 0, _, _, _, _ => none
 | k + 1, x4, x16, x17, x18 => if x18 < x17 then (if 0 ≤ x18 then (if x18 < (x16.length : Int) then ((ucs_May.f (rd x16 x18)).bind fun t348 => (if t348 = true then (some (rd x16 x18, (x4.size : Int))) else (ucs_Take.l0 k x4 x16 x17 (wrap64 (x18 + 1))))) else (none)) else (none)) else (some (0, 0))
def ucs_Take.f (k : Nat) (a0 : ByteArray) : Option (Int × Int) := (utf_Prefix.f a0 1).bind fun t342 => ((utf_Chars.f t342).bind fun bt343 => (ucs_Take.l0 k t342 bt343.1 (bt343.1.length : Int) 0))
theorem ucs_Take.mono_l : ∀ k, (∀ y0 y1 y2 y3, LeO (ucs_Take.l0 k y0 y1 y2 y3) (ucs_Take.l0 (k + 1) y0 y1 y2 y3))
 | 0 => fun _ _ _ _ r h => by simp [ucs_Take.l0] at h
 | k + 1 => by
  have ih0 := ucs_Take.mono_l k
  · intro y0 y1 y2 y3
    unfold ucs_Take.l0
    repeat' first
    | (with_reducible exact ih0 _ _ _ _)
    | (with_reducible exact LeO.refl _)
    | (with_reducible exact LeO.none _)
    | (with_reducible refine LeO.ite ?_ ?_)
    | (with_reducible refine LeO.bind ?_ (fun _ => ?_))
    | exact ih0 _ _ _ _
    | exact LeO.none _
    | refine LeO.ite ?_ ?_
    | refine LeO.bind ?_ (fun _ => ?_)
theorem ucs_Take.mono : ∀ a0 k, LeO (ucs_Take.f k a0) (ucs_Take.f (k + 1) a0) := by
 intro a0 k
 have ih0 := ucs_Take.mono_l k
 unfold ucs_Take.f
 repeat' first
  | (with_reducible exact ih0 _ _ _ _)
  | (with_reducible exact LeO.refl _)
  | (with_reducible exact LeO.none _)
  | (with_reducible refine LeO.ite ?_ ?_)
  | (with_reducible refine LeO.bind ?_ (fun _ => ?_))
  | exact ih0 _ _ _ _
  | exact LeO.none _
  | refine LeO.ite ?_ ?_
  | refine LeO.bind ?_ (fun _ => ?_)
set_option maxHeartbeats 8000000 in
set_option maxRecDepth 100000 in
theorem ucs_Take.calls (k : Nat) (a0 : ByteArray) (r1 : Int) (r2 : Int) (w : World) (h : ucs_Take.f k a0 = some (r1, r2)) :
 Calls Tryz.prog 73 #[.string a0] w fun e w' => e = .returned (.tuple #[.int .i64 r1, .int .i64 r2]) ∧ Below w.heap.size w w' := by
 have HB := Aside0.mk (Below.refl w.heap.size w)
 have H : ((utf_Prefix.f a0 1).bind fun t342 => ((utf_Chars.f t342).bind fun bt343 => (ucs_Take.l0 k t342 bt343.1 (bt343.1.length : Int) 0))) = some (r1, r2) := h
 clear h
 replace H := Option.bind_eq_some_iff.mp H
 obtain ⟨t342, A20, H⟩ := H
 replace H : ((utf_Chars.f t342).bind fun bt343 => (ucs_Take.l0 k t342 bt343.1 (bt343.1.length : Int) 0)) = some (r1, r2) := H
 have A2 := Aside0.mk A20
 clear A20
 replace H := Option.bind_eq_some_iff.mp H
 obtain ⟨⟨t343, t344⟩, A30, H⟩ := H
 replace H : (ucs_Take.l0 k t342 t343 (t343.length : Int) 0) = some (r1, r2) := H
 have A3 := Aside0.mk A30
 clear A30
 have H' := Aside0.mk H
 clear H
 go_enter Tryz.func73, Tryz.ntmps73
 go_wp2_with (first | ((with_reducible refine gate_callee (f := 91) rfl ?_); refine goesL_ (some 10) rfl rfl Tryz.func91 (by kernel_rfl) rfl #[.string a0, .int .i64 1] rfl (by (try simp only [List.map_toArray, List.map_cons, List.map_nil]); first | done | rfl | (simp only [List.length_drop, List.length_take]; rfl)) ?_; (with_reducible refine (utf_Prefix.calls a0 1 t342 _ A2.out).mono ?_); rintro e w4 ⟨rfl, hb⟩; refine ⟨_, rfl, ?_⟩; have n0_ := Aside0.mk (below_step (by repeat (first | (with_reducible first | exact HB.out | apply below_alloc | apply pw_below_drewN | apply below_drew1) | exact HB.out)) hb); clear HB; have HB := n0_; clear n0_; (try clear hb); (try clear hb2); (try clear hk); (try clear hi)) | ((with_reducible refine gate_callee (f := 92) rfl ?_); refine goesL_ (some 13) rfl rfl Tryz.func92 (by kernel_rfl) rfl #[.string t342] rfl (by (try simp only [List.map_toArray, List.map_cons, List.map_nil]); first | done | rfl | (simp only [List.length_drop, List.length_take]; rfl)) ?_; (with_reducible refine (utf_Chars.calls t342 t343 t344 _ A3.out).mono ?_); rintro e w5 ⟨v345, rfl, ho0, hb⟩; refine ⟨_, rfl, ?_⟩; have n0_ := Aside0.mk (Kd.R_lower ho0 (below_size (by repeat (first | (with_reducible first | exact HB.out | apply below_alloc | apply pw_below_drewN | apply below_drew1) | exact HB.out)))); have n1_ := Aside0.mk (below_step (by repeat (first | (with_reducible first | exact HB.out | apply below_alloc | apply pw_below_drewN | apply below_drew1) | exact HB.out)) hb); clear HB; have HO346 := n0_; have HB := n1_; clear n0_ n1_; (try clear hb); (try clear hb2); (try clear hk); (try clear hi); (try clear ho0); obtain ⟨Ao6, co6, eo6⟩ := Kd.R_slice HO346.out; subst eo6))
 go_loopg [18] k (fun kq v18 w' => ∃ (x18_1 : Int), v18 = .int .i64 x18_1 ∧ Aside0 (ucs_Take.l0 kq t342 t343 (t343.length : Int) x18_1 = some (r1, r2)) ∧ Aside0 (kq ≤ k) ∧ Aside0 (Kd.R (Kd.int .i64) 3 w' w.heap.size (fun _ => True) (.slice Ao6 t343.length co6) t343) ∧ Aside0 (Below w.heap.size w w'))
 case atStart => exact ⟨(0), (by first | rfl | (simp; done) | (simp [*]; done)), H', ⟨Nat.le_refl _⟩, ⟨by (with_reducible repeat (first | apply Kd.R_alloc | apply Kd.R_drewN | apply Kd.R_drew)); exact HO346.out⟩, ⟨by repeat (first | (with_reducible first | exact HB.out | apply below_alloc | apply pw_below_drewN | apply below_drew1) | exact HB.out)⟩⟩
 case round =>
  clear H'
  try clear p2
  obtain ⟨x18_1, rfl, HA, HK1, HO_16, HB⟩ := hrel
  cases gk with
  | zero => exact absurd HA.out (by simp [ucs_Take.l0])
  | succ k1 =>
   have H := HA.out
   clear HA
   simp only [ucs_Take.l0] at H
   by_cases c7 : x18_1 < (t343.length : Int)
   · rw [if_pos c7] at H
     have c7b0 : decide (x18_1 < (t343.length : Int)) = true := decide_eq_true c7
     clear c7
     by_cases c8 : 0 ≤ x18_1
     · rw [if_pos c8] at H
       have c8b0 : decide (0 ≤ x18_1) = true := decide_eq_true c8
       clear c8
       by_cases c9 : x18_1 < (t343.length : Int)
       · rw [if_pos c9] at H
         have c9b0 : decide (x18_1 < (t343.length : Int)) = true := decide_eq_true c9
         clear c9
         replace H := Option.bind_eq_some_iff.mp H
         obtain ⟨t348, A100, H⟩ := H
         replace H : (if t348 = true then (some (rd t343 x18_1, (t342.size : Int))) else (ucs_Take.l0 k1 t342 t343 (t343.length : Int) (wrap64 (x18_1 + 1)))) = some (r1, r2) := H
         have A10 := Aside0.mk A100
         clear A100
         by_cases c11 : t348 = true
         · subst c11
           have H1 : (some (rd t343 x18_1, (t342.size : Int))) = some (r1, r2) := by rw [if_pos rfl] at H; exact H
           clear H
           have H := H1
           clear H1
           simp only [Option.some.injEq, Prod.mk.injEq] at H
           obtain ⟨rfl, rfl⟩ := H
           have p347 : 0 ≤ (x18_1 : Int) := of_decide_eq_true (by first | (with_reducible assumption) | assumption)
           have q347 : x18_1 < (t343.length : Int) := of_decide_eq_true (by first | (with_reducible assumption) | assumption)
           obtain ⟨ad347, e347, hx347_0⟩ := Kd.at_int (Kd.R_reads' HO_16.out).2.2 x18_1 p347 q347
           cases e347
           replace p347 := eq_true p347
           replace q347 := eq_true q347
           go_wp2_with (first | ((with_reducible refine gate_callee (f := 93) rfl ?_); refine goesL_ (some 23) rfl rfl Tryz.func93 (by kernel_rfl) rfl #[.int .i64 (rd t343 x18_1)] rfl (by (try simp only [List.map_toArray, List.map_cons, List.map_nil]); first | done | rfl | (simp only [List.length_drop, List.length_take]; rfl)) ?_; (with_reducible refine (ucs_May.calls (rd t343 x18_1) true _ A10.out).mono ?_); rintro e w12 ⟨rfl, hb⟩; refine ⟨_, rfl, ?_⟩; have n0_ := Aside0.mk (Kd.R_below (by (with_reducible repeat (first | apply Kd.R_alloc | apply Kd.R_drewN | apply Kd.R_drew)); exact HO_16.out) hb); have n1_ := Aside0.mk (below_step (by repeat (first | (with_reducible first | exact HB.out | apply below_alloc | apply pw_below_drewN | apply below_drew1) | exact HB.out)) hb); clear HO_16; clear HB; have HO_16 := n0_; have HB := n1_; clear n0_ n1_; (try clear hb); (try clear hb2); (try clear hk); (try clear hi)))
           go_ret2
           exact ⟨by first | rfl | (simp [errW_none, errW_some] <;> rfl) | (simp [*, errW_none, errW_some] <;> rfl), by repeat (first | (with_reducible first | exact HB.out | apply below_alloc | apply pw_below_drewN | apply below_drew1) | exact HB.out)⟩
         · replace c11 := Bool.eq_false_iff.mpr c11
           subst c11
           have H1 : (ucs_Take.l0 k1 t342 t343 (t343.length : Int) (wrap64 (x18_1 + 1))) = some (r1, r2) := by rw [if_neg (show ¬ (false = true) by decide)] at H; exact H
           clear H
           have H := H1
           clear H1
           have H' := Aside0.mk H
           clear H
           have p347 : 0 ≤ (x18_1 : Int) := of_decide_eq_true (by first | (with_reducible assumption) | assumption)
           have q347 : x18_1 < (t343.length : Int) := of_decide_eq_true (by first | (with_reducible assumption) | assumption)
           obtain ⟨ad347, e347, hx347_0⟩ := Kd.at_int (Kd.R_reads' HO_16.out).2.2 x18_1 p347 q347
           cases e347
           replace p347 := eq_true p347
           replace q347 := eq_true q347
           go_wp2_with (first | ((with_reducible refine gate_callee (f := 93) rfl ?_); refine goesL_ (some 23) rfl rfl Tryz.func93 (by kernel_rfl) rfl #[.int .i64 (rd t343 x18_1)] rfl (by (try simp only [List.map_toArray, List.map_cons, List.map_nil]); first | done | rfl | (simp only [List.length_drop, List.length_take]; rfl)) ?_; (with_reducible refine (ucs_May.calls (rd t343 x18_1) false _ A10.out).mono ?_); rintro e w13 ⟨rfl, hb⟩; refine ⟨_, rfl, ?_⟩; have n0_ := Aside0.mk (Kd.R_below (by (with_reducible repeat (first | apply Kd.R_alloc | apply Kd.R_drewN | apply Kd.R_drew)); exact HO_16.out) hb); have n1_ := Aside0.mk (below_step (by repeat (first | (with_reducible first | exact HB.out | apply below_alloc | apply pw_below_drewN | apply below_drew1) | exact HB.out)) hb); clear HO_16; clear HB; have HO_16 := n0_; have HB := n1_; clear n0_ n1_; (try clear hb); (try clear hb2); (try clear hk); (try clear hi)))
           go_roundg k1
           case measure => have := HK1.out; omega
           case rel => exact ⟨(wrap64 (x18_1 + 1)), (by first | rfl | (simp; done) | (simp [*]; done)), H', ⟨by have := HK1.out; omega⟩, ⟨by (with_reducible repeat (first | apply Kd.R_alloc | apply Kd.R_drewN | apply Kd.R_drew)); exact HO_16.out⟩, ⟨by repeat (first | (with_reducible first | exact HB.out | apply below_alloc | apply pw_below_drewN | apply below_drew1) | exact HB.out)⟩⟩
       · rw [if_neg c9] at H
         exact absurd H (by simp)
     · rw [if_neg c8] at H
       exact absurd H (by simp)
   · rw [if_neg c7] at H
     have c7b0 : decide (x18_1 < (t343.length : Int)) = false := decide_eq_false c7
     clear c7
     simp only [Option.some.injEq, Prod.mk.injEq] at H
     obtain ⟨rfl, rfl⟩ := H
     go_wp2
     go_ret2
     exact ⟨by first | rfl | (simp [errW_none, errW_some] <;> rfl) | (simp [*, errW_none, errW_some] <;> rfl), by repeat (first | (with_reducible first | exact HB.out | apply below_alloc | apply pw_below_drewN | apply below_drew1) | exact HB.out)⟩
end Go.Proofs.YtkipkbggnfllkaaGreatDoor.P
end
section
namespace Go.Proofs.YtkipkbggnfllkaaGreatDoor.P
open Go.RowKit Go.Proofs.YtkipkbggnfllkaaGreatDoorW.PrintWords Go.Proofs.YtkipkbggnfllkaaGreatDoorW.PrintLast Go.Proofs.YtkipkbggnfllkaaGreatDoorW.PrintMore
def figure (n : Int) : Int := bt ⟨#[48, 49, 50, 51, 52, 53, 54, 55, 56, 57, 65, 66, 67, 68, 69, 70]⟩ n
def pct_One.f (c : Int) : Option ByteArray := if 0 ≤ c ∧ c ≤ 255 then some (strOfNums [37, figure (c / 16), figure (c % 16)]) else none
theorem reads_three (w : World) (a b : Int) : ReadsInt (w.alloc (.cells #[.int .u8 37, .int .u8 a, .int .u8 b] 5)).drew .u8 (some ⟨w.heap.size, 0, none⟩) 3 [37, a, b] := by
 refine ⟨rfl, by omega, fun _ => ⟨_, rfl, fun j hj => ?_⟩⟩
 have hadd : (⟨w.heap.size, 0, none⟩ : Addr).add j = ⟨w.heap.size, j, none⟩ := by unfold Addr.add; split <;> simp_all
 rw [hadd]
 show (w.alloc _).cell? _ = _
 have : j = 0 ∨ j = 1 ∨ j = 2 := by omega
 rcases this with rfl | rfl | rfl <;> simp
set_option maxHeartbeats 800000 in
theorem pct_One.calls (c : Int) (r : ByteArray) (w : World) (h : pct_One.f c = some r) :
 Calls Tryz.prog 76 #[.int .u8 c] w fun e w' => e = .returned (.string r) ∧ Below w.heap.size w w' := by
 unfold pct_One.f at h
 split at h
 · rename_i hc
   obtain ⟨h0, h1⟩ := hc
   injection h with h
   have i1 := bt_at ⟨#[48, 49, 50, 51, 52, 53, 54, 55, 56, 57, 65, 66, 67, 68, 69, 70]⟩ (c / 16)
   have i2 := bt_at ⟨#[48, 49, 50, 51, 52, 53, 54, 55, 56, 57, 65, 66, 67, 68, 69, 70]⟩ (c % 16)
   obtain ⟨a, ha⟩ : ∃ a, a = figure (c / 16) := ⟨_, rfl⟩
   obtain ⟨b, hb⟩ : ∃ b, b = figure (c % 16) := ⟨_, rfl⟩
   rw [← ha, ← hb] at h
   rw [show bt _ _ = a from ha.symm] at i1
   rw [show bt _ _ = b from hb.symm] at i2
   have HR := Lib.hid h
   clear h ha hb
   have h2 : 0 ≤ c / 16 := by omega
   have h3 : c / 16 < 16 := by omega
   have h4 : 0 ≤ c % 16 := by omega
   have h5 : c % 16 < 16 := by omega
   go_enter Tryz.func76, Tryz.ntmps76
   go_wp2_with fail
   have hcv := string_of_reads (P := Tryz.prog) (src := 58) (dst := 9) (c := 3) Tryz.underlying58 Tryz.underlying5 Tryz.underlying9 (reads_three w a b)
   go_region
   go_wp2
   go_ret
   exact ⟨by show Ending.returned (.string (strOfNums [37, a, b])) = _; rw [HR.out], ((Below.refl _ _).alloc (Nat.le_refl _) _).drew⟩
 · cases h
end Go.Proofs.YtkipkbggnfllkaaGreatDoor.P
end
