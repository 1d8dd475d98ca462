/- What is proved here is used by the law's card: Pk0, OpenParts, Set, Num, Chars, FpctDigit, Fpctvalue, FpctTriplet, Vname, FvnameEnd, FvnameMay, FspecMay, Bs, Utf8, Auto, Var, Gram, Base, Uat, Ends, Figures, FvnameBad, Utf, AnyAt, RowM, Filled. -/
import Derived.Test.YtkipkbggnfllkaaDoorCk0
import Derived.Test.YtkipkbggnfllkaaDoorProg
import Derived.Below
import Derived.Deep.Draws
import Derived.Deep.AppendLies
import Derived.Maps.AppendAt
import Derived.OwnWalk
import Derived.Laws.BytesArg
import Derived.Laws.MakeOwn
import Derived.Laws.OwnMore
import Derived.Deep.OwnRows
import Derived.Tactics
import Derived.Lib.ConvBytes
import Derived.Laws.Slices
import Derived.WalkKit
import Derived.KernelRfl
import Derived.RowKit3
import Derived.Deep.LoopGhost
import Derived.Deep.QuietTactic
import Derived.BigQuiet
import Derived.WideLaws
import Derived.Deep.DeepCutAuto
import Derived.Deep.CutBlock
import Derived.Deep.RegionHeld3
import Derived.Laws.Rows
import Derived.Lib.AppendStr
import Derived.ArgAppend
import Derived.Laws.IdiomCopy
import Derived.OrdersHeld
import Derived.Laws.BitsLemmas
import Derived.RowKit
import Derived.ChangeArms
import Derived.Laws.BitsAllLaws
import Derived.RegionTactic
import Derived.ChangeAlike
import Derived.BigRegion
import Derived.Laws.NewBlocks
import Derived.Lib.Hide
import Derived.Outline
import Derived.WalkMore
import Derived.Lib.QuietBelow
import Derived.Lib.OthersKept
import Derived.WalkLawsBesides
import Derived.OneCell
import Derived.Deep.DeepMust
import Derived.Lib.FrozenHead2
section
namespace Go.Proofs.YtkipkbggnfllkaaDoor.P
open Go.RowKit Go.Proofs.YtkipkbggnfllkaaDoorW.PrintWords Go.Proofs.YtkipkbggnfllkaaDoorW.PrintLast Go.Proofs.YtkipkbggnfllkaaDoorW.PrintMore
attribute [local go_sem] max2_int min2_int max_two min_two max_three min_three max_four min_four
set_option linter.unusedVariables false
set_option linter.unusedSimpArgs false
structure S43 where
 f0 : ByteArray
 f1 : Int
 f2 : Bool
def z43 : S43 := ⟨(⟨#[]⟩ : ByteArray), (0 : Int), false⟩
def k43 : Kd S43 := Kd.iso (Kd.pair Kd.string (Kd.pair (Kd.int .i64) Kd.bool)) (fun x : S43 => (x.f0, x.f1, x.f2))
theorem k43_open {w : World} {x : S43} {cs : List Value} (h : k43.K w x cs) : cs = [.string x.f0, .int .i64 x.f1, .bool x.f2] := by
 obtain ⟨_, _, rfl, rfl, ⟨_, _, rfl, rfl, rfl⟩⟩ := h
 exact rfl
theorem k43_mk (w : World) (x : S43)  : k43.K w x [.string x.f0, .int .i64 x.f1, .bool x.f2] := ⟨[.string x.f0], [.int .i64 x.f1, .bool x.f2], rfl, rfl, ⟨[.int .i64 x.f1], [.bool x.f2], rfl, rfl, rfl⟩⟩
theorem k43_mkM (w : World) (base : Nat) (ok : Nat → Prop) (x : S43)  : k43.M w base ok x [.string x.f0, .int .i64 x.f1, .bool x.f2] := ⟨[.string x.f0], [.int .i64 x.f1, .bool x.f2], rfl, rfl, ⟨[.int .i64 x.f1], [.bool x.f2], rfl, rfl, rfl⟩⟩
def rd_T43 (xs : List S43) (i : Int) : S43 := xs.getD i.toNat z43
theorem at_T43 {w : World} {A : Option Addr} {n : Nat} {xs : List S43} (h : Kd.C k43 w A n xs) (i : Int) (h0 : 0 ≤ i) (h1 : i < n) : ∃ ad , A = some ad ∧ w.cell? (ad.add (i.toNat * 3)) = some (.string (rd_T43 xs i).f0) ∧ w.cell? ⟨(ad.add (i.toNat * 3)).block, (ad.add (i.toNat * 3)).off + 1, none⟩ = some (.int .i64 (rd_T43 xs i).f1) ∧ w.cell? ⟨(ad.add (i.toNat * 3)).block, (ad.add (i.toNat * 3)).off + 2, none⟩ = some (.bool (rd_T43 xs i).f2) := by
 obtain ⟨ad, c, e, _, hK, hc0⟩ := Kd.C_get h z43 i h0 h1
 have hc : ∀ j u, c[j]? = some u → w.cell? (ad.add (i.toNat * 3 + j)) = some u := hc0
 obtain rfl := k43_open hK
 exact ⟨ad, e, hc 0 _ rfl, by rw [← add_field _ _ 1 (by omega)]; exact hc 1 _ rfl, by rw [← add_field _ _ 2 (by omega)]; exact hc 2 _ rfl⟩
structure S41 where
 f0 : ByteArray
 f1 : Int
 f2 : (List S43)
def z41 : S41 := ⟨(⟨#[]⟩ : ByteArray), (0 : Int), ([] : List S43)⟩
def k41 : Kd S41 := Kd.iso (Kd.pair Kd.string (Kd.pair (Kd.int .u8) (Kd.slice 43 k43))) (fun x : S41 => (x.f0, x.f1, x.f2))
theorem k41_open {w : World} {x : S41} {cs : List Value} (h : k41.K w x cs) : ∃ A2 c2, cs = [.string x.f0, .int .u8 x.f1, .slice A2 x.f2.length c2] ∧ x.f2.length ≤ c2 ∧ k43.C w A2 x.f2.length x.f2 := by
 obtain ⟨_, _, rfl, rfl, ⟨_, _, rfl, rfl, ⟨A2, c2, rfl, l2, g2⟩⟩⟩ := h
 exact ⟨A2, c2, rfl, l2, g2⟩
theorem k41_openM {w : World} {base : Nat} {ok : Nat → Prop} {x : S41} {cs : List Value} (h : k41.M w base ok x cs) : ∃ v2, cs = [.string x.f0, .int .u8 x.f1, v2] ∧ k43.R 43 w base ok v2 x.f2 := by
 obtain ⟨_, _, rfl, rfl, ⟨_, _, rfl, rfl, ⟨v2, rfl, g2⟩⟩⟩ := h
 exact ⟨v2, rfl, g2⟩
theorem k41_mk (w : World) (x : S41) {A2 : Option Addr} {c2 : Nat} (l2 : x.f2.length ≤ c2) (g2 : k43.C w A2 x.f2.length x.f2) : k41.K w x [.string x.f0, .int .u8 x.f1, .slice A2 x.f2.length c2] := ⟨[.string x.f0], [.int .u8 x.f1, .slice A2 x.f2.length c2], rfl, rfl, ⟨[.int .u8 x.f1], [.slice A2 x.f2.length c2], rfl, rfl, ⟨A2, c2, rfl, l2, g2⟩⟩⟩
theorem k41_mkM (w : World) (base : Nat) (ok : Nat → Prop) (x : S41) {v2 : Value} (g2 : k43.R 43 w base ok v2 x.f2) : k41.M w base ok x [.string x.f0, .int .u8 x.f1, v2] := ⟨[.string x.f0], [.int .u8 x.f1, v2], rfl, rfl, ⟨[.int .u8 x.f1], [v2], rfl, rfl, ⟨v2, rfl, g2⟩⟩⟩
def rd_T41 (xs : List S41) (i : Int) : S41 := xs.getD i.toNat z41
theorem at_T41 {w : World} {A : Option Addr} {n : Nat} {xs : List S41} (h : Kd.C k41 w A n xs) (i : Int) (h0 : 0 ≤ i) (h1 : i < n) : ∃ ad A2 c2, A = some ad ∧ w.cell? (ad.add (i.toNat * 3)) = some (.string (rd_T41 xs i).f0) ∧ w.cell? ⟨(ad.add (i.toNat * 3)).block, (ad.add (i.toNat * 3)).off + 1, none⟩ = some (.int .u8 (rd_T41 xs i).f1) ∧ w.cell? ⟨(ad.add (i.toNat * 3)).block, (ad.add (i.toNat * 3)).off + 2, none⟩ = some (.slice A2 (rd_T41 xs i).f2.length c2) ∧ (rd_T41 xs i).f2.length ≤ c2 ∧ k43.C w A2 (rd_T41 xs i).f2.length (rd_T41 xs i).f2 := by
 obtain ⟨ad, c, e, _, hK, hc0⟩ := Kd.C_get h z41 i h0 h1
 have hc : ∀ j u, c[j]? = some u → w.cell? (ad.add (i.toNat * 3 + j)) = some u := hc0
 obtain ⟨A2, c2, rfl, l2, g2⟩ := k41_open hK
 exact ⟨ad, A2, c2, e, hc 0 _ rfl, by rw [← add_field _ _ 1 (by omega)]; exact hc 1 _ rfl, by rw [← add_field _ _ 2 (by omega)]; exact hc 2 _ rfl, l2, g2⟩
end Go.Proofs.YtkipkbggnfllkaaDoor.P
end
section
namespace Go.Proofs.YtkipkbggnfllkaaDoor.P
open Go.RowKit Go.Proofs.YtkipkbggnfllkaaDoorW.PrintWords Go.Proofs.YtkipkbggnfllkaaDoorW.PrintLast Go.Proofs.YtkipkbggnfllkaaDoorW.PrintMore
set_option linter.unusedVariables false
set_option maxRecDepth 100000
section
variable {H : Type} {enc : TypeId × Value → H} {w : World} {base : Nat} {spare : Nat → Bool} {held : Bool} {fuel : Nat} {cs : List Value} {x : DataW H × List MemPlace}
theorem cells_at {a : Addr} {n : Nat} (h : w.cells? base a n = some cs) : cs.length = n ∧ ∀ (i : Nat) (u : Value), cs[i]? = some u → w.cell? (a.add i) = some u := by
 unfold World.cells? at h
 split at h
 · have hl := mapM_some_length h
   rw [List.length_range] at hl
   refine ⟨hl, fun i u hu => ?_⟩
   have hi : i < n := by
    have := (List.getElem?_eq_some_iff.1 hu).1
    omega
   rw [mapM_some_get h i i (by simp [hi])]
   exact hu
 · cases h
theorem open_spec (h : DataW.trod enc Tryd.prog w base spare held fuel 43 cs = some x) : ∃ v : S43, cs = [.string v.f0, .int .i64 v.f1, .bool v.f2] := by
 obtain ⟨xs, n, rfl, -, hl, hx, hel⟩ := DataW.trod_struct Tryd.underlying43 h
 rw [show Tryd.prog.cellsOf 43 = 3 by kernel_rfl] at hl
 have hx : xs.length = 3 := hx
 match cs, hl, xs, hx with
 | [c0, c1, c2], _, [x0, x1, x2], _ =>
  have h0 := hel 0 _ rfl
  have h1 := hel 1 _ rfl
  have h2 := hel 2 _ rfl
  obtain ⟨s, e0, -, -⟩ := DataW.trod_string Tryd.underlying9 h0
  obtain ⟨m, e1, -, -⟩ := DataW.trod_int Tryd.underlying3 h1
  obtain ⟨b, e2, -⟩ := DataW.trod_bool Tryd.underlying4 h2
  have q0 : c0 = .string s := (List.cons.inj (show [c0] = [.string s] from e0)).1
  have q1 : c1 = .int .i64 m := (List.cons.inj (show [c1] = [.int .i64 m] from e1)).1
  have q2 : c2 = .bool b := (List.cons.inj (show [c2] = [.bool b] from e2)).1
  clear h0 h1 h2 e0 e1 e2 hel
  subst q0 q1 q2
  exact ⟨⟨s, m, b⟩, rfl⟩
theorem row_of {α : Type} {k : Kd α} {a : Addr} {len : Nat} (Q : α → Prop) (hm : len ≤ maxLen) (h : ∀ i, i < len → ∃ y c, Q y ∧ k.K w y c ∧ w.cells? base (a.add (i * k.sz)) k.sz = some c) : ∃ l : List α, l.length = len ∧ Kd.C k w (some a) len l ∧ ∀ y ∈ l, Q y := by
 obtain ⟨f, hf⟩ : ∃ f : (i : Nat) → i < len → α, ∀ i hi, ∃ c, Q (f i hi) ∧ k.K w (f i hi) c ∧ w.cells? base (a.add (i * k.sz)) k.sz = some c :=
  ⟨fun i hi => (h i hi).choose, fun i hi => (h i hi).choose_spec⟩
 refine ⟨List.ofFn fun i : Fin len => f i.1 i.2, by simp, ⟨by simp, Nat.le_trans hm (by decide), fun _ => ⟨a, rfl, fun j p hp => ?_⟩⟩, fun y hy => ?_⟩
 · have hj : j < len := by
    have := (List.getElem?_eq_some_iff.1 hp).1
    simpa using this
   rw [List.getElem?_ofFn, dif_pos hj] at hp
   injection hp with hp
   subst hp
   obtain ⟨c, -, h1, h2⟩ := hf j hj
   obtain ⟨h3, h4⟩ := cells_at h2
   refine ⟨c, h3, h1, fun i u hu => ?_⟩
   have := h4 i u hu
   rw [Addr.add_add] at this
   exact this
 · obtain ⟨i, rfl⟩ := (List.mem_ofFn).1 hy
   obtain ⟨c, h1, -⟩ := hf i.1 i.2
   exact h1
theorem open_specs (h : DataW.trod enc Tryd.prog w base spare held fuel 39 cs = some x) : ∃ (A : Option Addr) (len cap : Nat) (l : List S43), cs = [.slice A len cap] ∧ l.length = len ∧ len ≤ cap ∧ Kd.C k43 w A len l := by
 rcases DataW.trod_slice Tryd.underlying39 h with ⟨rfl, -⟩ | ⟨a, len, cap, elems, rest, n, -, rfl, -, hb, hl, hm, hlen, hel, -, -⟩
 · exact ⟨none, 0, 0, [], rfl, rfl, Nat.le_refl _, rfl, by decide, fun g => absurd g (Nat.lt_irrefl 0)⟩
 · rw [show Tryd.prog.cellsOf 43 = 3 by kernel_rfl] at hel
   obtain ⟨l, h1, h2, -⟩ := row_of (k := k43) (w := w) (base := base) (a := a) (len := len) (fun _ => True) (by omega) fun i hi => by
    have he := hel i hi
    rw [List.getElem?_eq_getElem (by omega)] at he
    obtain ⟨c, hc, ht⟩ := Option.bind_eq_some_iff.1 he
    obtain ⟨v, rfl⟩ := open_spec ht
    exact ⟨v, _, trivial, k43_mk w v, hc⟩
   exact ⟨some a, len, cap, l, rfl, h1, hl, h2⟩
theorem open_part (h : DataW.trod enc Tryd.prog w base spare held fuel 41 cs = some x) : ∃ y : S41, (0 ≤ y.f1 ∧ y.f1 ≤ 255) ∧ k41.K w y cs := by
 obtain ⟨xs, n, rfl, -, hl, hx, hel⟩ := DataW.trod_struct Tryd.underlying41 h
 rw [show Tryd.prog.cellsOf 41 = 3 by kernel_rfl] at hl
 have hx : xs.length = 3 := hx
 match cs, hl, xs, hx with
 | [c0, c1, c2], _, [x0, x1, x2], _ =>
  have h0 := hel 0 _ rfl
  have h1 := hel 1 _ rfl
  have h2 := hel 2 _ rfl
  obtain ⟨s, e0, -, -⟩ := DataW.trod_string Tryd.underlying9 h0
  obtain ⟨m, e1, -, hw⟩ := DataW.trod_int Tryd.underlying5 h1
  obtain ⟨A, len, cap, l, e2, g1, g2, g3⟩ := open_specs h2
  have q0 : c0 = .string s := (List.cons.inj (show [c0] = [.string s] from e0)).1
  have q1 : c1 = .int .u8 m := (List.cons.inj (show [c1] = [.int .u8 m] from e1)).1
  have q2 : c2 = .slice A len cap := (List.cons.inj (show [c2] = [.slice A len cap] from e2)).1
  clear h0 h1 h2 e0 e1 e2 hel
  subst q0 q1 q2 g1
  refine ⟨⟨s, m, l⟩, ?_, k41_mk w ⟨s, m, l⟩ g2 g3⟩
  simp [Lit.wf, IntKind.min, IntKind.max, IntKind.signed, IntKind.bits] at hw
  exact ⟨by show 0 ≤ m; omega, by show m ≤ 255; omega⟩
theorem open_parts (h : DataW.trod enc Tryd.prog w base spare held fuel 23 cs = some x) : ∃ (A : Option Addr) (cap : Nat) (l : List S41), cs = [.slice A l.length cap] ∧ l.length ≤ cap ∧ Kd.C k41 w A l.length l ∧ ∀ y ∈ l, 0 ≤ y.f1 ∧ y.f1 ≤ 255 := by
 rcases DataW.trod_slice Tryd.underlying23 h with ⟨rfl, -⟩ | ⟨a, len, cap, elems, rest, n, -, rfl, -, hb, hl, hm, hlen, hel, -, -⟩
 · exact ⟨none, 0, [], rfl, Nat.le_refl _, ⟨rfl, by decide, fun g => absurd g (Nat.lt_irrefl 0)⟩, fun y hy => by cases hy⟩
 · rw [show Tryd.prog.cellsOf 41 = 3 by kernel_rfl] at hel
   obtain ⟨l, h1, h2, h3⟩ := row_of (k := k41) (w := w) (base := base) (a := a) (len := len) (fun y => 0 ≤ y.f1 ∧ y.f1 ≤ 255) (by omega) fun i hi => by
    have he := hel i hi
    rw [List.getElem?_eq_getElem (by omega)] at he
    obtain ⟨c, hc, ht⟩ := Option.bind_eq_some_iff.1 he
    obtain ⟨y, hy, hK⟩ := open_part ht
    exact ⟨y, c, hy, hK, hc⟩
   subst h1
   exact ⟨some a, cap, l, rfl, hl, h2, h3⟩
def PartsIn (w : World) (A : Option Addr) (c : Nat) (l : List S41) : Prop := l.length ≤ c ∧ Kd.C k41 w A l.length l ∧ ∀ y ∈ l, 0 ≤ y.f1 ∧ y.f1 ≤ 255
theorem parts_of (h : DataW.trod enc Tryd.prog w base spare held fuel 23 cs = some x) : ∃ (A : Option Addr) (cap : Nat) (l : List S41), cs = [.slice A l.length cap] ∧ PartsIn w A cap l := by
 obtain ⟨A, cap, l, h1, h2, h3, h4⟩ := open_parts h
 exact ⟨A, cap, l, h1, h2, h3, h4⟩
end
end Go.Proofs.YtkipkbggnfllkaaDoor.P
end
section
namespace Go.Proofs.YtkipkbggnfllkaaDoor.P
open Go.RowKit
def wordN (P : Nat → Bool) : Nat → Nat
 | 0 => 0
 | n + 1 => wordN P n ||| if P n then 2 ^ n else 0
theorem wordN_lt (P : Nat → Bool) (n : Nat) : wordN P n < 2 ^ n := by
 induction n with
 | zero => simp [wordN]
 | succ n ih =>
  simp only [wordN]
  refine Nat.or_lt_two_pow (by omega) ?_
  split
  · exact Nat.pow_lt_pow_right (by omega) (by omega)
  · exact Nat.two_pow_pos _
theorem testBit_wordN (P : Nat → Bool) (n j : Nat) : (wordN P n).testBit j = (decide (j < n) && P j) := by
 induction n with
 | zero => simp [wordN]
 | succ n ih =>
  simp only [wordN, Nat.testBit_or, ih]
  by_cases hp : P n
  · rw [if_pos hp, Nat.testBit_two_pow]
    by_cases e : n = j
    · subst e; simp [hp]
    · by_cases h : j < n
      · simp [h, show j < n + 1 by omega, e]
      · simp [h, show ¬ j < n + 1 by omega, e]
  · rw [if_neg hp, Nat.zero_testBit]
    by_cases e : n = j
    · subst e; simp [hp]
    · by_cases h : j < n
      · simp [h, show j < n + 1 by omega]
      · simp [h, show ¬ j < n + 1 by omega]
theorem wordN_ext {P Q : Nat → Bool} (n : Nat) (h : ∀ j, j < n → P j = Q j) : wordN P n = wordN Q n := by
 apply Nat.eq_of_testBit_eq
 intro j
 rw [testBit_wordN, testBit_wordN]
 by_cases hj : j < n
 · rw [h j hj]
 · simp [hj]
def wd (P : Nat → Bool) (i : Nat) : Int := (wordN (fun j => P (64 * i + j)) 64 : Nat)
theorem wd_lo (P : Nat → Bool) (i : Nat) : 0 ≤ wd P i := by unfold wd; omega
theorem wd_hi (P : Nat → Bool) (i : Nat) : wd P i < 18446744073709551616 := by
 have := wordN_lt (fun j => P (64 * i + j)) 64
 unfold wd; omega
theorem wd_ext {P Q : Nat → Bool} (i : Nat) (h : ∀ j, j < 64 → P (64 * i + j) = Q (64 * i + j)) : wd P i = wd Q i := by
 unfold wd; rw [wordN_ext 64 h]
theorem wd_or (P Q : Nat → Bool) (i : Nat) : Go.bits .or .u64 (wd P i) (wd Q i) = wd (fun j => P j || Q j) i := by
 rw [u64_or _ _ (wd_lo P i) (wd_hi P i) (wd_lo Q i) (wd_hi Q i)]
 unfold wd
 simp only [Int.toNat_natCast]
 congr 1
 apply Nat.eq_of_testBit_eq
 intro j
 rw [Nat.testBit_or, testBit_wordN, testBit_wordN, testBit_wordN]
 cases decide (j < 64) <;> simp
theorem testBit_compl (n j : Nat) (h : n < 2 ^ 64) : (18446744073709551615 - n).testBit j = (decide (j < 64) && !n.testBit j) := by
 have := @Nat.testBit_two_pow_sub_succ n 64 h j
 rw [← this, show 2 ^ 64 - (n + 1) = 18446744073709551615 - n by omega]
theorem wd_andNot (P Q : Nat → Bool) (i : Nat) : Go.bits .andNot .u64 (wd P i) (wd Q i) = wd (fun j => P j && !Q j) i := by
 rw [u64_andNot _ _ (wd_lo P i) (wd_hi P i) (wd_lo Q i) (wd_hi Q i)]
 unfold wd
 simp only [Int.toNat_natCast]
 congr 1
 apply Nat.eq_of_testBit_eq
 intro j
 rw [Nat.testBit_and, testBit_compl _ _ (wordN_lt _ _), testBit_wordN, testBit_wordN, testBit_wordN]
 cases decide (j < 64) <;> simp
theorem wd_add (P : Nat → Bool) (c : Int) (h0 : 0 ≤ c) : Go.bits .or .u64 (wd P (c / 64).toNat) (IntKind.u64.wrap (2 ^ (c % 64).toNat)) = wd (fun j => P j || j == c.toNat) (c / 64).toNat := by
 have hk : (c % 64).toNat < 64 := by omega
 have e : IntKind.u64.wrap (2 ^ (c % 64).toNat) = wd (fun j => j == c.toNat) (c / 64).toNat := by
  have e1 : wordN (fun j => 64 * (c / 64).toNat + j == c.toNat) 64 = 2 ^ (c % 64).toNat := by
   apply Nat.eq_of_testBit_eq
   intro j
   rw [testBit_wordN, Nat.testBit_two_pow]
   by_cases e : (c % 64).toNat = j
   · subst e; simp [hk]; omega
   · by_cases h : j < 64
     · simp [h, e]; omega
     · simp [h, e]
  unfold wd
  rw [e1]
  have hl : (2 : Nat) ^ (c % 64).toNat < 2 ^ 64 := Nat.pow_lt_pow_right (by omega) hk
  generalize (c % 64).toNat = k at hl ⊢
  have : ((2 : Int) ^ k) = ((2 ^ k : Nat) : Int) := by simp
  rw [this]
  generalize 2 ^ k = q at hl ⊢
  simp [IntKind.wrap, IntKind.bits, IntKind.signed]
  omega
 rw [e, wd_or]
theorem wd_has (P : Nat → Bool) (c : Int) (h0 : 0 ≤ c) : (Go.bits .and .u64 (wd P (c / 64).toNat / 2 ^ (c % 64).toNat) 1 == 1) = P c.toNat := by
 have hk : (c % 64).toNat < 64 := by omega
 have hl := wd_lo P (c / 64).toNat
 have hh := wd_hi P (c / 64).toNat
 have e2 : wd P (c / 64).toNat / 2 ^ (c % 64).toNat = ((wordN (fun j => P (64 * (c / 64).toNat + j)) 64 / 2 ^ (c % 64).toNat : Nat) : Int) := by
  unfold wd; simp
 have hb := wordN_lt (fun j => P (64 * (c / 64).toNat + j)) 64
 have hd := Nat.div_le_self (wordN (fun j => P (64 * (c / 64).toNat + j)) 64) (2 ^ (c % 64).toNat)
 have ht := testBit_wordN (fun j => P (64 * (c / 64).toNat + j)) 64 (c % 64).toNat
 rw [show 64 * (c / 64).toNat + (c % 64).toNat = c.toNat by omega, Nat.testBit_eq_decide_div_mod_eq] at ht
 rw [e2]
 clear e2 hl hh
 generalize wordN (fun j => P (64 * (c / 64).toNat + j)) 64 / 2 ^ (c % 64).toNat = q at *
 rw [u64_and _ _ (by omega) (by omega) (by omega) (by omega)]
 simp only [Int.toNat_natCast]
 rw [show (1 : Int).toNat = 1 from rfl, nat_mask1]
 simp only [hk, decide_true, Bool.true_and] at ht
 rw [← ht]
 by_cases hq : q % 2 = 1
 · simp [hq]
 · have : q % 2 = 0 := by omega
   simp [this]
def setV (P : Nat → Bool) : Value := .agg #[.int .u64 (wd P 0), .int .u64 (wd P 1), .int .u64 (wd P 2), .int .u64 (wd P 3)]
theorem setV_ext {P Q : Nat → Bool} (h : ∀ j, j < 256 → P j = Q j) : setV P = setV Q := by
 unfold setV
 rw [wd_ext 0 (fun j hj => h _ (by omega)), wd_ext 1 (fun j hj => h _ (by omega)), wd_ext 2 (fun j hj => h _ (by omega)), wd_ext 3 (fun j hj => h _ (by omega))]
theorem wd_empty (i : Nat) : wd (fun _ => false) i = 0 := by
 have : ∀ n, wordN (fun _ => false) n = 0 := by
  intro n
  induction n with
  | zero => rfl
  | succ n ih => simp [wordN, ih]
 unfold wd; rw [this]; rfl
end Go.Proofs.YtkipkbggnfllkaaDoor.P
end
section
namespace Go.Proofs.YtkipkbggnfllkaaDoor.P
def inText (s : ByteArray) (j : Nat) : Bool := s.data.toList.any fun b => b.toNat == j
def isDigit (j : Nat) : Bool := decide (48 ≤ (j : Int)) && decide ((j : Int) ≤ 57)
def isUpper (j : Nat) : Bool := decide (65 ≤ (j : Int)) && decide ((j : Int) ≤ 90)
def isLower (j : Nat) : Bool := decide (97 ≤ (j : Int)) && decide ((j : Int) ≤ 122)
def isAF (j : Nat) : Bool := decide (65 ≤ (j : Int)) && decide ((j : Int) ≤ 70)
def isaf (j : Nat) : Bool := decide (97 ≤ (j : Int)) && decide ((j : Int) ≤ 102)
def isAlpha (j : Nat) : Bool := isUpper j || isLower j
def isHex (j : Nat) : Bool := isDigit j || isAF j || isaf j
def isWord (j : Nat) : Bool := isAlpha j || isDigit j || 95 == j
def isLit (j : Nat) : Bool := (decide (33 ≤ (j : Int)) && decide ((j : Int) ≤ 126)) && !inText ⟨#[34, 39, 37, 60, 62, 92, 94, 96, 123, 124, 125]⟩ j
def spanLo (k : Nat) : Int := if k = 0 then 160 else if k = 1 then 57344 else if k = 2 then 65008 else if k = 16 then 921600 else ((k - 2 : Nat) : Int) * 65536
def spanHi (k : Nat) : Int := if k = 0 then 55295 else if k = 1 then 64975 else if k = 2 then 65519 else ((k - 2 : Nat) : Int) * 65536 + 65533
def meetsFrom (low high : Int) : Nat → Nat → Bool
 | 0, _ => false
 | d + 1, k => (decide (low ≤ spanHi k) && decide (high ≥ spanLo k)) || meetsFrom low high d (k + 1)
end Go.Proofs.YtkipkbggnfllkaaDoor.P
end
section
namespace Go.Proofs.YtkipkbggnfllkaaDoor.P
open Go.RowKit Go.Proofs.YtkipkbggnfllkaaDoorW.PrintWords Go.Proofs.YtkipkbggnfllkaaDoorW.PrintLast Go.Proofs.YtkipkbggnfllkaaDoorW.PrintMore
structure SetAt (w : World) (g : Nat) (P : Nat → Bool) : Prop where
 cell : ∀ i, i < 4 → w.cell? ⟨g, i, none⟩ = some (.int .u64 (wd P i))
 free : ∀ i, i < 4 → w.frozen? ⟨g, i, none⟩ = false
set_option maxHeartbeats 400000 in
theorem Set_add.calls (P : Nat → Bool) (c : Int) (h0 : 0 ≤ c) (h1 : c ≤ 255) (g : Nat) (w : World) (hs : SetAt w g P) :
 Calls Tryd.prog 87 #[.pointer (some ⟨g, 0, none⟩), .int .u8 c] w fun e w' => e = .returned (.tuple #[]) ∧ SetAt w' g (fun j => P j || j == c.toNat) ∧ w.grownBy w' (some g) ∧ w'.heap.size = w.heap.size := by
 have hc := hs.cell (c / 64).toNat (by omega)
 have hf := hs.free (c / 64).toNat (by omega)
 have h2 : 0 ≤ c / 64 := by omega
 have h3 : c / 64 < 4 := by omega
 have h4 : 0 ≤ c % 64 := by omega
 have h5 : c % 64 < 64 := by omega
 have K := Lib.hid hs
 clear hs
 go_enter Tryd.func87, Tryd.ntmps87
 go_wp2
 go_region
 go_end0
 rw [wd_add P c h0]
 have hs := K.out
 refine ⟨rfl, ⟨fun i hi => ?_, fun i hi => ?_⟩, ⟨rfl, rfl, rfl, by simp [World.drew], fun k _ hk => ?_⟩, by simp [World.drew]⟩
 · show (w.setCell _ _).cell? _ = _
   by_cases e : i = (c / 64).toNat
   · subst e
     rw [World.cell?_setCell_same _ _ _ hc]
   · rw [World.cell?_setCell_other _ _ _ _ (fun h => e (by injection h with _ h2 _; exact h2.symm)), hs.cell i hi]
     rw [wd_ext i fun j hj => ?_]
     have : ¬ (64 * i + j = c.toNat) := by omega
     simp [this]
 · show (w.setCell _ _).frozen? _ = _
   rw [World.frozen?_setCell, hs.free i hi]
 · show (w.setCell _ _).heap[k]? = _
   exact heap_setCell_other w _ k _ (fun e => hk (by rw [e]))
theorem SetAt.new (W : World) : SetAt (W.alloc (.cells #[.int .u64 0, .int .u64 0, .int .u64 0, .int .u64 0] 81)) W.heap.size (fun _ => false) := by
 refine ⟨fun i hi => ?_, fun i hi => ?_⟩
 · rw [wd_empty]
   have : i = 0 ∨ i = 1 ∨ i = 2 ∨ i = 3 := by omega
   rcases this with rfl | rfl | rfl | rfl <;> simp [go_sem]
 · have : i = 0 ∨ i = 1 ∨ i = 2 ∨ i = 3 := by omega
   rcases this with rfl | rfl | rfl | rfl <;> simp [go_sem]
theorem SetAt.lt {w : World} {g : Nat} {P : Nat → Bool} (h : SetAt w g P) : g < w.heap.size := World.block_lt_of_cell? w _ (h.cell 0 (by omega))
theorem SetAt.kept {w w' : World} {g : Nat} {P : Nat → Bool} (h : SetAt w g P) (hb : w'.heap[g]? = w.heap[g]?) : SetAt w' g P :=
 ⟨fun i hi => by have := h.cell i hi; unfold World.cell? at this ⊢; rw [hb]; exact this, fun i hi => by have := h.free i hi; unfold World.frozen? at this ⊢; rw [hb]; exact this⟩
theorem SetAt.alloc {w : World} {g : Nat} {P : Nat → Bool} (h : SetAt w g P) (o : Obj) : SetAt (w.alloc o) g P :=
 h.kept (heap_alloc_old w o h.lt)
structure Two (w wr : World) (P : Nat → Bool) : Prop where
 s : SetAt wr (w.heap.size + 1) P
 r : SetAt wr w.heap.size (fun _ => false)
 b : Below w.heap.size w wr
 z : wr.heap.size = w.heap.size + 2
theorem Two.add {w wr w1 : World} {P Q : Nat → Bool} (h : Two w wr P) (hs : SetAt w1 (w.heap.size + 1) Q) (hg : wr.grownBy w1 (some (w.heap.size + 1))) (hz : w1.heap.size = wr.heap.size) : Two w w1 Q :=
 ⟨hs, h.r.kept (hg.block _ h.r.lt (by simp)), h.b.grown hg h.b.size (fun k e => by cases e; omega), by rw [hz, h.z]⟩
theorem Two.new (w : World) : Two w ((w.alloc (.cells #[.int .u64 0, .int .u64 0, .int .u64 0, .int .u64 0] 81)).alloc (.cells #[.int .u64 0, .int .u64 0, .int .u64 0, .int .u64 0] 81)) (fun _ => false) :=
 ⟨by have := SetAt.new (w.alloc (.cells #[.int .u64 0, .int .u64 0, .int .u64 0, .int .u64 0] 81)); simpa using this, (SetAt.new w).alloc _, ((Below.refl _ _).alloc (Nat.le_refl _) _).alloc (by simp) _, by simp⟩
theorem Two.done {w wr : World} {P : Nat → Bool} (h : Two w wr P) : ∀ a b c d : Value, Below w.heap.size w ((((wr.setCell ⟨w.heap.size, 0, none⟩ a).setCell ⟨w.heap.size, 1, none⟩ b).setCell ⟨w.heap.size, 2, none⟩ c).setCell ⟨w.heap.size, 3, none⟩ d) := fun a b c d =>
 (((h.b.setCell (Nat.le_refl _) a).setCell (Nat.le_refl _) b).setCell (Nat.le_refl _) c).setCell (Nat.le_refl _) d
set_option maxHeartbeats 400000 in
theorem chars_Range.calls (lo hi : Int) (h0 : 0 ≤ lo) (h1 : lo ≤ 255) (h2 : 0 ≤ hi) (h3 : hi ≤ 255) (w : World) :
 Calls Tryd.prog 72 #[.int .u8 lo, .int .u8 hi] w fun e w' => e = .returned (setV fun j => decide (lo ≤ j) && decide ((j : Int) ≤ hi)) ∧ Below w.heap.size w w' := by
 go_enter Tryd.func72, Tryd.ntmps72
 go_wp2
 go_loopw [6] (fun i wr => ∃ k : Int, lo ≤ k ∧ k ≤ 256 ∧ (k ≤ hi + 1 ∨ k = lo) ∧ i = .int .i64 k ∧ Hid (Two w wr (fun j => decide (lo ≤ j) && decide ((j : Int) < k)))) (fun i _ => (256 - intOf i).toNat)
 case atStart =>
  refine ⟨lo, by omega, by omega, .inr rfl, rfl, Lib.hid ?_⟩
  have e : (fun j : Nat => decide (lo ≤ j) && decide ((j : Int) < lo)) = fun _ => false := by funext j; by_cases h : lo ≤ (j : Int) <;> simp [h]
  rw [e]
  exact Two.new w
 case round =>
  obtain ⟨k, hk0, hk1, hk2, rfl, HT⟩ := hrel
  by_cases hlt : k ≤ hi
  · go_wp2_with fail
    refine (Set_add.calls _ k (by omega) (by omega) _ _ HT.out.s).mono ?_
    rintro e w' ⟨rfl, hs, hg, hz⟩
    have HT1 := Lib.hid (HT.out.add hs hg hz)
    clear hs hg hz HT
    go_wp2
    go_roundw
    case rel =>
     refine ⟨k + 1, by omega, by omega, by omega, by go_num, Lib.hid ?_⟩
     have e : (fun j : Nat => (decide (lo ≤ j) && decide ((j : Int) < k)) || j == k.toNat) = fun j : Nat => decide (lo ≤ j) && decide ((j : Int) < k + 1) := by
      funext j
      by_cases e : j = k.toNat
      · subst e; simp; omega
      · by_cases h : (j : Int) < k
        · simp [h, e, show (j : Int) < k + 1 by omega]
        · simp [h, e, show ¬ (j : Int) < k + 1 by omega]
     have h := HT1.out
     rw [e] at h
     exact h
    case measure => simp [intOf]; omega
  · have e : setV (fun j => decide (lo ≤ j) && decide ((j : Int) < k)) = setV fun j => decide (lo ≤ j) && decide ((j : Int) ≤ hi) := by
     apply setV_ext
     intro j hj
     by_cases h1 : lo ≤ (j : Int) <;> by_cases h2 : (j : Int) < k <;> by_cases h3 : (j : Int) ≤ hi <;> simp [h1, h2, h3] <;> omega
    have E := Lib.hid e
    clear e
    obtain ⟨P, hP⟩ : ∃ P : Nat → Bool, P = fun j : Nat => decide (lo ≤ j) && decide ((j : Int) < k) := ⟨_, rfl⟩
    rw [← hP] at HT E
    clear hP
    have c0 := HT.out.s.cell 0 (by omega)
    have c1 := HT.out.s.cell 1 (by omega)
    have c2 := HT.out.s.cell 2 (by omega)
    have c3 := HT.out.s.cell 3 (by omega)
    have r0 := HT.out.r.cell 0 (by omega)
    have r1 := HT.out.r.cell 1 (by omega)
    have r2 := HT.out.r.cell 2 (by omega)
    have r3 := HT.out.r.cell 3 (by omega)
    have f0 := HT.out.r.free 0 (by omega)
    have f1 := HT.out.r.free 1 (by omega)
    have f2 := HT.out.r.free 2 (by omega)
    have f3 := HT.out.r.free 3 (by omega)
    go_wp2
    refine bodyPost_ret (v := setV P) ?_ rfl ⟨by rw [E.out], HT.out.done _ _ _ _⟩
    simp [results, Tryd.results72, go_sem, setV, r0, r1, r2, r3]
set_option maxHeartbeats 400000 in
theorem chars_Of.calls (s : ByteArray) (hs : s.size ≤ 9223372036854775807) (w : World) :
 Calls Tryd.prog 85 #[.string s] w fun e w' => e = .returned (setV (inText s)) ∧ Below w.heap.size w w' := by
 go_enter Tryd.func85, Tryd.ntmps85
 go_wp2
 go_loopw [4, 7] (fun _ i wr => ∃ k : Nat, k ≤ s.size ∧ i = .int .i64 k ∧ Hid (Two w wr (fun j => (s.data.toList.take k).any fun b => b.toNat == j))) (fun _ i _ => s.size - (intOf i).toNat)
 case atStart => exact ⟨0, Nat.zero_le _, rfl, Lib.hid (Two.new w)⟩
 case round =>
  obtain ⟨k, hk, rfl, HT⟩ := hrel
  by_cases hlt : k < s.size
  · have hb : ((s[k]'hlt).toNat : Int) ≤ 255 := by have := (s[k]'hlt).toNat_lt; omega
    have hb0 : (0 : Int) ≤ ((s[k]'hlt).toNat : Int) := by omega
    go_wp2_with fail
    refine (Set_add.calls _ _ hb0 hb _ _ HT.out.s).mono ?_
    rintro e w' ⟨rfl, hs1, hg, hz⟩
    have HT1 := Lib.hid (HT.out.add hs1 hg hz)
    clear hs1 hg hz HT
    go_wp2
    go_roundw
    case rel =>
     refine ⟨k + 1, by omega, by go_num, Lib.hid ?_⟩
     have e : (fun j : Nat => ((s.data.toList.take k).any fun b => b.toNat == j) || j == ((s[k]'hlt).toNat : Int).toNat) = fun j : Nat => (s.data.toList.take (k + 1)).any fun b => b.toNat == j := by
      funext j
      have hl : k < s.data.toList.length := by simpa using hlt
      have e2 : s.data.toList[k] = s[k]'hlt := rfl
      rw [List.take_succ_eq_append_getElem hl, List.any_append, e2]
      simp only [List.any_cons, List.any_nil, Bool.or_false, Int.toNat_natCast]
      congr 1
      rw [Bool.eq_iff_iff]; simp; omega
     have h := HT1.out
     rw [e] at h
     exact h
    case measure => simp [intOf]; omega
  · have e : setV (fun j => (s.data.toList.take k).any fun b => b.toNat == j) = setV (inText s) := by
     have : s.data.toList.take k = s.data.toList := List.take_of_length_le (by simp; have : s.data.size = s.size := rfl; omega)
     rw [this]; rfl
    have E := Lib.hid e
    clear e
    obtain ⟨P, hP⟩ : ∃ P : Nat → Bool, P = fun j : Nat => (s.data.toList.take k).any fun b => b.toNat == j := ⟨_, rfl⟩
    rw [← hP] at HT E
    clear hP
    have c0 := HT.out.s.cell 0 (by omega)
    have c1 := HT.out.s.cell 1 (by omega)
    have c2 := HT.out.s.cell 2 (by omega)
    have c3 := HT.out.s.cell 3 (by omega)
    have r0 := HT.out.r.cell 0 (by omega)
    have r1 := HT.out.r.cell 1 (by omega)
    have r2 := HT.out.r.cell 2 (by omega)
    have r3 := HT.out.r.cell 3 (by omega)
    have f0 := HT.out.r.free 0 (by omega)
    have f1 := HT.out.r.free 1 (by omega)
    have f2 := HT.out.r.free 2 (by omega)
    have f3 := HT.out.r.free 3 (by omega)
    go_wp2
    refine bodyPost_ret (v := setV P) ?_ rfl ⟨by rw [E.out], HT.out.done _ _ _ _⟩
    simp [results, Tryd.results85, go_sem, setV, r0, r1, r2, r3]
structure Four (w : World) (g : Nat) (x : Nat → Int) : Prop where
 cell : ∀ i, i < 4 → w.cell? ⟨g, i, none⟩ = some (.int .u64 (x i))
 free : ∀ i, i < 4 → w.frozen? ⟨g, i, none⟩ = false
theorem Four.set {w : World} {g : Nat} {x : Nat → Int} (h : Four w g x) (k : Nat) (y : Int) : Four (w.setCell ⟨g, k, none⟩ (.int .u64 y)) g (fun i => if i = k then y else x i) := by
 refine ⟨fun i hi => ?_, fun i hi => by rw [World.frozen?_setCell]; exact h.free i hi⟩
 by_cases e : i = k
 · subst e
   rw [World.cell?_setCell_same _ _ _ (h.cell i hi), if_pos rfl]
 · rw [World.cell?_setCell_other _ _ _ _ (fun q => e (by injection q with _ h2 _; exact h2.symm)), h.cell i hi, if_neg e]
theorem Four.congr {w : World} {g : Nat} {x y : Nat → Int} (h : Four w g x) (e : ∀ i, i < 4 → x i = y i) : Four w g y :=
 ⟨fun i hi => by rw [h.cell i hi, e i hi], h.free⟩
theorem Four.lt {w : World} {g : Nat} {x : Nat → Int} (h : Four w g x) : g < w.heap.size := World.block_lt_of_cell? w _ (h.cell 0 (by omega))
theorem Four.kept {w w' : World} {g : Nat} {x : Nat → Int} (h : Four w g x) (hb : w'.heap[g]? = w.heap[g]?) : Four w' g x :=
 ⟨fun i hi => by have := h.cell i hi; unfold World.cell? at this ⊢; rw [hb]; exact this, fun i hi => by have := h.free i hi; unfold World.frozen? at this ⊢; rw [hb]; exact this⟩
theorem Four.alloc {w : World} {g : Nat} {x : Nat → Int} (h : Four w g x) (o : Obj) : Four (w.alloc o) g x := h.kept (heap_alloc_old w o h.lt)
theorem Four.other {w : World} {g g' : Nat} {x : Nat → Int} (h : Four w g x) (k : Nat) (v : Value) (hne : g ≠ g') : Four (w.setCell ⟨g', k, none⟩ v) g x := h.kept (heap_setCell_other w _ g v hne)
theorem Four.new (W : World) (a b c d : Int) (t : TypeId) : Four (W.alloc (.cells #[.int .u64 a, .int .u64 b, .int .u64 c, .int .u64 d] t)) W.heap.size (fun i => if i = 0 then a else if i = 1 then b else if i = 2 then c else d) := by
 refine ⟨fun i hi => ?_, fun i hi => ?_⟩
 · have : i = 0 ∨ i = 1 ∨ i = 2 ∨ i = 3 := by omega
   rcases this with rfl | rfl | rfl | rfl <;> simp [go_sem]
 · have : i = 0 ∨ i = 1 ∨ i = 2 ∨ i = 3 := by omega
   rcases this with rfl | rfl | rfl | rfl <;> simp [go_sem]
theorem Four.newP (W : World) (P : Nat → Bool) (t : TypeId) : Four (W.alloc (.cells #[.int .u64 (wd P 0), .int .u64 (wd P 1), .int .u64 (wd P 2), .int .u64 (wd P 3)] t)) W.heap.size (wd P) :=
 (Four.new W _ _ _ _ t).congr fun i hi => by
  have : i = 0 ∨ i = 1 ∨ i = 2 ∨ i = 3 := by omega
  rcases this with rfl | rfl | rfl | rfl <;> simp
def mixed (k : Nat) (P Q : Nat → Bool) (i : Nat) : Int := if i < k then wd P i else wd Q i
theorem index_word (Q : Nat → Bool) (k : Nat) (hk : k < 4) (W : World) :
 (Instr.index 81 (.agg #[.int .u64 (wd Q 0), .int .u64 (wd Q 1), .int .u64 (wd Q 2), .int .u64 (wd Q 3)]) (.int .i64 (k : Int))).run Tryd.prog W = .ok (.int .u64 (wd Q k)) W := by
 have i0 : ∀ (a b c d : Value) (W : World), (Instr.index 81 (.agg #[a, b, c, d]) (.int .i64 0)).run Tryd.prog W = .ok a W := fun a b c d W => by kernel_rfl
 have i1 : ∀ (a b c d : Value) (W : World), (Instr.index 81 (.agg #[a, b, c, d]) (.int .i64 1)).run Tryd.prog W = .ok b W := fun a b c d W => by kernel_rfl
 have i2 : ∀ (a b c d : Value) (W : World), (Instr.index 81 (.agg #[a, b, c, d]) (.int .i64 2)).run Tryd.prog W = .ok c W := fun a b c d W => by kernel_rfl
 have i3 : ∀ (a b c d : Value) (W : World), (Instr.index 81 (.agg #[a, b, c, d]) (.int .i64 3)).run Tryd.prog W = .ok d W := fun a b c d W => by kernel_rfl
 have : k = 0 ∨ k = 1 ∨ k = 2 ∨ k = 3 := by omega
 rcases this with rfl | rfl | rfl | rfl
 · exact i0 _ _ _ _ W
 · exact i1 _ _ _ _ W
 · exact i2 _ _ _ _ W
 · exact i3 _ _ _ _ W
structure Sub (w wr : World) (x : Nat → Int) : Prop where
 s : Four wr w.heap.size x
 r : Four wr (w.heap.size + 2) (fun _ => 0)
 b : Below w.heap.size w wr
theorem Sub.set {w wr : World} {x : Nat → Int} (h : Sub w wr x) (k : Nat) (y : Int) : Sub w (wr.setCell ⟨w.heap.size, k, none⟩ (.int .u64 y)) (fun i => if i = k then y else x i) :=
 ⟨h.s.set k y, h.r.other k _ (by omega), h.b.setCell (Nat.le_refl _) _⟩
set_option maxHeartbeats 800000 in
theorem chars_Minus.calls (P Q : Nat → Bool) (w : World) :
 Calls Tryd.prog 84 #[setV P, setV Q] w fun e w' => e = .returned (setV fun j => P j && !Q j) ∧ Below w.heap.size w w' := by
 unfold setV
 go_enter Tryd.func84, Tryd.ntmps84
 go_wp2
 go_loopw [5, 6, 8] (fun _ _ i wr => ∃ k : Nat, k ≤ 4 ∧ i = .int .i64 k ∧ Hid (Sub w wr (mixed k (fun j => P j && !Q j) P))) (fun _ _ i _ => 4 - (intOf i).toNat)
 case atStart =>
  refine ⟨0, Nat.zero_le _, rfl, Lib.hid ⟨?_, ?_, ?_⟩⟩
  · exact (((Four.newP w P _).alloc _).alloc _).congr fun i hi => by simp [mixed]
  · have := Four.new ((w.alloc (.cells #[.int .u64 (wd P 0), .int .u64 (wd P 1), .int .u64 (wd P 2), .int .u64 (wd P 3)] 81)).alloc (.cells #[.int .u64 (wd Q 0), .int .u64 (wd Q 1), .int .u64 (wd Q 2), .int .u64 (wd Q 3)] 81)) 0 0 0 0 81
    simp only [World.size_alloc] at this
    exact this.congr fun i hi => by simp
  · exact (((Below.refl _ _).alloc (Nat.le_refl _) _).alloc (by simp) _).alloc (by simp; omega) _
 case round =>
  obtain ⟨k, hk, rfl, HT⟩ := hrel
  by_cases hlt : k < 4
  · have hidx := index_word Q k hlt
    have c := HT.out.s.cell k hlt
    have f := HT.out.s.free k hlt
    rw [show mixed k (fun j => P j && !Q j) P k = wd P k by simp [mixed]] at c
    have hw := Lib.hid (wd_andNot P Q k)
    go_wp2
    rw [hw.out]
    go_roundw
    case rel =>
     refine ⟨k + 1, by omega, by go_num, Lib.hid ?_⟩
     have h := HT.out.set k (wd (fun j => P j && !Q j) k)
     refine ⟨h.s.congr fun i hi => ?_, h.r, h.b⟩
     unfold mixed
     by_cases e : i = k
     · subst e; simp
     · by_cases e2 : i < k
       · simp [e, e2, show i < k + 1 by omega]
       · simp [e, e2, show ¬ i < k + 1 by omega]
    case measure => simp [intOf]; omega
  · obtain rfl : k = 4 := by omega
    have c0 := HT.out.s.cell 0 (by omega)
    have c1 := HT.out.s.cell 1 (by omega)
    have c2 := HT.out.s.cell 2 (by omega)
    have c3 := HT.out.s.cell 3 (by omega)
    have r0 := HT.out.r.cell 0 (by omega)
    have r1 := HT.out.r.cell 1 (by omega)
    have r2 := HT.out.r.cell 2 (by omega)
    have r3 := HT.out.r.cell 3 (by omega)
    have f0 := HT.out.r.free 0 (by omega)
    have f1 := HT.out.r.free 1 (by omega)
    have f2 := HT.out.r.free 2 (by omega)
    have f3 := HT.out.r.free 3 (by omega)
    simp only [mixed] at c0 c1 c2 c3
    go_wp2
    refine bodyPost_ret (v := setV fun j => P j && !Q j) ?_ rfl ⟨rfl, (((HT.out.b.setCell (by simp; omega) _).setCell (by simp; omega) _).setCell (by simp; omega) _).setCell (by simp; omega) _⟩
    simp [results, Tryd.results84, go_sem, setV, r0, r1, r2, r3]
def SetsAt (w : World) (b : Nat) (Ps : List (Nat → Bool)) : Prop := ∀ i, i < Ps.length → ∀ j, j < 4 → w.cell? ⟨b, i * 4 + j, none⟩ = some (.int .u64 (wd (Ps.getD i fun _ => false) j))
def anyOf (Ps : List (Nat → Bool)) (j : Nat) : Bool := Ps.any fun P => P j
structure Uni (w wr : World) (x : Nat → Int) : Prop where
 s : Four wr (w.heap.size + 1) x
 r : Four wr w.heap.size (fun _ => 0)
 b : Below w.heap.size w wr
set_option maxHeartbeats 800000 in
theorem chars_Union.calls (b c : Nat) (Ps : List (Nat → Bool)) (hn : Ps.length ≤ 100) (w : World) (hp : SetsAt w b Ps) (hb : b < w.heap.size) :
 Calls Tryd.prog 70 #[.slice (some ⟨b, 0, none⟩) Ps.length c] w fun e w' => e = .returned (setV (anyOf Ps)) ∧ Below w.heap.size w w' := by
 have HP := Lib.hid hp
 clear hp
 go_enter Tryd.func70, Tryd.ntmps70
 go_wp2
 go_loopw [5, 6, 7, 10] (fun _ _ _ i wr => ∃ k : Nat, k ≤ Ps.length ∧ i = .int .i64 k ∧ Hid (Uni w wr (wd (anyOf (Ps.take k))))) (fun _ _ _ i _ => Ps.length - (intOf i).toNat)
 case atStart =>
  refine ⟨0, Nat.zero_le _, rfl, Lib.hid ⟨?_, ?_, ((Below.refl _ _).alloc (Nat.le_refl _) _).alloc (by simp) _⟩⟩
  · have := Four.new (w.alloc (.cells #[.int .u64 0, .int .u64 0, .int .u64 0, .int .u64 0] 81)) 0 0 0 0 81
    simp only [World.size_alloc] at this
    exact this.congr fun i hi => by rw [show (anyOf (Ps.take 0)) = fun _ => false from rfl, wd_empty]; simp
  · exact ((Four.new w 0 0 0 0 _).alloc _).congr fun i hi => by simp
 case round =>
  obtain ⟨k, hk, rfl, HT⟩ := hrel
  by_cases hlt : k < Ps.length
  · have c0 := (HT.out.b.cell (p := ⟨b, k * 4 + 0, none⟩) hb).trans (HP.out k hlt 0 (by omega))
    have c1 := (HT.out.b.cell (p := ⟨b, k * 4 + 1, none⟩) hb).trans (HP.out k hlt 1 (by omega))
    have c2 := (HT.out.b.cell (p := ⟨b, k * 4 + 2, none⟩) hb).trans (HP.out k hlt 2 (by omega))
    have c3 := (HT.out.b.cell (p := ⟨b, k * 4 + 3, none⟩) hb).trans (HP.out k hlt 3 (by omega))
    simp only [Nat.add_zero] at c0
    obtain ⟨R, hR⟩ : ∃ R, R = Ps.getD k fun _ => false := ⟨_, rfl⟩
    rw [← hR] at c0 c1 c2 c3
    have HR : Hid (anyOf (Ps.take (k + 1)) = fun j => anyOf (Ps.take k) j || R j) := Lib.hid (by
     funext j
     rw [hR, List.take_succ_eq_append_getElem hlt, List.getD_eq_getElem?_getD, List.getElem?_eq_getElem hlt]
     simp only [anyOf, List.any_append, List.any_cons, List.any_nil, Bool.or_false, Option.getD_some])
    clear hR
    obtain ⟨O, hO⟩ : ∃ O, O = anyOf (Ps.take k) := ⟨_, rfl⟩
    rw [← hO] at HT HR
    clear hO
    obtain ⟨wo, rfl⟩ : ∃ wo : World, wo = wr := ⟨_, rfl⟩
    go_wp2
    go_loopw [6, 7, 15] (fun _ _ i wr => ∃ q : Nat, q ≤ 4 ∧ i = .int .i64 q ∧ Hid (Uni w wr (mixed q (fun j => O j || R j) O))) (fun _ _ i _ => 4 - (intOf i).toNat)
    case atStart =>
     refine ⟨0, Nat.zero_le _, rfl, Lib.hid ⟨?_, HT.out.r.alloc _, HT.out.b.alloc HT.out.b.size _⟩⟩
     exact (HT.out.s.alloc _).congr fun i hi => by simp [mixed]
    case round =>
     obtain ⟨q, hq, rfl, HU⟩ := hrel
     by_cases hq4 : q < 4
     · have hidx := index_word R q hq4
       have c := HU.out.s.cell q hq4
       have f := HU.out.s.free q hq4
       rw [show mixed q (fun j => O j || R j) O q = wd O q by simp [mixed]] at c
       have hw := Lib.hid (wd_or O R q)
       go_wp2
       rw [hw.out]
       go_roundw
       case rel =>
        refine ⟨q + 1, by omega, by go_num, Lib.hid ⟨(HU.out.s.set q (wd (fun j => O j || R j) q)).congr fun i hi => ?_, HU.out.r.other q _ (by omega), HU.out.b.setCell (by simp) _⟩⟩
        unfold mixed
        by_cases e : i = q
        · subst e; simp
        · by_cases e2 : i < q
          · simp [e, e2, show i < q + 1 by omega]
          · simp [e, e2, show ¬ i < q + 1 by omega]
       case measure => simp [intOf]; omega
     · obtain rfl : q = 4 := by omega
       go_wp2
       go_roundw
       case rel =>
        refine ⟨k + 1, by omega, by go_num, Lib.hid ⟨?_, HU.out.r, HU.out.b⟩⟩
        rw [HR.out]
        exact HU.out.s.congr fun i hi => by simp [mixed, hi]
       case measure => simp [intOf]; omega
  · have E := Lib.hid (show Ps.take k = Ps from List.take_of_length_le (by omega))
    obtain ⟨O, hO⟩ : ∃ O, O = anyOf (Ps.take k) := ⟨_, rfl⟩
    rw [← hO] at HT
    have EO := Lib.hid (show O = anyOf Ps by rw [hO, E.out])
    clear hO E
    have c0 := HT.out.s.cell 0 (by omega)
    have c1 := HT.out.s.cell 1 (by omega)
    have c2 := HT.out.s.cell 2 (by omega)
    have c3 := HT.out.s.cell 3 (by omega)
    have r0 := HT.out.r.cell 0 (by omega)
    have r1 := HT.out.r.cell 1 (by omega)
    have r2 := HT.out.r.cell 2 (by omega)
    have r3 := HT.out.r.cell 3 (by omega)
    have f0 := HT.out.r.free 0 (by omega)
    have f1 := HT.out.r.free 1 (by omega)
    have f2 := HT.out.r.free 2 (by omega)
    have f3 := HT.out.r.free 3 (by omega)
    go_wp2
    refine bodyPost_ret (v := setV O) ?_ rfl ⟨by rw [EO.out], (((HT.out.b.setCell (Nat.le_refl _) _).setCell (Nat.le_refl _) _).setCell (Nat.le_refl _) _).setCell (Nat.le_refl _) _⟩
    simp [results, Tryd.results70, go_sem, setV, r0, r1, r2, r3]
def chars_Set_Has.f (P : Nat → Bool) (c : Int) : Option Bool := if 0 ≤ c ∧ c ≤ 255 then some (P c.toNat) else none
set_option maxHeartbeats 400000 in
theorem chars_Set_Has.calls (P : Nat → Bool) (c : Int) (r : Bool) (w : World) (h : chars_Set_Has.f P c = some r) :
 Calls Tryd.prog 50 #[setV P, .int .u8 c] w fun e w' => e = .returned (.bool r) ∧ Below w.heap.size w w' := by
 unfold chars_Set_Has.f at h
 split at h
 · rename_i hc
   obtain ⟨h0, h1⟩ := hc
   injection h with h
   have hw := wd_has P c h0
   rw [h] at hw
   have HW := Lib.hid hw
   clear h hw
   have h2 : 0 ≤ c / 64 := by omega
   have h3 : c / 64 < 4 := by omega
   have h4 : 0 ≤ c % 64 := by omega
   have h5 : c % 64 < 64 := by omega
   have cc := ((Four.newP w P 81).cell (c / 64).toNat (by omega))
   unfold setV
   go_enter Tryd.func50, Tryd.ntmps50
   go_wp2
   rw [HW.out]
   go_ret
   exact ⟨rfl, (Below.refl _ _).alloc (Nat.le_refl _) _⟩
 · cases h
def chars_Digit.f : Option (Nat → Bool) := some isDigit
def chars_Alpha.f : Option (Nat → Bool) := some isAlpha
def chars_Hex.f : Option (Nat → Bool) := some isHex
def chars_Word.f : Option (Nat → Bool) := some isWord
def chars_Literal.f : Option (Nat → Bool) := some isLit
structure Res (w wr : World) : Prop where
 r : Four wr w.heap.size (fun _ => 0)
 b : Below w.heap.size w wr
theorem Res.new (w : World) : Res w (w.alloc (.cells #[.int .u64 0, .int .u64 0, .int .u64 0, .int .u64 0] 81)) :=
 ⟨(Four.new w 0 0 0 0 _).congr fun i hi => by simp, (Below.refl _ _).alloc (Nat.le_refl _) _⟩
theorem Res.step {w wr w1 : World} (h : Res w wr) (hb : Below wr.heap.size wr w1) : Res w w1 :=
 ⟨h.r.kept (hb.block _ h.r.lt), below_then h.b h.b.size hb⟩
theorem Res.alloc {w wr : World} (h : Res w wr) (o : Obj) : Res w (wr.alloc o) := ⟨h.r.alloc o, h.b.alloc h.b.size o⟩
theorem Res.done {w wr : World} (h : Res w wr) (a b c d : Value) : Below w.heap.size w ((((wr.setCell ⟨w.heap.size, 0, none⟩ a).setCell ⟨w.heap.size, 1, none⟩ b).setCell ⟨w.heap.size, 2, none⟩ c).setCell ⟨w.heap.size, 3, none⟩ d) :=
 (((h.b.setCell (Nat.le_refl _) _).setCell (Nat.le_refl _) _).setCell (Nat.le_refl _) _).setCell (Nat.le_refl _) _
theorem SetsAt.two (W : World) (P Q : Nat → Bool) (t : TypeId) : SetsAt (W.alloc (.cells #[.int .u64 (wd P 0), .int .u64 (wd P 1), .int .u64 (wd P 2), .int .u64 (wd P 3), .int .u64 (wd Q 0), .int .u64 (wd Q 1), .int .u64 (wd Q 2), .int .u64 (wd Q 3)] t)) W.heap.size [P, Q] := by
 intro i hi j hj
 have : i = 0 ∨ i = 1 := by simp at hi; omega
 have h2 : j = 0 ∨ j = 1 ∨ j = 2 ∨ j = 3 := by omega
 rcases this with rfl | rfl <;> rcases h2 with rfl | rfl | rfl | rfl <;> simp [go_sem]
theorem SetsAt.three (W : World) (P Q R : Nat → Bool) (t : TypeId) : SetsAt (W.alloc (.cells #[.int .u64 (wd P 0), .int .u64 (wd P 1), .int .u64 (wd P 2), .int .u64 (wd P 3), .int .u64 (wd Q 0), .int .u64 (wd Q 1), .int .u64 (wd Q 2), .int .u64 (wd Q 3), .int .u64 (wd R 0), .int .u64 (wd R 1), .int .u64 (wd R 2), .int .u64 (wd R 3)] t)) W.heap.size [P, Q, R] := by
 intro i hi j hj
 have : i = 0 ∨ i = 1 ∨ i = 2 := by simp at hi; omega
 have h2 : j = 0 ∨ j = 1 ∨ j = 2 ∨ j = 3 := by omega
 rcases this with rfl | rfl | rfl <;> rcases h2 with rfl | rfl | rfl | rfl <;> simp [go_sem]
set_option maxHeartbeats 400000 in
theorem chars_Digit.calls (r : Nat → Bool) (w : World) (h : chars_Digit.f = some r) :
 Calls Tryd.prog 71 #[] w fun e w' => e = .returned (setV r) ∧ Below w.heap.size w w' := by
 injection h with h
 have HR := Lib.hid (show (fun j : Nat => decide ((48 : Int) ≤ j) && decide ((j : Int) ≤ 57)) = r from h)
 clear h
 go_enter Tryd.func71, Tryd.ntmps71
 go_wp2_with fail
 refine (chars_Range.calls 48 57 (by omega) (by omega) (by omega) (by omega) _).mono ?_
 rintro e w1 ⟨rfl, hb⟩
 rw [HR.out]
 have S := Lib.hid ((Res.new w).step hb)
 clear hb
 unfold setV
 have r0 := S.out.r.cell 0 (by omega)
 have r1 := S.out.r.cell 1 (by omega)
 have r2 := S.out.r.cell 2 (by omega)
 have r3 := S.out.r.cell 3 (by omega)
 have f0 := S.out.r.free 0 (by omega)
 have f1 := S.out.r.free 1 (by omega)
 have f2 := S.out.r.free 2 (by omega)
 have f3 := S.out.r.free 3 (by omega)
 go_wp2
 refine bodyPost_ret (v := setV r) ?_ rfl ⟨rfl, S.out.done _ _ _ _⟩
 simp [results, Tryd.results71, go_sem, setV, r0, r1, r2, r3]
set_option maxHeartbeats 800000 in
theorem chars_Alpha.calls (r : Nat → Bool) (w : World) (h : chars_Alpha.f = some r) :
 Calls Tryd.prog 111 #[] w fun e w' => e = .returned (setV r) ∧ Below w.heap.size w w' := by
 injection h with h
 subst h
 go_enter Tryd.func111, Tryd.ntmps111
 have S0 := Lib.hid (Res.new w)
 go_wp2_with fail
 refine (chars_Range.calls 65 90 (by omega) (by omega) (by omega) (by omega) _).mono ?_
 rintro e w1 ⟨rfl, hb⟩
 have S1 := Lib.hid (S0.out.step hb)
 clear hb S0
 go_wp2_with fail
 refine (chars_Range.calls 97 122 (by omega) (by omega) (by omega) (by omega) _).mono ?_
 rintro e w2 ⟨rfl, hb⟩
 have S2 := Lib.hid (S1.out.step hb)
 clear hb S1
 unfold setV
 go_wp2_with fail
 refine (chars_Union.calls _ _ [isUpper, isLower] (by simp) _ (SetsAt.two _ _ _ _) (by simp)).mono ?_
 rintro e w9 ⟨rfl, hb⟩
 have S9 := Lib.hid ((S2.out.alloc _).step hb)
 clear hb S2
 rw [show setV (anyOf [isUpper, isLower]) = setV isAlpha from setV_ext fun j _ => by simp [anyOf, isAlpha]]
 unfold setV
 have r0 := S9.out.r.cell 0 (by omega)
 have r1 := S9.out.r.cell 1 (by omega)
 have r2 := S9.out.r.cell 2 (by omega)
 have r3 := S9.out.r.cell 3 (by omega)
 have f0 := S9.out.r.free 0 (by omega)
 have f1 := S9.out.r.free 1 (by omega)
 have f2 := S9.out.r.free 2 (by omega)
 have f3 := S9.out.r.free 3 (by omega)
 go_wp2
 refine bodyPost_ret (v := setV isAlpha) ?_ rfl ⟨rfl, S9.out.done _ _ _ _⟩
 simp [results, Tryd.results111, go_sem, setV, r0, r1, r2, r3]
set_option maxHeartbeats 800000 in
theorem chars_Hex.calls (r : Nat → Bool) (w : World) (h : chars_Hex.f = some r) :
 Calls Tryd.prog 49 #[] w fun e w' => e = .returned (setV r) ∧ Below w.heap.size w w' := by
 injection h with h
 subst h
 go_enter Tryd.func49, Tryd.ntmps49
 have S0 := Lib.hid (Res.new w)
 go_wp2_with fail
 refine (chars_Digit.calls _ _ rfl).mono ?_
 rintro e w1 ⟨rfl, hb⟩
 have S1 := Lib.hid (S0.out.step hb)
 clear hb S0
 go_wp2_with fail
 refine (chars_Range.calls 65 70 (by omega) (by omega) (by omega) (by omega) _).mono ?_
 rintro e w2 ⟨rfl, hb⟩
 have S2 := Lib.hid (S1.out.step hb)
 clear hb S1
 go_wp2_with fail
 refine (chars_Range.calls 97 102 (by omega) (by omega) (by omega) (by omega) _).mono ?_
 rintro e w3 ⟨rfl, hb⟩
 have S3 := Lib.hid (S2.out.step hb)
 clear hb S2
 unfold setV
 go_wp2_with fail
 refine (chars_Union.calls _ _ [isDigit, isAF, isaf] (by simp) _ (SetsAt.three _ _ _ _ _) (by simp)).mono ?_
 rintro e w9 ⟨rfl, hb⟩
 have S9 := Lib.hid ((S3.out.alloc _).step hb)
 clear hb S3
 rw [show setV (anyOf [isDigit, isAF, isaf]) = setV isHex from setV_ext fun j _ => by simp [anyOf, isHex, Bool.or_assoc]]
 unfold setV
 have r0 := S9.out.r.cell 0 (by omega)
 have r1 := S9.out.r.cell 1 (by omega)
 have r2 := S9.out.r.cell 2 (by omega)
 have r3 := S9.out.r.cell 3 (by omega)
 have f0 := S9.out.r.free 0 (by omega)
 have f1 := S9.out.r.free 1 (by omega)
 have f2 := S9.out.r.free 2 (by omega)
 have f3 := S9.out.r.free 3 (by omega)
 go_wp2
 refine bodyPost_ret (v := setV isHex) ?_ rfl ⟨rfl, S9.out.done _ _ _ _⟩
 simp [results, Tryd.results49, go_sem, setV, r0, r1, r2, r3]
set_option maxHeartbeats 800000 in
theorem chars_Word.calls (r : Nat → Bool) (w : World) (h : chars_Word.f = some r) :
 Calls Tryd.prog 102 #[] w fun e w' => e = .returned (setV r) ∧ Below w.heap.size w w' := by
 injection h with h
 subst h
 go_enter Tryd.func102, Tryd.ntmps102
 have S0 := Lib.hid (Res.new w)
 go_wp2_with fail
 refine (chars_Alpha.calls _ _ rfl).mono ?_
 rintro e w1 ⟨rfl, hb⟩
 have S1 := Lib.hid (S0.out.step hb)
 clear hb S0
 go_wp2_with fail
 refine (chars_Digit.calls _ _ rfl).mono ?_
 rintro e w2 ⟨rfl, hb⟩
 have S2 := Lib.hid (S1.out.step hb)
 clear hb S1
 go_wp2_with fail
 refine (chars_Of.calls ⟨#[95]⟩ (by decide) _).mono ?_
 rintro e w3 ⟨rfl, hb⟩
 have S3 := Lib.hid (S2.out.step hb)
 clear hb S2
 unfold setV
 go_wp2_with fail
 refine (chars_Union.calls _ _ [isAlpha, isDigit, inText ⟨#[95]⟩] (by simp) _ (SetsAt.three _ _ _ _ _) (by simp)).mono ?_
 rintro e w9 ⟨rfl, hb⟩
 have S9 := Lib.hid ((S3.out.alloc _).step hb)
 clear hb S3
 rw [show setV (anyOf [isAlpha, isDigit, inText ⟨#[95]⟩]) = setV isWord from setV_ext fun j _ => by simp [anyOf, isWord, Bool.or_assoc, inText]]
 unfold setV
 have r0 := S9.out.r.cell 0 (by omega)
 have r1 := S9.out.r.cell 1 (by omega)
 have r2 := S9.out.r.cell 2 (by omega)
 have r3 := S9.out.r.cell 3 (by omega)
 have f0 := S9.out.r.free 0 (by omega)
 have f1 := S9.out.r.free 1 (by omega)
 have f2 := S9.out.r.free 2 (by omega)
 have f3 := S9.out.r.free 3 (by omega)
 go_wp2
 refine bodyPost_ret (v := setV isWord) ?_ rfl ⟨rfl, S9.out.done _ _ _ _⟩
 simp [results, Tryd.results102, go_sem, setV, r0, r1, r2, r3]
set_option maxHeartbeats 800000 in
theorem chars_Literal.calls (r : Nat → Bool) (w : World) (h : chars_Literal.f = some r) :
 Calls Tryd.prog 67 #[] w fun e w' => e = .returned (setV r) ∧ Below w.heap.size w w' := by
 injection h with h
 subst h
 go_enter Tryd.func67, Tryd.ntmps67
 have S0 := Lib.hid (Res.new w)
 go_wp2_with fail
 refine (chars_Range.calls 33 126 (by omega) (by omega) (by omega) (by omega) _).mono ?_
 rintro e w1 ⟨rfl, hb⟩
 have S1 := Lib.hid (S0.out.step hb)
 clear hb S0
 go_wp2_with fail
 refine (chars_Of.calls ⟨#[34, 39, 37, 60, 62, 92, 94, 96, 123, 124, 125]⟩ (by decide) _).mono ?_
 rintro e w2 ⟨rfl, hb⟩
 have S2 := Lib.hid (S1.out.step hb)
 clear hb S1
 go_wp2_with fail
 refine (chars_Minus.calls _ _ _).mono ?_
 rintro e w3 ⟨rfl, hb⟩
 have S9 := Lib.hid (S2.out.step hb)
 clear hb S2
 rw [show (setV fun j => (decide ((33 : Int) ≤ (j : Int)) && decide ((j : Int) ≤ 126)) && !inText ⟨#[34, 39, 37, 60, 62, 92, 94, 96, 123, 124, 125]⟩ j) = setV isLit from rfl]
 unfold setV
 have r0 := S9.out.r.cell 0 (by omega)
 have r1 := S9.out.r.cell 1 (by omega)
 have r2 := S9.out.r.cell 2 (by omega)
 have r3 := S9.out.r.cell 3 (by omega)
 have f0 := S9.out.r.free 0 (by omega)
 have f1 := S9.out.r.free 1 (by omega)
 have f2 := S9.out.r.free 2 (by omega)
 have f3 := S9.out.r.free 3 (by omega)
 go_wp2
 refine bodyPost_ret (v := setV isLit) ?_ rfl ⟨rfl, S9.out.done _ _ _ _⟩
 simp [results, Tryd.results67, go_sem, setV, r0, r1, r2, r3]
end Go.Proofs.YtkipkbggnfllkaaDoor.P
end
section
namespace Go.Proofs.YtkipkbggnfllkaaDoor.P
open Go.RowKit Go.Proofs.YtkipkbggnfllkaaDoorW.PrintWords Go.Proofs.YtkipkbggnfllkaaDoorW.PrintLast Go.Proofs.YtkipkbggnfllkaaDoorW.PrintMore
attribute [local go_sem] max2_int min2_int max_two min_two max_three min_three max_four min_four
set_option linter.unusedVariables false
set_option linter.unusedSimpArgs false
mutual
def pct_Digit.j0 : Nat → Int → Bool → Option (Int × Bool)
 | 0, _, _ => none
 | k + 1, x0, x4 => if x4 = true then (some ((x0 - 48) % 256, true)) else (if x0 ≥ 65 then (pct_Digit.j1 k x0 (decide (x0 ≤ 70))) else (pct_Digit.j1 k x0 false))
def pct_Digit.j1 : Nat → Int → Bool → Option (Int × Bool)
 | 0, _, _ => none
 | k + 1, x0, x14 => if x14 = true then (some (((x0 - 65) % 256) + 10, true)) else (if x0 ≥ 97 then (if x0 ≤ 102 then (some (((x0 - 97) % 256) + 10, true)) else (some (0, false))) else (some (0, false)))
end
def pct_Digit.f (k : Nat) (a0 : Int) : Option (Int × Bool) := if a0 ≥ 48 then (pct_Digit.j0 k a0 (decide (a0 ≤ 57))) else (pct_Digit.j0 k a0 false)
theorem pct_Digit.mono_l : ∀ k, (∀ y0 y1, LeO (pct_Digit.j0 k y0 y1) (pct_Digit.j0 (k + 1) y0 y1)) ∧ (∀ y0 y1, LeO (pct_Digit.j1 k y0 y1) (pct_Digit.j1 (k + 1) y0 y1))
 | 0 => ⟨fun _ _ r h => by simp [pct_Digit.j0] at h, fun _ _ r h => by simp [pct_Digit.j1] at h⟩
 | k + 1 => by
  obtain ⟨ih0, ih1⟩ := pct_Digit.mono_l k
  refine ⟨?_, ?_⟩
  · intro y0 y1
    unfold pct_Digit.j0
    repeat' first
    | (with_reducible exact ih0 _ _)
    | (with_reducible exact ih1 _ _)
    | (with_reducible exact LeO.refl _)
    | (with_reducible exact LeO.none _)
    | (with_reducible refine LeO.ite ?_ ?_)
    | (with_reducible refine LeO.bind ?_ (fun _ => ?_))
    | exact ih0 _ _
    | exact ih1 _ _
    | exact LeO.none _
    | refine LeO.ite ?_ ?_
    | refine LeO.bind ?_ (fun _ => ?_)
  · intro y0 y1
    unfold pct_Digit.j1
    repeat' first
    | (with_reducible exact ih0 _ _)
    | (with_reducible exact ih1 _ _)
    | (with_reducible exact LeO.refl _)
    | (with_reducible exact LeO.none _)
    | (with_reducible refine LeO.ite ?_ ?_)
    | (with_reducible refine LeO.bind ?_ (fun _ => ?_))
    | exact ih0 _ _
    | exact ih1 _ _
    | exact LeO.none _
    | refine LeO.ite ?_ ?_
    | refine LeO.bind ?_ (fun _ => ?_)
theorem pct_Digit.mono : ∀ a0 k, LeO (pct_Digit.f k a0) (pct_Digit.f (k + 1) a0) := by
 intro a0 k
 obtain ⟨ih0, ih1⟩ := pct_Digit.mono_l k
 unfold pct_Digit.f
 repeat' first
  | (with_reducible exact ih0 _ _)
  | (with_reducible exact ih1 _ _)
  | (with_reducible exact LeO.refl _)
  | (with_reducible exact LeO.none _)
  | (with_reducible refine LeO.ite ?_ ?_)
  | (with_reducible refine LeO.bind ?_ (fun _ => ?_))
  | exact ih0 _ _
  | exact ih1 _ _
  | exact LeO.none _
  | refine LeO.ite ?_ ?_
  | refine LeO.bind ?_ (fun _ => ?_)
set_option maxHeartbeats 8000000 in
set_option maxRecDepth 100000 in
theorem pct_Digit.calls (k : Nat) (a0 : Int) (r1 : Int) (r2 : Bool) (w : World) (h : pct_Digit.f k a0 = some (r1, r2)) :
 Calls Tryd.prog 101 #[.int .u8 a0] w fun e w' => e = .returned (.tuple #[.int .i64 r1, .bool r2]) ∧ Drawn0 w w' := by
 have H : (if a0 ≥ 48 then (pct_Digit.j0 k a0 (decide (a0 ≤ 57))) else (pct_Digit.j0 k a0 false)) = some (r1, r2) := h
 clear h
 have HC2 := Aside0.mk H
 clear H
 go_enter Tryd.func101, Tryd.ntmps101
 go_upto_region 1 with (fail)
 go_cut [4] (fun v4 wc => ∃ (kq : Nat) (x4_1 : Bool), v4 = .bool x4_1 ∧ Aside0 (pct_Digit.j0 kq a0 x4_1 = some (r1, r2)) ∧ Aside0 (kq ≤ k) ∧ Drawn0 w wc)
 case first =>
  have H := HC2.out
  clear HC2
  by_cases c3 : a0 ≥ 48
  · rw [if_pos c3] at H
    have c3b0 : decide (48 ≤ a0) = true := decide_eq_true c3
    clear c3
    (first | rw [c3b0] | (simp only [i64_w, i32_w]; rw [c3b0]) | skip)
    have H' := Aside0.mk H
    clear H
    go_wp2
    go_meet
    case rel => exact ⟨_, (decide (a0 ≤ 57)), (by first | rfl | (simp; done) | (simp [*]; done)), H', ⟨by first | omega | exact Nat.le_refl _⟩, by repeat (first | exact Drawn0.refl _ | apply Drawn0.step)⟩
  · rw [if_neg c3] at H
    have c3b0 : decide (48 ≤ a0) = false := decide_eq_false c3
    clear c3
    (first | rw [c3b0] | (simp only [i64_w, i32_w]; rw [c3b0]) | skip)
    have H' := Aside0.mk H
    clear H
    go_wp2
    go_meet
    case rel => exact ⟨_, (false), (by first | rfl | (simp; done) | (simp [*]; done)), H', ⟨by first | omega | exact Nat.le_refl _⟩, by repeat (first | exact Drawn0.refl _ | apply Drawn0.step)⟩
 case rest =>
  clear HC2
  try clear c1
  try clear p2
  try clear c3
  try clear c3b0
  obtain ⟨kq, x4_1, rfl, HA, HJ1, ⟨mc1, rfl⟩⟩ := hcut
  cases kq with
  | zero => exact absurd HA.out (by simp [pct_Digit.j0])
  | succ kj1 =>
   have H := HA.out
   clear HA
   simp only [pct_Digit.j0] at H
   by_cases c4 : x4_1 = true
   · subst c4
     have H1 : (some ((a0 - 48) % 256, true)) = some (r1, r2) := by rw [if_pos rfl] at H; exact H
     clear H
     have H := H1
     clear H1
     simp only [Option.some.injEq, Prod.mk.injEq] at H
     obtain ⟨rfl, rfl⟩ := H
     go_wp2
     go_ret2
     exact ⟨by first | rfl | (simp; done) | (simp [*]; done), by repeat (first | exact Drawn0.refl _ | apply Drawn0.step)⟩
   · replace c4 := Bool.eq_false_iff.mpr c4
     subst c4
     have H1 : (if a0 ≥ 65 then (pct_Digit.j1 kj1 a0 (decide (a0 ≤ 70))) else (pct_Digit.j1 kj1 a0 false)) = some (r1, r2) := by rw [if_neg (show ¬ (false = true) by decide)] at H; exact H
     clear H
     have H := H1
     clear H1
     have HC5 := Aside0.mk H
     clear H
     go_upto_region 3 with (fail)
     go_cut [14] (fun v14 wc => ∃ (kq : Nat) (x14_4 : Bool), v14 = .bool x14_4 ∧ Aside0 (pct_Digit.j1 kq a0 x14_4 = some (r1, r2)) ∧ Aside0 (kq ≤ kj1) ∧ Drawn0 w wc)
     case first =>
      have H := HC5.out
      clear HC5
      by_cases c6 : a0 ≥ 65
      · rw [if_pos c6] at H
        have c6b0 : decide (65 ≤ a0) = true := decide_eq_true c6
        clear c6
        (first | rw [c6b0] | (simp only [i64_w, i32_w]; rw [c6b0]) | skip)
        have H' := Aside0.mk H
        clear H
        go_wp2
        go_meet
        case rel => exact ⟨_, (decide (a0 ≤ 70)), (by first | rfl | (simp; done) | (simp [*]; done)), H', ⟨by have := HJ1.out; first | omega | exact Nat.le_refl _⟩, by repeat (first | exact Drawn0.refl _ | apply Drawn0.step)⟩
      · rw [if_neg c6] at H
        have c6b0 : decide (65 ≤ a0) = false := decide_eq_false c6
        clear c6
        (first | rw [c6b0] | (simp only [i64_w, i32_w]; rw [c6b0]) | skip)
        have H' := Aside0.mk H
        clear H
        go_wp2
        go_meet
        case rel => exact ⟨_, (false), (by first | rfl | (simp; done) | (simp [*]; done)), H', ⟨by have := HJ1.out; first | omega | exact Nat.le_refl _⟩, by repeat (first | exact Drawn0.refl _ | apply Drawn0.step)⟩
     case rest =>
      clear HC5
      try clear c1
      try clear p2
      try clear c3
      try clear c3b0
      try clear c4
      try clear c6
      try clear c6b0
      try clear p2
      obtain ⟨kq, x14_4, rfl, HA, HJ4, ⟨mc4, rfl⟩⟩ := hcut
      cases kq with
      | zero => exact absurd HA.out (by simp [pct_Digit.j1])
      | succ kj4 =>
       have H := HA.out
       clear HA
       simp only [pct_Digit.j1] at H
       by_cases c7 : x14_4 = true
       · subst c7
         have H1 : (some (((a0 - 65) % 256) + 10, true)) = some (r1, r2) := by rw [if_pos rfl] at H; exact H
         clear H
         have H := H1
         clear H1
         simp only [Option.some.injEq, Prod.mk.injEq] at H
         obtain ⟨rfl, rfl⟩ := H
         go_wp2
         go_ret2
         exact ⟨by first | rfl | (simp; done) | (simp [*]; done), by repeat (first | exact Drawn0.refl _ | apply Drawn0.step)⟩
       · replace c7 := Bool.eq_false_iff.mpr c7
         subst c7
         have H1 : (if a0 ≥ 97 then (if a0 ≤ 102 then (some (((a0 - 97) % 256) + 10, true)) else (some (0, false))) else (some (0, false))) = some (r1, r2) := by rw [if_neg (show ¬ (false = true) by decide)] at H; exact H
         clear H
         have H := H1
         clear H1
         by_cases c8 : a0 ≥ 97
         · rw [if_pos c8] at H
           have c8b0 : decide (97 ≤ a0) = true := decide_eq_true c8
           clear c8
           by_cases c9 : a0 ≤ 102
           · rw [if_pos c9] at H
             have c9b0 : decide (a0 ≤ 102) = true := decide_eq_true c9
             clear c9
             simp only [Option.some.injEq, Prod.mk.injEq] at H
             obtain ⟨rfl, rfl⟩ := H
             go_wp2
             go_ret2
             exact ⟨by first | rfl | (simp; done) | (simp [*]; done), by repeat (first | exact Drawn0.refl _ | apply Drawn0.step)⟩
           · rw [if_neg c9] at H
             have c9b0 : decide (a0 ≤ 102) = false := decide_eq_false c9
             clear c9
             simp only [Option.some.injEq, Prod.mk.injEq] at H
             obtain ⟨rfl, rfl⟩ := H
             go_wp2
             go_ret2
             exact ⟨by first | rfl | (simp; done) | (simp [*]; done), by repeat (first | exact Drawn0.refl _ | apply Drawn0.step)⟩
         · rw [if_neg c8] at H
           have c8b0 : decide (97 ≤ a0) = false := decide_eq_false c8
           clear c8
           simp only [Option.some.injEq, Prod.mk.injEq] at H
           obtain ⟨rfl, rfl⟩ := H
           go_wp2
           go_ret2
           exact ⟨by first | rfl | (simp; done) | (simp [*]; done), by repeat (first | exact Drawn0.refl _ | apply Drawn0.step)⟩
def pct_value.j0 : Nat → ByteArray → Bool → Option (Int × Bool)
 | 0, _, _ => none
 | k + 1, x0, x15 => if x15 = true then (some (0, false)) else (if 1 < (x0.size : Int) then ((pct_Digit.f k (bt x0 1)).bind fun bt306 => (if 2 < (x0.size : Int) then ((pct_Digit.f k (bt x0 2)).bind fun bt308 => (if bt306.2 = true then (some ((wrap64 ((wrap64 (16 * bt306.1)) + bt308.1)) % 256, bt308.2)) else (some ((wrap64 ((wrap64 (16 * bt306.1)) + bt308.1)) % 256, false)))) else (none))) else (none))
def pct_value.f (k : Nat) (a0 : ByteArray) : Option (Int × Bool) := if (a0.size : Int) < 3 then (pct_value.j0 k a0 true) else (if 0 < (a0.size : Int) then (pct_value.j0 k a0 ((bt a0 0) != 37)) else (none))
theorem pct_value.mono_l : ∀ k, (∀ y0 y1, LeO (pct_value.j0 k y0 y1) (pct_value.j0 (k + 1) y0 y1))
 | 0 => fun _ _ r h => by simp [pct_value.j0] at h
 | k + 1 => by
  have ih0 := pct_value.mono_l k
  · intro y0 y1
    unfold pct_value.j0
    repeat' first
    | (with_reducible exact ih0 _ _)
    | (with_reducible exact pct_Digit.mono _ _)
    | (with_reducible exact LeO.refl _)
    | (with_reducible exact LeO.none _)
    | (with_reducible refine LeO.ite ?_ ?_)
    | (with_reducible refine LeO.bind ?_ (fun _ => ?_))
    | exact ih0 _ _
    | exact pct_Digit.mono _ _
    | exact LeO.none _
    | refine LeO.ite ?_ ?_
    | refine LeO.bind ?_ (fun _ => ?_)
theorem pct_value.mono : ∀ a0 k, LeO (pct_value.f k a0) (pct_value.f (k + 1) a0) := by
 intro a0 k
 have ih0 := pct_value.mono_l k
 unfold pct_value.f
 repeat' first
  | (with_reducible exact ih0 _ _)
  | (with_reducible exact pct_Digit.mono _ _)
  | (with_reducible exact LeO.refl _)
  | (with_reducible exact LeO.none _)
  | (with_reducible refine LeO.ite ?_ ?_)
  | (with_reducible refine LeO.bind ?_ (fun _ => ?_))
  | exact ih0 _ _
  | exact pct_Digit.mono _ _
  | exact LeO.none _
  | refine LeO.ite ?_ ?_
  | refine LeO.bind ?_ (fun _ => ?_)
set_option maxHeartbeats 8000000 in
set_option maxRecDepth 100000 in
theorem pct_value.calls (k : Nat) (a0 : ByteArray) (r1 : Int) (r2 : Bool) (w : World) (h : pct_value.f k a0 = some (r1, r2)) :
 Calls Tryd.prog 86 #[.string a0] w fun e w' => e = .returned (.tuple #[.int .u8 r1, .bool r2]) ∧ Drawn0 w w' := by
 have H : (if (a0.size : Int) < 3 then (pct_value.j0 k a0 true) else (if 0 < (a0.size : Int) then (pct_value.j0 k a0 ((bt a0 0) != 37)) else (none))) = some (r1, r2) := h
 clear h
 have HC2 := Aside0.mk H
 clear H
 go_enter Tryd.func86, Tryd.ntmps86
 go_upto_region 1 with (fail)
 go_cut [15] (fun v15 wc => ∃ (kq : Nat) (x15_1 : Bool), v15 = .bool x15_1 ∧ Aside0 (pct_value.j0 kq a0 x15_1 = some (r1, r2)) ∧ Aside0 (kq ≤ k) ∧ Drawn0 w wc)
 case first =>
  have H := HC2.out
  clear HC2
  by_cases c3 : (a0.size : Int) < 3
  · rw [if_pos c3] at H
    have c3b0 : decide ((a0.size : Int) < 3) = true := decide_eq_true c3
    have c3b1 : decide (a0.size < 3) = true := decide_eq_true (by omega)
    clear c3
    (first | rw [c3b0] | (simp only [i64_w, i32_w]; rw [c3b0]) | skip)
    have H' := Aside0.mk H
    clear H
    go_wp2
    go_meet
    case rel => exact ⟨_, (true), (by first | rfl | (simp; done) | (simp [*]; done)), H', ⟨by first | omega | exact Nat.le_refl _⟩, by repeat (first | exact Drawn0.refl _ | apply Drawn0.step)⟩
  · rw [if_neg c3] at H
    have c3b0 : decide ((a0.size : Int) < 3) = false := decide_eq_false c3
    have c3b1 : decide (a0.size < 3) = false := decide_eq_false (by omega)
    clear c3
    (first | rw [c3b0] | (simp only [i64_w, i32_w]; rw [c3b0]) | skip)
    by_cases c4 : 0 < (a0.size : Int)
    · rw [if_pos c4] at H
      have c4b0 : decide (0 < (a0.size : Int)) = true := decide_eq_true c4
      have c4b1 : decide (0 < a0.size) = true := decide_eq_true (by omega)
      clear c4
      have H' := Aside0.mk H
      clear H
      have p5 : 0 ≤ (0 : Int) := (by omega)
      have q5 : 0 < a0.size := (by have : (0 : Int) < (a0.size : Int) := of_decide_eq_true (by first | (with_reducible assumption) | assumption); omega)
      have hx5 : ∀ h : 0 < a0.size, ((a0[0]'h).toNat : Int) = bt a0 0 := bt_at a0 0
      clear p5
      have qi5 : (0 < (a0.size : Int)) = True := eq_true (of_decide_eq_true (by first | (with_reducible assumption) | assumption))
      replace q5 := eq_true q5
      go_wp2
      go_meet
      case rel => exact ⟨_, (((bt a0 0) != 37)), (by first | rfl | (simp; done) | (simp [*]; done)), H', ⟨by first | omega | exact Nat.le_refl _⟩, by repeat (first | exact Drawn0.refl _ | apply Drawn0.step)⟩
    · rw [if_neg c4] at H
      exact absurd H (by simp)
 case rest =>
  clear HC2
  try clear p2
  try clear c3
  try clear c3b0
  try clear c3b1
  try clear c4
  try clear c4b0
  try clear c4b1
  try clear p5
  try clear q5
  try clear hx5
  try clear qi5
  try clear p5
  try clear q5
  obtain ⟨kq, x15_1, rfl, HA, HJ1, ⟨mc1, rfl⟩⟩ := hcut
  cases kq with
  | zero => exact absurd HA.out (by simp [pct_value.j0])
  | succ kj1 =>
   have H := HA.out
   clear HA
   simp only [pct_value.j0] at H
   by_cases c6 : x15_1 = true
   · subst c6
     have H1 : (some (0, false)) = some (r1, r2) := by rw [if_pos rfl] at H; exact H
     clear H
     have H := H1
     clear H1
     simp only [Option.some.injEq, Prod.mk.injEq] at H
     obtain ⟨rfl, rfl⟩ := H
     go_wp2
     go_ret2
     exact ⟨by first | rfl | (simp; done) | (simp [*]; done), by repeat (first | exact Drawn0.refl _ | apply Drawn0.step)⟩
   · replace c6 := Bool.eq_false_iff.mpr c6
     subst c6
     have H1 : (if 1 < (a0.size : Int) then ((pct_Digit.f kj1 (bt a0 1)).bind fun bt306 => (if 2 < (a0.size : Int) then ((pct_Digit.f kj1 (bt a0 2)).bind fun bt308 => (if bt306.2 = true then (some ((wrap64 ((wrap64 (16 * bt306.1)) + bt308.1)) % 256, bt308.2)) else (some ((wrap64 ((wrap64 (16 * bt306.1)) + bt308.1)) % 256, false)))) else (none))) else (none)) = some (r1, r2) := by rw [if_neg (show ¬ (false = true) by decide)] at H; exact H
     clear H
     have H := H1
     clear H1
     by_cases c7 : 1 < (a0.size : Int)
     · rw [if_pos c7] at H
       have c7b0 : decide (1 < (a0.size : Int)) = true := decide_eq_true c7
       have c7b1 : decide (1 < a0.size) = true := decide_eq_true (by omega)
       clear c7
       replace H := Option.bind_eq_some_iff.mp H
       obtain ⟨⟨t306, t307⟩, A90, H⟩ := H
       replace H : (if 2 < (a0.size : Int) then ((pct_Digit.f kj1 (bt a0 2)).bind fun bt308 => (if t307 = true then (some ((wrap64 ((wrap64 (16 * t306)) + bt308.1)) % 256, bt308.2)) else (some ((wrap64 ((wrap64 (16 * t306)) + bt308.1)) % 256, false)))) else (none)) = some (r1, r2) := H
       have A9 := Aside0.mk A90
       clear A90
       by_cases c10 : 2 < (a0.size : Int)
       · rw [if_pos c10] at H
         have c10b0 : decide (2 < (a0.size : Int)) = true := decide_eq_true c10
         have c10b1 : decide (2 < a0.size) = true := decide_eq_true (by omega)
         clear c10
         replace H := Option.bind_eq_some_iff.mp H
         obtain ⟨⟨t308, t309⟩, A120, H⟩ := H
         replace H : (if t307 = true then (some ((wrap64 ((wrap64 (16 * t306)) + t308)) % 256, t309)) else (some ((wrap64 ((wrap64 (16 * t306)) + t308)) % 256, false))) = some (r1, r2) := H
         have A12 := Aside0.mk A120
         clear A120
         by_cases c13 : t307 = true
         · subst c13
           have H1 : (some ((wrap64 ((wrap64 (16 * t306)) + t308)) % 256, t309)) = some (r1, r2) := by rw [if_pos rfl] at H; exact H
           clear H
           have H := H1
           clear H1
           simp only [Option.some.injEq, Prod.mk.injEq] at H
           obtain ⟨rfl, rfl⟩ := H
           have p8 : 0 ≤ (1 : Int) := (by omega)
           have q8 : 1 < a0.size := (by have : (1 : Int) < (a0.size : Int) := of_decide_eq_true (by first | (with_reducible assumption) | assumption); omega)
           have hx8 : ∀ h : 1 < a0.size, ((a0[1]'h).toNat : Int) = bt a0 1 := bt_at a0 1
           clear p8
           have qi8 : (1 < (a0.size : Int)) = True := eq_true (of_decide_eq_true (by first | (with_reducible assumption) | assumption))
           replace q8 := eq_true q8
           go_wp2_with (first | ((with_reducible refine gate_callee (f := 101) rfl ?_); refine goesL_ (some 19) rfl rfl Tryd.func101 (by kernel_rfl) rfl #[.int .u8 (bt a0 1)] rfl (by (try simp only [List.map_toArray, List.map_cons, List.map_nil]); first | done | rfl | (simp only [List.length_drop, List.length_take]; rfl)) ?_; (with_reducible refine (pct_Digit.calls kj1 (bt a0 1) t306 true _ A9.out).mono ?_); rintro e w' ⟨rfl, ⟨nd, rfl⟩⟩; refine ⟨_, rfl, ?_⟩; have p11 : 0 ≤ (2 : Int) := (by omega); have q11 : 2 < a0.size := (by have : (2 : Int) < (a0.size : Int) := of_decide_eq_true (by first | (with_reducible assumption) | assumption); omega); have hx11 : ∀ h : 2 < a0.size, ((a0[2]'h).toNat : Int) = bt a0 2 := bt_at a0 2; clear p11; have qi11 : (2 < (a0.size : Int)) = True := eq_true (of_decide_eq_true (by first | (with_reducible assumption) | assumption)); replace q11 := eq_true q11) | ((with_reducible refine gate_callee (f := 101) rfl ?_); refine goesL_ (some 25) rfl rfl Tryd.func101 (by kernel_rfl) rfl #[.int .u8 (bt a0 2)] rfl (by (try simp only [List.map_toArray, List.map_cons, List.map_nil]); first | done | rfl | (simp only [List.length_drop, List.length_take]; rfl)) ?_; (with_reducible refine (pct_Digit.calls kj1 (bt a0 2) t308 t309 _ A12.out).mono ?_); rintro e w' ⟨rfl, ⟨nd, rfl⟩⟩; refine ⟨_, rfl, ?_⟩))
           go_ret2
           exact ⟨by first | rfl | (simp; done) | (simp [*]; done), by repeat (first | exact Drawn0.refl _ | apply Drawn0.step)⟩
         · replace c13 := Bool.eq_false_iff.mpr c13
           subst c13
           have H1 : (some ((wrap64 ((wrap64 (16 * t306)) + t308)) % 256, false)) = some (r1, r2) := by rw [if_neg (show ¬ (false = true) by decide)] at H; exact H
           clear H
           have H := H1
           clear H1
           simp only [Option.some.injEq, Prod.mk.injEq] at H
           obtain ⟨rfl, rfl⟩ := H
           have p8 : 0 ≤ (1 : Int) := (by omega)
           have q8 : 1 < a0.size := (by have : (1 : Int) < (a0.size : Int) := of_decide_eq_true (by first | (with_reducible assumption) | assumption); omega)
           have hx8 : ∀ h : 1 < a0.size, ((a0[1]'h).toNat : Int) = bt a0 1 := bt_at a0 1
           clear p8
           have qi8 : (1 < (a0.size : Int)) = True := eq_true (of_decide_eq_true (by first | (with_reducible assumption) | assumption))
           replace q8 := eq_true q8
           go_wp2_with (first | ((with_reducible refine gate_callee (f := 101) rfl ?_); refine goesL_ (some 19) rfl rfl Tryd.func101 (by kernel_rfl) rfl #[.int .u8 (bt a0 1)] rfl (by (try simp only [List.map_toArray, List.map_cons, List.map_nil]); first | done | rfl | (simp only [List.length_drop, List.length_take]; rfl)) ?_; (with_reducible refine (pct_Digit.calls kj1 (bt a0 1) t306 false _ A9.out).mono ?_); rintro e w' ⟨rfl, ⟨nd, rfl⟩⟩; refine ⟨_, rfl, ?_⟩; have p11 : 0 ≤ (2 : Int) := (by omega); have q11 : 2 < a0.size := (by have : (2 : Int) < (a0.size : Int) := of_decide_eq_true (by first | (with_reducible assumption) | assumption); omega); have hx11 : ∀ h : 2 < a0.size, ((a0[2]'h).toNat : Int) = bt a0 2 := bt_at a0 2; clear p11; have qi11 : (2 < (a0.size : Int)) = True := eq_true (of_decide_eq_true (by first | (with_reducible assumption) | assumption)); replace q11 := eq_true q11) | ((with_reducible refine gate_callee (f := 101) rfl ?_); refine goesL_ (some 25) rfl rfl Tryd.func101 (by kernel_rfl) rfl #[.int .u8 (bt a0 2)] rfl (by (try simp only [List.map_toArray, List.map_cons, List.map_nil]); first | done | rfl | (simp only [List.length_drop, List.length_take]; rfl)) ?_; (with_reducible refine (pct_Digit.calls kj1 (bt a0 2) t308 t309 _ A12.out).mono ?_); rintro e w' ⟨rfl, ⟨nd, rfl⟩⟩; refine ⟨_, rfl, ?_⟩))
           go_ret2
           exact ⟨by first | rfl | (simp; done) | (simp [*]; done), by repeat (first | exact Drawn0.refl _ | apply Drawn0.step)⟩
       · rw [if_neg c10] at H
         exact absurd H (by simp)
     · rw [if_neg c7] at H
       exact absurd H (by simp)
def pct_Triplet.f (k : Nat) (a0 : ByteArray) : Option (Bool) := (pct_value.f k a0).bind fun bt310 => (some bt310.2)
theorem pct_Triplet.mono : ∀ a0 k, LeO (pct_Triplet.f k a0) (pct_Triplet.f (k + 1) a0) := by
 intro a0 k
 unfold pct_Triplet.f
 repeat' first
  | (with_reducible exact pct_value.mono _ _)
  | (with_reducible exact LeO.refl _)
  | (with_reducible exact LeO.none _)
  | (with_reducible refine LeO.ite ?_ ?_)
  | (with_reducible refine LeO.bind ?_ (fun _ => ?_))
  | exact pct_value.mono _ _
  | exact LeO.none _
  | refine LeO.ite ?_ ?_
  | refine LeO.bind ?_ (fun _ => ?_)
set_option maxHeartbeats 8000000 in
set_option maxRecDepth 100000 in
theorem pct_Triplet.calls (k : Nat) (a0 : ByteArray) (r : Bool) (w : World) (h : pct_Triplet.f k a0 = some r) :
 Calls Tryd.prog 68 #[.string a0] w fun e w' => e = .returned (.bool r) ∧ Drawn0 w w' := by
 have H : ((pct_value.f k a0).bind fun bt310 => (some bt310.2)) = some r := h
 clear h
 replace H := Option.bind_eq_some_iff.mp H
 obtain ⟨⟨t310, t311⟩, A20, H⟩ := H
 replace H : (some t311) = some r := H
 have A2 := Aside0.mk A20
 clear A20
 obtain rfl := Option.some.inj H
 go_enter Tryd.func68, Tryd.ntmps68
 go_wp2_with (first | ((with_reducible refine gate_callee (f := 86) rfl ?_); refine goesL_ (some 7) rfl rfl Tryd.func86 (by kernel_rfl) rfl #[.string a0] rfl (by (try simp only [List.map_toArray, List.map_cons, List.map_nil]); first | done | rfl | (simp only [List.length_drop, List.length_take]; rfl)) ?_; (with_reducible refine (pct_value.calls k a0 t310 t311 _ A2.out).mono ?_); rintro e w' ⟨rfl, ⟨nd, rfl⟩⟩; refine ⟨_, rfl, ?_⟩))
 go_ret
 exact ⟨by first | rfl | (simp; done) | (simp [*]; done), by repeat (first | exact Drawn0.refl _ | apply Drawn0.step)⟩
end Go.Proofs.YtkipkbggnfllkaaDoor.P
end
section
namespace Go.Proofs.YtkipkbggnfllkaaDoor.P
open Go.RowKit Go.Proofs.YtkipkbggnfllkaaDoorW.PrintWords Go.Proofs.YtkipkbggnfllkaaDoorW.PrintLast Go.Proofs.YtkipkbggnfllkaaDoorW.PrintMore
def isTriplet (s : ByteArray) : Bool := decide (3 ≤ s.size) && (bt s 0 == 37 && (isHex (bt s 1).toNat && isHex (bt s 2).toNat))
theorem pct_Digit_hex (c : Int) (h0 : 0 ≤ c) : ∃ n, pct_Digit.f 3 c = some (n, isHex c.toNat) := by
 have e : (c.toNat : Int) = c := Int.toNat_of_nonneg h0
 unfold pct_Digit.f
 simp only [pct_Digit.j0, pct_Digit.j1, isHex, isDigit, isAF, isaf, e]
 by_cases h1 : c ≥ 48 <;> by_cases h2 : c ≤ 57 <;> by_cases h3 : c ≥ 65 <;> by_cases h4 : c ≤ 70 <;> by_cases h5 : c ≥ 97 <;> by_cases h6 : c ≤ 102 <;> simp [h1, h2, h3, h4, h5, h6] <;> omega
theorem pct_Triplet_eq (s : ByteArray) : pct_Triplet.f 4 s = some (isTriplet s) := by
 unfold pct_Triplet.f pct_value.f isTriplet
 by_cases h : (s.size : Int) < 3
 · have h3 : ¬ 3 ≤ s.size := by omega
   rw [if_pos h]
   simp [pct_value.j0, h3]
 · have h3 : 3 ≤ s.size := by omega
   obtain ⟨n1, e1⟩ := pct_Digit_hex (bt s 1) (bt_range s 1).1
   obtain ⟨n2, e2⟩ := pct_Digit_hex (bt s 2) (bt_range s 2).1
   rw [if_neg h, if_pos (by omega)]
   simp only [pct_value.j0]
   by_cases hp : bt s 0 = 37
   · rw [if_neg (by simp [hp]), if_pos (by omega), e1]
     simp only [Option.bind_some]
     rw [if_pos (by omega), e2]
     simp only [Option.bind_some]
     cases isHex (bt s 1).toNat <;> simp [h3, hp]
   · rw [if_pos (by simp [hp])]
     simp [h3, hp]
def endsFrom (s : ByteArray) : Nat → Int → Int → Int × Int
 | 0, at_, end_ => (at_, end_)
 | k + 1, at_, end_ =>
  if at_ < s.size then
   (if isWord (bt s at_).toNat = true then endsFrom s k (at_ + 1) (at_ + 1)
    else if bt s at_ = 46 ∧ at_ > 0 ∧ at_ = end_ then endsFrom s k (at_ + 1) end_
    else if isTriplet (s.extract at_.toNat s.size) = true then endsFrom s k (at_ + 3) (at_ + 3)
    else if bt s at_ = 37 then (if at_ + 1 < s.size ∧ isHex (bt s (at_ + 1)).toNat = true then (at_ + 2, end_) else (at_ + 1, end_))
    else (at_, end_))
  else (at_, end_)
def vname_ends.f (s : ByteArray) : Option (Int × Int) := if s.size ≤ 1099511627776 then some (endsFrom s (s.size + 1) 0 0) else none
structure Sets2 (w wr : World) (g h : Nat) : Prop where
 s : Four wr g (wd isWord)
 x : Four wr h (wd isHex)
 b : Below w.heap.size w wr
theorem Sets2.step {w wr w1 : World} {g h : Nat} (H : Sets2 w wr g h) (hb : Below wr.heap.size wr w1) : Sets2 w w1 g h :=
 ⟨H.s.kept (hb.block _ H.s.lt), H.x.kept (hb.block _ H.x.lt), below_then H.b H.b.size hb⟩
set_option maxRecDepth 100000 in
set_option maxHeartbeats 8000000 in
theorem vname_ends.calls (s : ByteArray) (r1 r2 : Int) (w : World) (h : vname_ends.f s = some (r1, r2)) :
 Calls Tryd.prog 91 #[.string s] w fun e w' => e = .returned (.tuple #[.int .i64 r1, .int .i64 r2]) ∧ Below w.heap.size w w' := by
 unfold vname_ends.f at h
 split at h
 · rename_i hs
   injection h with h
   have HR := Lib.hid h
   clear h
   go_enter Tryd.func91, Tryd.ntmps91
   go_wp2_with fail
   go_step3
   go_wp2_with fail
   refine (chars_Word.calls _ _ rfl).mono ?_
   rintro e w1 ⟨rfl, hb⟩
   have HB := Lib.hid hb
   clear hb
   go_wp2_with fail
   refine (chars_Hex.calls _ _ rfl).mono ?_
   rintro e w2 ⟨rfl, hb⟩
   have HB2 := Lib.hid (below_then HB.out HB.out.size hb)
   clear hb HB
   unfold setV
   go_wp2
   go_step3
   go_wp2
   go_loopw [6, 7, 8] (fun a z _ wr => ∃ (k : Nat) (x y : Int), a = .int .i64 x ∧ z = .int .i64 y ∧ 0 ≤ x ∧ x ≤ s.size + 2 ∧ s.size < x + k ∧ Hid (endsFrom s k x y = (r1, r2)) ∧ Hid (Sets2 w wr w2.heap.size (w2.heap.size + 1))) (fun a _ _ _ => s.size + 3 - (intOf a).toNat)
   case atStart =>
    exact ⟨s.size + 1, 0, 0, rfl, rfl, by omega, by omega, by omega, HR, Lib.hid ⟨(Four.newP w2 isWord _).alloc _, by have := Four.newP (w2.alloc (.cells #[.int .u64 (wd isWord 0), .int .u64 (wd isWord 1), .int .u64 (wd isWord 2), .int .u64 (wd isWord 3)] 81)) isHex 81; simpa using this, (HB2.out.alloc HB2.out.size _).alloc (by simp; have := HB2.out.size; omega) _⟩⟩
   case round =>
    obtain ⟨k, x, y, rfl, rfl, hx0, hx1, hk, HE, HS⟩ := hrel
    have c0 := HS.out.s.cell 0 (by omega)
    have c1 := HS.out.s.cell 1 (by omega)
    have c2 := HS.out.s.cell 2 (by omega)
    have c3 := HS.out.s.cell 3 (by omega)
    by_cases hlt : x < s.size
    · cases k with
      | zero => omega
      | succ k =>
      have hE := HE.out
      rw [endsFrom, if_pos hlt] at hE
      have hix := bt_at s x
      have hcr := bt_range s x
      obtain ⟨c, hc⟩ : ∃ c, c = bt s x := ⟨_, rfl⟩
      rw [← hc] at hE hcr hix
      obtain ⟨hc0, hc1⟩ := hcr
      clear hc
      have hsl : ∀ W : World, (Instr.slice 9 (.string s) (some (.int .i64 x)) none none).run Tryd.prog W = .ok (.string (s.extract x.toNat s.size)) W := fun W => run_slice_string_l W 9 s Tryd.underlying9 .i64 x hx0 (by omega)
      go_wp2_with fail
      refine (chars_Set_Has.calls isWord c (isWord c.toNat) _ (by rw [chars_Set_Has.f, if_pos ⟨hc0, hc1⟩])).mono ?_
      rintro e w3 ⟨rfl, hb⟩
      have HS3 := Lib.hid (HS.out.step hb)
      clear hb HS c0 c1 c2 c3 HE
      obtain ⟨b, hb⟩ : ∃ b, b = isWord c.toNat := ⟨_, rfl⟩
      rw [← hb] at hE ⊢
      clear hb
      cases b with
      | true =>
       rw [if_pos rfl] at hE
       have HE1 := Lib.hid hE
       clear hE
       go_wp2
       go_roundw
       case rel => exact ⟨k, x + 1, x + 1, by go_num, by go_num, by omega, by omega, by omega, HE1, HS3⟩
       case measure => simp [intOf]; omega
      | false =>
       rw [if_neg (by simp)] at hE
       by_cases hA : c = 46 ∧ x > 0 ∧ x = y
       · rw [if_pos hA] at hE
         have HE1 := Lib.hid hE
         have q1 : (c == 46) = true := beq_iff_eq.2 hA.1
         have q2 : decide (0 < x) = true := decide_eq_true hA.2.1
         have q3 : (x == y) = true := beq_iff_eq.2 hA.2.2
         clear hE hA
         go_wp2
         go_roundw
         case rel => exact ⟨k, x + 1, y, by go_num, rfl, by omega, by omega, by omega, HE1, HS3⟩
         case measure => simp [intOf]; omega
       · rw [if_neg hA] at hE
         have hq : (c == 46) = false ∨ ((c == 46) = true ∧ decide (0 < x) = false) ∨ ((c == 46) = true ∧ decide (0 < x) = true ∧ (x == y) = false) := by
          by_cases h1 : c = 46
          · by_cases h2 : 0 < x
            · exact .inr (.inr ⟨beq_iff_eq.2 h1, decide_eq_true h2, beq_eq_false_iff_ne.2 (fun h3 => hA ⟨h1, h2, h3⟩)⟩)
            · exact .inr (.inl ⟨beq_iff_eq.2 h1, decide_eq_false h2⟩)
          · exact .inl (beq_eq_false_iff_ne.2 h1)
         clear hA
         rcases hq with q1 | ⟨q1, q2⟩ | ⟨q1, q2, q3⟩
         all_goals
          go_wp2_with fail
          refine (pct_Triplet.calls 4 _ _ _ (pct_Triplet_eq (s.extract x.toNat s.size))).mono ?_
          rintro e w4 ⟨rfl, hb⟩
          have HS4 := Lib.hid (HS3.out.step hb.below)
          clear hb HS3
          obtain ⟨tr, htr⟩ : ∃ b, b = isTriplet (s.extract x.toNat s.size) := ⟨_, rfl⟩
          rw [← htr] at hE ⊢
          have HTr := Lib.hid htr
          clear htr
          cases tr with
          | true =>
           rw [if_pos rfl] at hE
           have HE1 := Lib.hid hE
           clear hE
           go_wp2
           go_roundw
           case rel => exact ⟨k, x + 3, x + 3, by go_num, by go_num, by omega, by omega, by omega, HE1, HS4⟩
           case measure => simp [intOf]; omega
          | false =>
           rw [if_neg (by simp)] at hE
           by_cases hp : c = 37
           · rw [if_pos hp] at hE
             have q9 : (c == 37) = true := beq_iff_eq.2 hp
             clear hp
             by_cases h5 : x + 1 < s.size
             · have hix2 := bt_at s (x + 1)
               have hcr := bt_range s (x + 1)
               obtain ⟨c2, hc2⟩ : ∃ c, c = bt s (x + 1) := ⟨_, rfl⟩
               rw [← hc2] at hE hcr hix2
               obtain ⟨hc20, hc21⟩ := hcr
               have HE0 := Lib.hid hE
               have d0 := HS4.out.x.cell 0 (by omega)
               have d1 := HS4.out.x.cell 1 (by omega)
               have d2 := HS4.out.x.cell 2 (by omega)
               have d3 := HS4.out.x.cell 3 (by omega)
               clear hc2 hE
               go_wp2_with fail
               have k0 := cell_regrown d0
               have k1 := cell_regrown d1
               have k2 := cell_regrown d2
               have k3 := cell_regrown d3
               cases hbx : isHex c2.toNat with
               | true =>
                have HDB := Lib.hid hbx
                have HE1 := HE0.out
                rw [if_pos ⟨h5, hbx⟩] at HE1
                have HEE := Lib.hid HE1
                clear HE1 hbx HE0
                refine wp_region_quiet_below (by kernel_rfl) (by kernel_rfl) ?_
                repeat (go_big_quiet_step (exact Calls.regrown_of (chars_Set_Has.calls isHex c2 true _ (by rw [chars_Set_Has.f, if_pos ⟨hc20, hc21⟩, HDB.out]))))
                refine wpQuiet_nil ?_
                rintro _ ⟨⟨dq, osq⟩, rfl⟩
                have HS5 := Lib.hid (HS4.out.step (below_regrown _ dq osq))
                go_wp2
                rw [Exit.noGoto_ret]
                go_ret2
                have := HEE.out
                simp only [Prod.mk.injEq] at this
                obtain ⟨rfl, rfl⟩ := this
                refine ⟨?_, HS5.out.b⟩
                show Ending.returned (.tuple #[.int .i64 (x + 1 + 1), .int .i64 y]) = _
                rw [show x + 1 + 1 = x + 2 by omega]
               | false =>
                have HDB := Lib.hid hbx
                have HE1 := HE0.out
                rw [if_neg (fun h => by rw [hbx] at h; exact absurd h.2 (by simp))] at HE1
                have HEE := Lib.hid HE1
                clear HE1 hbx HE0
                refine wp_region_quiet_below (by kernel_rfl) (by kernel_rfl) ?_
                repeat (go_big_quiet_step (exact Calls.regrown_of (chars_Set_Has.calls isHex c2 false _ (by rw [chars_Set_Has.f, if_pos ⟨hc20, hc21⟩, HDB.out]))))
                refine wpQuiet_nil ?_
                rintro _ ⟨⟨dq, osq⟩, rfl⟩
                have HS5 := Lib.hid (HS4.out.step (below_regrown _ dq osq))
                go_wp2
                rw [Exit.noGoto_ret]
                go_ret2
                have := HEE.out
                simp only [Prod.mk.injEq] at this
                obtain ⟨rfl, rfl⟩ := this
                exact ⟨rfl, HS5.out.b⟩
             · have h5b : decide (x + 1 < s.size) = false := decide_eq_false h5
               rw [if_neg (fun h => h5 h.1)] at hE
               have HE1 := Lib.hid hE
               clear hE
               go_wp2_with fail
               go_quiet (fail)
               go_wp2
               rw [Exit.noGoto_ret]
               go_ret2
               have := HE1.out
               simp only [Prod.mk.injEq] at this
               obtain ⟨rfl, rfl⟩ := this
               exact ⟨rfl, pw_below_drewN HS4.out.b _⟩
           · rw [if_neg hp] at hE
             have q9 : (c == 37) = false := beq_eq_false_iff_ne.2 hp
             have HE1 := Lib.hid hE
             clear hp hE
             go_wp2
             rw [Exit.noGoto_ret]
             go_ret2
             have := HE1.out
             simp only [Prod.mk.injEq] at this
             obtain ⟨rfl, rfl⟩ := this
             exact ⟨rfl, HS4.out.b⟩
    · have hE := HE.out
      have hstop : endsFrom s k x y = (x, y) := by
       cases k with
       | zero => rfl
       | succ k => rw [endsFrom, if_neg hlt]
      rw [hstop] at hE
      have HE1 := Lib.hid hE
      clear hE
      go_wp2
      go_ret2
      have := HE1.out
      simp only [Prod.mk.injEq] at this
      obtain ⟨rfl, rfl⟩ := this
      exact ⟨rfl, HS.out.b⟩
 · cases h
end Go.Proofs.YtkipkbggnfllkaaDoor.P
end
section
namespace Go.Proofs.YtkipkbggnfllkaaDoor.P
open Go.RowKit Go.Proofs.YtkipkbggnfllkaaDoorW.PrintWords Go.Proofs.YtkipkbggnfllkaaDoorW.PrintLast Go.Proofs.YtkipkbggnfllkaaDoorW.PrintMore
attribute [local go_sem] max2_int min2_int max_two min_two max_three min_three max_four min_four
set_option linter.unusedVariables false
set_option linter.unusedSimpArgs false
def vname_End.f (a0 : ByteArray) : Option (Int) := (vname_ends.f a0).bind fun bt336 => (some bt336.2)
set_option maxHeartbeats 8000000 in
set_option maxRecDepth 100000 in
theorem vname_End.calls (a0 : ByteArray) (r : Int) (w : World) (h : vname_End.f a0 = some r) :
 Calls Tryd.prog 77 #[.string a0] w fun e w' => e = .returned (.int .i64 r) ∧ Below w.heap.size w w' := by
 have HB := Aside0.mk (Below.refl w.heap.size w)
 have H : ((vname_ends.f a0).bind fun bt336 => (some bt336.2)) = some r := h
 clear h
 replace H := Option.bind_eq_some_iff.mp H
 obtain ⟨⟨t336, t337⟩, A20, H⟩ := H
 replace H : (some t337) = some r := H
 have A2 := Aside0.mk A20
 clear A20
 obtain rfl := Option.some.inj H
 go_enter Tryd.func77, Tryd.ntmps77
 go_wp2_with (first | ((with_reducible refine gate_callee (f := 91) rfl ?_); refine goesL_ (some 7) rfl rfl Tryd.func91 (by kernel_rfl) rfl #[.string a0] rfl (by (try simp only [List.map_toArray, List.map_cons, List.map_nil]); first | done | rfl | (simp only [List.length_drop, List.length_take]; rfl)) ?_; (with_reducible refine (vname_ends.calls a0 t336 t337 _ A2.out).mono ?_); rintro e w3 ⟨rfl, hb⟩; refine ⟨_, rfl, ?_⟩; have n0_ := Aside0.mk (below_step (by repeat (first | (with_reducible first | exact HB.out | apply below_alloc | apply pw_below_drewN | apply below_drew1) | exact HB.out)) hb); clear HB; have HB := n0_; clear n0_; (try clear hb); (try clear hb2); (try clear hk); (try clear hi)))
 go_ret
 exact ⟨by first | rfl | (simp [errW_none, errW_some] <;> rfl) | (simp [*, errW_none, errW_some] <;> rfl), by repeat (first | (with_reducible first | exact HB.out | apply below_alloc | apply pw_below_drewN | apply below_drew1) | exact HB.out)⟩
def vname_May.f (a0 : ByteArray) : Option (Bool) := if a0.toList = ([] : List UInt8) then (some false) else ((vname_End.f a0).bind fun t338 => (some (t338 == (a0.size : Int))))
set_option maxHeartbeats 8000000 in
set_option maxRecDepth 100000 in
theorem vname_May.calls (a0 : ByteArray) (r : Bool) (w : World) (h : vname_May.f a0 = some r) :
 Calls Tryd.prog 61 #[.string a0] w fun e w' => e = .returned (.bool r) ∧ Below w.heap.size w w' := by
 have HB := Aside0.mk (Below.refl w.heap.size w)
 have H : (if a0.toList = ([] : List UInt8) then (some false) else ((vname_End.f a0).bind fun t338 => (some (t338 == (a0.size : Int))))) = some r := h
 clear h
 by_cases c2 : a0.toList = ([] : List UInt8)
 · rw [if_pos c2] at H
   have c2b0 : (a0.toList == ([] : List UInt8)) = true := beq_iff_eq.mpr c2
   have c2b1 : (a0.toList != ([] : List UInt8)) = false := bne_eq_false_iff_eq.mpr c2
   clear c2
   obtain rfl := Option.some.inj H
   go_enter Tryd.func61, Tryd.ntmps61
   go_wp2
   go_ret
   exact ⟨by first | rfl | (simp [errW_none, errW_some] <;> rfl) | (simp [*, errW_none, errW_some] <;> rfl), by repeat (first | (with_reducible first | exact HB.out | apply below_alloc | apply pw_below_drewN | apply below_drew1) | exact HB.out)⟩
 · rw [if_neg c2] at H
   have c2b0 : (a0.toList == ([] : List UInt8)) = false := beq_eq_false_iff_ne.mpr c2
   have c2b1 : (a0.toList != ([] : List UInt8)) = true := bne_iff_ne.mpr c2
   replace H := Option.bind_eq_some_iff.mp H
   obtain ⟨t338, A30, H⟩ := H
   replace H : (some (t338 == (a0.size : Int))) = some r := H
   have A3 := Aside0.mk A30
   clear A30
   obtain rfl := Option.some.inj H
   go_enter Tryd.func61, Tryd.ntmps61
   go_wp2_with (first | (go_at_call 77; (with_reducible refine (vname_End.calls a0 t338 _ A3.out).mono ?_); rintro e w4 ⟨rfl, hb⟩; have n0_ := Aside0.mk (below_step (by repeat (first | (with_reducible first | exact HB.out | apply below_alloc | apply pw_below_drewN | apply below_drew1) | exact HB.out)) hb); clear HB; have HB := n0_; clear n0_; (try clear hb); (try clear hb2); (try clear hk); (try clear hi)))
   go_ret
   exact ⟨by first | rfl | (simp [errW_none, errW_some] <;> rfl) | (simp [*, errW_none, errW_some] <;> rfl), by repeat (first | (with_reducible first | exact HB.out | apply below_alloc | apply pw_below_drewN | apply below_drew1) | exact HB.out)⟩
def spec_May.f (a0_0 : ByteArray) (a0_1 : Int) (a0_2 : Bool) : Option (Bool) := (vname_May.f a0_0).bind fun t340 => (if t340 = true then (if a0_1 ≥ 0 then (if a0_1 ≤ 9999 then (if a0_2 = true then (some (!(decide (a0_1 > 0)))) else (some (!false))) else (some false)) else (some false)) else (some false))
set_option maxHeartbeats 8000000 in
set_option maxRecDepth 100000 in
theorem spec_May.calls (a0_0 : ByteArray) (a0_1 : Int) (a0_2 : Bool) (r : Bool) (w : World) (h : spec_May.f a0_0 a0_1 a0_2 = some r) :
 Calls Tryd.prog 44 #[.agg #[.string a0_0, .int .i64 a0_1, .bool a0_2]] w fun e w' => e = .returned (.bool r) ∧ Below w.heap.size w w' := by
 have hu43 := Tryd.underlying43
 have HB := Aside0.mk (Below.refl w.heap.size w)
 have H : ((vname_May.f a0_0).bind fun t340 => (if t340 = true then (if a0_1 ≥ 0 then (if a0_1 ≤ 9999 then (if a0_2 = true then (some (!(decide (a0_1 > 0)))) else (some (!false))) else (some false)) else (some false)) else (some false))) = some r := h
 clear h
 replace H := Option.bind_eq_some_iff.mp H
 obtain ⟨t340, A20, H⟩ := H
 replace H : (if t340 = true then (if a0_1 ≥ 0 then (if a0_1 ≤ 9999 then (if a0_2 = true then (some (!(decide (a0_1 > 0)))) else (some (!false))) else (some false)) else (some false)) else (some false)) = some r := H
 have A2 := Aside0.mk A20
 clear A20
 by_cases c3 : t340 = true
 · subst c3
   have H1 : (if a0_1 ≥ 0 then (if a0_1 ≤ 9999 then (if a0_2 = true then (some (!(decide (a0_1 > 0)))) else (some (!false))) else (some false)) else (some false)) = some r := by rw [if_pos rfl] at H; exact H
   clear H
   have H := H1
   clear H1
   by_cases c4 : a0_1 ≥ 0
   · rw [if_pos c4] at H
     have c4b0 : decide (0 ≤ a0_1) = true := decide_eq_true c4
     clear c4
     by_cases c5 : a0_1 ≤ 9999
     · rw [if_pos c5] at H
       have c5b0 : decide (a0_1 ≤ 9999) = true := decide_eq_true c5
       clear c5
       by_cases c6 : a0_2 = true
       · subst c6
         have H1 : (some (!(decide (a0_1 > 0)))) = some r := by rw [if_pos rfl] at H; exact H
         clear H
         have H := H1
         clear H1
         obtain rfl := Option.some.inj H
         go_enter Tryd.func44, Tryd.ntmps44
         go_wp2_with (first | ((with_reducible refine gate_dst (N := 1) rfl ?_); refine box_event ?hg (N := 1) ?hd (cs := #[.string a0_0, .int .i64 a0_1, .bool true]) (t := 43) ?hr ?_; (case hd => rfl); (case hg => rfl); (case hr => first | (go_simp; done) | (go_simp; rfl)); intro gb339 hg w7 hbox hb; have n0_ := Aside0.mk (below_step (by repeat (first | (with_reducible first | exact HB.out | apply below_alloc | apply pw_below_drewN | apply below_drew1) | exact HB.out)) hb); have n1_ := Aside0.mk (hbox); have n2_ := Aside0.mk ((by rw [hg]; exact (below_size (by repeat (first | (with_reducible first | exact HB.out | apply below_alloc | apply pw_below_drewN | apply below_drew1) | exact HB.out))) : w.heap.size ≤ gb339)); have n3_ := Aside0.mk ((by rw [hg]; exact (below_size (by repeat (first | (with_reducible first | exact HB.out | apply below_alloc | apply pw_below_drewN | apply below_drew1) | exact HB.out))) : w.heap.size ≤ gb339)); clear HB; have HB := n0_; have BK339 := n1_; have GW339 := n2_; have GE339 := n3_; clear n0_ n1_ n2_ n3_; clear hb hbox hg; have hcz8_0 : w7.cell? ⟨gb339, 0, none⟩ = some (.string a0_0) := (blk_cell BK339.out 0).trans rfl; have hcz8_1 : w7.cell? ⟨gb339, 1, none⟩ = some (.int .i64 a0_1) := (blk_cell BK339.out 1).trans rfl; have hcz8_2 : w7.cell? ⟨gb339, 2, none⟩ = some (.bool true) := (blk_cell BK339.out 2).trans rfl; have hfz8_0 := blk_frozen BK339.out 0; have hfz8_1 := blk_frozen BK339.out 1; have hfz8_2 := blk_frozen BK339.out 2) | ((with_reducible refine gate_callee (f := 61) rfl ?_); refine goesL_ (some 5) rfl rfl Tryd.func61 (by kernel_rfl) rfl #[.string a0_0] rfl (by (try simp only [List.map_toArray, List.map_cons, List.map_nil]); first | done | rfl | (simp only [List.length_drop, List.length_take]; rfl)) ?_; (with_reducible refine (vname_May.calls a0_0 true _ A2.out).mono ?_); rintro e w9 ⟨rfl, hb⟩; refine ⟨_, rfl, ?_⟩; have n0_ := Aside0.mk (blk_below (g := gb339) (o := .cells #[.string a0_0, .int .i64 a0_1, .bool true] 43 (0, 0)) (by (with_reducible repeat (first | refine blk_drewN ?_ _ | refine blk_drew ?_ | refine blk_alloc ?_ _)); exact BK339.out) hb); have n1_ := Aside0.mk (below_step (by repeat (first | (with_reducible first | exact HB.out | apply below_alloc | apply pw_below_drewN | apply below_drew1 | refine below_set ?_ GE339.out) | exact HB.out)) hb); clear BK339; clear HB; have BK339 := n0_; have HB := n1_; clear n0_ n1_; (try clear hb); (try clear hb2); (try clear hk); (try clear hi); have hcz10_0 : w9.cell? ⟨gb339, 0, none⟩ = some (.string a0_0) := (blk_cell BK339.out 0).trans rfl; have hcz10_1 : w9.cell? ⟨gb339, 1, none⟩ = some (.int .i64 a0_1) := (blk_cell BK339.out 1).trans rfl; have hcz10_2 : w9.cell? ⟨gb339, 2, none⟩ = some (.bool true) := (blk_cell BK339.out 2).trans rfl; have hfz10_0 := blk_frozen BK339.out 0; have hfz10_1 := blk_frozen BK339.out 1; have hfz10_2 := blk_frozen BK339.out 2))
         go_ret
         exact ⟨by first | rfl | (simp [errW_none, errW_some] <;> rfl) | (simp [*, errW_none, errW_some] <;> rfl), by repeat (first | (with_reducible first | exact HB.out | apply below_alloc | apply pw_below_drewN | apply below_drew1 | refine below_set ?_ GE339.out) | exact HB.out)⟩
       · replace c6 := Bool.eq_false_iff.mpr c6
         subst c6
         have H1 : (some (!false)) = some r := by rw [if_neg (show ¬ (false = true) by decide)] at H; exact H
         clear H
         have H := H1
         clear H1
         obtain rfl := Option.some.inj H
         go_enter Tryd.func44, Tryd.ntmps44
         go_wp2_with (first | ((with_reducible refine gate_dst (N := 1) rfl ?_); refine box_event ?hg (N := 1) ?hd (cs := #[.string a0_0, .int .i64 a0_1, .bool false]) (t := 43) ?hr ?_; (case hd => rfl); (case hg => rfl); (case hr => first | (go_simp; done) | (go_simp; rfl)); intro gb339 hg w11 hbox hb; have n0_ := Aside0.mk (below_step (by repeat (first | (with_reducible first | exact HB.out | apply below_alloc | apply pw_below_drewN | apply below_drew1) | exact HB.out)) hb); have n1_ := Aside0.mk (hbox); have n2_ := Aside0.mk ((by rw [hg]; exact (below_size (by repeat (first | (with_reducible first | exact HB.out | apply below_alloc | apply pw_below_drewN | apply below_drew1) | exact HB.out))) : w.heap.size ≤ gb339)); have n3_ := Aside0.mk ((by rw [hg]; exact (below_size (by repeat (first | (with_reducible first | exact HB.out | apply below_alloc | apply pw_below_drewN | apply below_drew1) | exact HB.out))) : w.heap.size ≤ gb339)); clear HB; have HB := n0_; have BK339 := n1_; have GW339 := n2_; have GE339 := n3_; clear n0_ n1_ n2_ n3_; clear hb hbox hg; have hcz12_0 : w11.cell? ⟨gb339, 0, none⟩ = some (.string a0_0) := (blk_cell BK339.out 0).trans rfl; have hcz12_1 : w11.cell? ⟨gb339, 1, none⟩ = some (.int .i64 a0_1) := (blk_cell BK339.out 1).trans rfl; have hcz12_2 : w11.cell? ⟨gb339, 2, none⟩ = some (.bool false) := (blk_cell BK339.out 2).trans rfl; have hfz12_0 := blk_frozen BK339.out 0; have hfz12_1 := blk_frozen BK339.out 1; have hfz12_2 := blk_frozen BK339.out 2) | ((with_reducible refine gate_callee (f := 61) rfl ?_); refine goesL_ (some 5) rfl rfl Tryd.func61 (by kernel_rfl) rfl #[.string a0_0] rfl (by (try simp only [List.map_toArray, List.map_cons, List.map_nil]); first | done | rfl | (simp only [List.length_drop, List.length_take]; rfl)) ?_; (with_reducible refine (vname_May.calls a0_0 true _ A2.out).mono ?_); rintro e w13 ⟨rfl, hb⟩; refine ⟨_, rfl, ?_⟩; have n0_ := Aside0.mk (blk_below (g := gb339) (o := .cells #[.string a0_0, .int .i64 a0_1, .bool false] 43 (0, 0)) (by (with_reducible repeat (first | refine blk_drewN ?_ _ | refine blk_drew ?_ | refine blk_alloc ?_ _)); exact BK339.out) hb); have n1_ := Aside0.mk (below_step (by repeat (first | (with_reducible first | exact HB.out | apply below_alloc | apply pw_below_drewN | apply below_drew1 | refine below_set ?_ GE339.out) | exact HB.out)) hb); clear BK339; clear HB; have BK339 := n0_; have HB := n1_; clear n0_ n1_; (try clear hb); (try clear hb2); (try clear hk); (try clear hi); have hcz14_0 : w13.cell? ⟨gb339, 0, none⟩ = some (.string a0_0) := (blk_cell BK339.out 0).trans rfl; have hcz14_1 : w13.cell? ⟨gb339, 1, none⟩ = some (.int .i64 a0_1) := (blk_cell BK339.out 1).trans rfl; have hcz14_2 : w13.cell? ⟨gb339, 2, none⟩ = some (.bool false) := (blk_cell BK339.out 2).trans rfl; have hfz14_0 := blk_frozen BK339.out 0; have hfz14_1 := blk_frozen BK339.out 1; have hfz14_2 := blk_frozen BK339.out 2))
         go_ret
         exact ⟨by first | rfl | (simp [errW_none, errW_some] <;> rfl) | (simp [*, errW_none, errW_some] <;> rfl), by repeat (first | (with_reducible first | exact HB.out | apply below_alloc | apply pw_below_drewN | apply below_drew1 | refine below_set ?_ GE339.out) | exact HB.out)⟩
     · rw [if_neg c5] at H
       have c5b0 : decide (a0_1 ≤ 9999) = false := decide_eq_false c5
       clear c5
       obtain rfl := Option.some.inj H
       go_enter Tryd.func44, Tryd.ntmps44
       go_wp2_with (first | ((with_reducible refine gate_dst (N := 1) rfl ?_); refine box_event ?hg (N := 1) ?hd (cs := #[.string a0_0, .int .i64 a0_1, .bool a0_2]) (t := 43) ?hr ?_; (case hd => rfl); (case hg => rfl); (case hr => first | (go_simp; done) | (go_simp; rfl)); intro gb339 hg w15 hbox hb; have n0_ := Aside0.mk (below_step (by repeat (first | (with_reducible first | exact HB.out | apply below_alloc | apply pw_below_drewN | apply below_drew1) | exact HB.out)) hb); have n1_ := Aside0.mk (hbox); have n2_ := Aside0.mk ((by rw [hg]; exact (below_size (by repeat (first | (with_reducible first | exact HB.out | apply below_alloc | apply pw_below_drewN | apply below_drew1) | exact HB.out))) : w.heap.size ≤ gb339)); have n3_ := Aside0.mk ((by rw [hg]; exact (below_size (by repeat (first | (with_reducible first | exact HB.out | apply below_alloc | apply pw_below_drewN | apply below_drew1) | exact HB.out))) : w.heap.size ≤ gb339)); clear HB; have HB := n0_; have BK339 := n1_; have GW339 := n2_; have GE339 := n3_; clear n0_ n1_ n2_ n3_; clear hb hbox hg; have hcz16_0 : w15.cell? ⟨gb339, 0, none⟩ = some (.string a0_0) := (blk_cell BK339.out 0).trans rfl; have hcz16_1 : w15.cell? ⟨gb339, 1, none⟩ = some (.int .i64 a0_1) := (blk_cell BK339.out 1).trans rfl; have hcz16_2 : w15.cell? ⟨gb339, 2, none⟩ = some (.bool a0_2) := (blk_cell BK339.out 2).trans rfl; have hfz16_0 := blk_frozen BK339.out 0; have hfz16_1 := blk_frozen BK339.out 1; have hfz16_2 := blk_frozen BK339.out 2) | ((with_reducible refine gate_callee (f := 61) rfl ?_); refine goesL_ (some 5) rfl rfl Tryd.func61 (by kernel_rfl) rfl #[.string a0_0] rfl (by (try simp only [List.map_toArray, List.map_cons, List.map_nil]); first | done | rfl | (simp only [List.length_drop, List.length_take]; rfl)) ?_; (with_reducible refine (vname_May.calls a0_0 true _ A2.out).mono ?_); rintro e w17 ⟨rfl, hb⟩; refine ⟨_, rfl, ?_⟩; have n0_ := Aside0.mk (blk_below (g := gb339) (o := .cells #[.string a0_0, .int .i64 a0_1, .bool a0_2] 43 (0, 0)) (by (with_reducible repeat (first | refine blk_drewN ?_ _ | refine blk_drew ?_ | refine blk_alloc ?_ _)); exact BK339.out) hb); have n1_ := Aside0.mk (below_step (by repeat (first | (with_reducible first | exact HB.out | apply below_alloc | apply pw_below_drewN | apply below_drew1 | refine below_set ?_ GE339.out) | exact HB.out)) hb); clear BK339; clear HB; have BK339 := n0_; have HB := n1_; clear n0_ n1_; (try clear hb); (try clear hb2); (try clear hk); (try clear hi); have hcz18_0 : w17.cell? ⟨gb339, 0, none⟩ = some (.string a0_0) := (blk_cell BK339.out 0).trans rfl; have hcz18_1 : w17.cell? ⟨gb339, 1, none⟩ = some (.int .i64 a0_1) := (blk_cell BK339.out 1).trans rfl; have hcz18_2 : w17.cell? ⟨gb339, 2, none⟩ = some (.bool a0_2) := (blk_cell BK339.out 2).trans rfl; have hfz18_0 := blk_frozen BK339.out 0; have hfz18_1 := blk_frozen BK339.out 1; have hfz18_2 := blk_frozen BK339.out 2))
       go_ret
       exact ⟨by first | rfl | (simp [errW_none, errW_some] <;> rfl) | (simp [*, errW_none, errW_some] <;> rfl), by repeat (first | (with_reducible first | exact HB.out | apply below_alloc | apply pw_below_drewN | apply below_drew1 | refine below_set ?_ GE339.out) | exact HB.out)⟩
   · rw [if_neg c4] at H
     have c4b0 : decide (0 ≤ a0_1) = false := decide_eq_false c4
     clear c4
     obtain rfl := Option.some.inj H
     go_enter Tryd.func44, Tryd.ntmps44
     go_wp2_with (first | ((with_reducible refine gate_dst (N := 1) rfl ?_); refine box_event ?hg (N := 1) ?hd (cs := #[.string a0_0, .int .i64 a0_1, .bool a0_2]) (t := 43) ?hr ?_; (case hd => rfl); (case hg => rfl); (case hr => first | (go_simp; done) | (go_simp; rfl)); intro gb339 hg w19 hbox hb; have n0_ := Aside0.mk (below_step (by repeat (first | (with_reducible first | exact HB.out | apply below_alloc | apply pw_below_drewN | apply below_drew1) | exact HB.out)) hb); have n1_ := Aside0.mk (hbox); have n2_ := Aside0.mk ((by rw [hg]; exact (below_size (by repeat (first | (with_reducible first | exact HB.out | apply below_alloc | apply pw_below_drewN | apply below_drew1) | exact HB.out))) : w.heap.size ≤ gb339)); have n3_ := Aside0.mk ((by rw [hg]; exact (below_size (by repeat (first | (with_reducible first | exact HB.out | apply below_alloc | apply pw_below_drewN | apply below_drew1) | exact HB.out))) : w.heap.size ≤ gb339)); clear HB; have HB := n0_; have BK339 := n1_; have GW339 := n2_; have GE339 := n3_; clear n0_ n1_ n2_ n3_; clear hb hbox hg; have hcz20_0 : w19.cell? ⟨gb339, 0, none⟩ = some (.string a0_0) := (blk_cell BK339.out 0).trans rfl; have hcz20_1 : w19.cell? ⟨gb339, 1, none⟩ = some (.int .i64 a0_1) := (blk_cell BK339.out 1).trans rfl; have hcz20_2 : w19.cell? ⟨gb339, 2, none⟩ = some (.bool a0_2) := (blk_cell BK339.out 2).trans rfl; have hfz20_0 := blk_frozen BK339.out 0; have hfz20_1 := blk_frozen BK339.out 1; have hfz20_2 := blk_frozen BK339.out 2) | ((with_reducible refine gate_callee (f := 61) rfl ?_); refine goesL_ (some 5) rfl rfl Tryd.func61 (by kernel_rfl) rfl #[.string a0_0] rfl (by (try simp only [List.map_toArray, List.map_cons, List.map_nil]); first | done | rfl | (simp only [List.length_drop, List.length_take]; rfl)) ?_; (with_reducible refine (vname_May.calls a0_0 true _ A2.out).mono ?_); rintro e w21 ⟨rfl, hb⟩; refine ⟨_, rfl, ?_⟩; have n0_ := Aside0.mk (blk_below (g := gb339) (o := .cells #[.string a0_0, .int .i64 a0_1, .bool a0_2] 43 (0, 0)) (by (with_reducible repeat (first | refine blk_drewN ?_ _ | refine blk_drew ?_ | refine blk_alloc ?_ _)); exact BK339.out) hb); have n1_ := Aside0.mk (below_step (by repeat (first | (with_reducible first | exact HB.out | apply below_alloc | apply pw_below_drewN | apply below_drew1 | refine below_set ?_ GE339.out) | exact HB.out)) hb); clear BK339; clear HB; have BK339 := n0_; have HB := n1_; clear n0_ n1_; (try clear hb); (try clear hb2); (try clear hk); (try clear hi); have hcz22_0 : w21.cell? ⟨gb339, 0, none⟩ = some (.string a0_0) := (blk_cell BK339.out 0).trans rfl; have hcz22_1 : w21.cell? ⟨gb339, 1, none⟩ = some (.int .i64 a0_1) := (blk_cell BK339.out 1).trans rfl; have hcz22_2 : w21.cell? ⟨gb339, 2, none⟩ = some (.bool a0_2) := (blk_cell BK339.out 2).trans rfl; have hfz22_0 := blk_frozen BK339.out 0; have hfz22_1 := blk_frozen BK339.out 1; have hfz22_2 := blk_frozen BK339.out 2))
     go_ret
     exact ⟨by first | rfl | (simp [errW_none, errW_some] <;> rfl) | (simp [*, errW_none, errW_some] <;> rfl), by repeat (first | (with_reducible first | exact HB.out | apply below_alloc | apply pw_below_drewN | apply below_drew1 | refine below_set ?_ GE339.out) | exact HB.out)⟩
 · replace c3 := Bool.eq_false_iff.mpr c3
   subst c3
   have H1 : (some false) = some r := by rw [if_neg (show ¬ (false = true) by decide)] at H; exact H
   clear H
   have H := H1
   clear H1
   obtain rfl := Option.some.inj H
   go_enter Tryd.func44, Tryd.ntmps44
   go_wp2_with (first | ((with_reducible refine gate_dst (N := 1) rfl ?_); refine box_event ?hg (N := 1) ?hd (cs := #[.string a0_0, .int .i64 a0_1, .bool a0_2]) (t := 43) ?hr ?_; (case hd => rfl); (case hg => rfl); (case hr => first | (go_simp; done) | (go_simp; rfl)); intro gb339 hg w23 hbox hb; have n0_ := Aside0.mk (below_step (by repeat (first | (with_reducible first | exact HB.out | apply below_alloc | apply pw_below_drewN | apply below_drew1) | exact HB.out)) hb); have n1_ := Aside0.mk (hbox); have n2_ := Aside0.mk ((by rw [hg]; exact (below_size (by repeat (first | (with_reducible first | exact HB.out | apply below_alloc | apply pw_below_drewN | apply below_drew1) | exact HB.out))) : w.heap.size ≤ gb339)); have n3_ := Aside0.mk ((by rw [hg]; exact (below_size (by repeat (first | (with_reducible first | exact HB.out | apply below_alloc | apply pw_below_drewN | apply below_drew1) | exact HB.out))) : w.heap.size ≤ gb339)); clear HB; have HB := n0_; have BK339 := n1_; have GW339 := n2_; have GE339 := n3_; clear n0_ n1_ n2_ n3_; clear hb hbox hg; have hcz24_0 : w23.cell? ⟨gb339, 0, none⟩ = some (.string a0_0) := (blk_cell BK339.out 0).trans rfl; have hcz24_1 : w23.cell? ⟨gb339, 1, none⟩ = some (.int .i64 a0_1) := (blk_cell BK339.out 1).trans rfl; have hcz24_2 : w23.cell? ⟨gb339, 2, none⟩ = some (.bool a0_2) := (blk_cell BK339.out 2).trans rfl; have hfz24_0 := blk_frozen BK339.out 0; have hfz24_1 := blk_frozen BK339.out 1; have hfz24_2 := blk_frozen BK339.out 2) | ((with_reducible refine gate_callee (f := 61) rfl ?_); refine goesL_ (some 5) rfl rfl Tryd.func61 (by kernel_rfl) rfl #[.string a0_0] rfl (by (try simp only [List.map_toArray, List.map_cons, List.map_nil]); first | done | rfl | (simp only [List.length_drop, List.length_take]; rfl)) ?_; (with_reducible refine (vname_May.calls a0_0 false _ A2.out).mono ?_); rintro e w25 ⟨rfl, hb⟩; refine ⟨_, rfl, ?_⟩; have n0_ := Aside0.mk (blk_below (g := gb339) (o := .cells #[.string a0_0, .int .i64 a0_1, .bool a0_2] 43 (0, 0)) (by (with_reducible repeat (first | refine blk_drewN ?_ _ | refine blk_drew ?_ | refine blk_alloc ?_ _)); exact BK339.out) hb); have n1_ := Aside0.mk (below_step (by repeat (first | (with_reducible first | exact HB.out | apply below_alloc | apply pw_below_drewN | apply below_drew1 | refine below_set ?_ GE339.out) | exact HB.out)) hb); clear BK339; clear HB; have BK339 := n0_; have HB := n1_; clear n0_ n1_; (try clear hb); (try clear hb2); (try clear hk); (try clear hi)))
   go_ret
   exact ⟨by first | rfl | (simp [errW_none, errW_some] <;> rfl) | (simp [*, errW_none, errW_some] <;> rfl), by repeat (first | (with_reducible first | exact HB.out | apply below_alloc | apply pw_below_drewN | apply below_drew1 | refine below_set ?_ GE339.out) | exact HB.out)⟩
end Go.Proofs.YtkipkbggnfllkaaDoor.P
end
section
namespace Go.Proofs.YtkipkbggnfllkaaDoor.P
open Go.RowKit Go.Proofs.YtkipkbggnfllkaaDoorW.PrintWords Go.Proofs.YtkipkbggnfllkaaDoorW.PrintLast Go.Proofs.YtkipkbggnfllkaaDoorW.PrintMore
def bs (s : ByteArray) : List Nat := s.data.toList.map (·.toNat)
theorem bs_length (s : ByteArray) : (bs s).length = s.size := by rw [bs, List.length_map]; rfl
theorem bs_lt (s : ByteArray) : ∀ b ∈ bs s, b < 256 := by
 intro b hb
 obtain ⟨x, _, rfl⟩ := List.mem_map.1 hb
 exact x.toNat_lt
theorem bs_extract (s : ByteArray) (a b : Nat) : bs (s.extract a b) = ((bs s).take b).drop a := by
 unfold bs
 rw [ByteArray.data_extract, Array.toList_extract, List.extract_eq_take_drop, List.map_take, List.map_drop, List.drop_take]
theorem bs_from (s : ByteArray) (a : Nat) : bs (s.extract a s.size) = (bs s).drop a := by
 rw [bs_extract, List.take_of_length_le (by rw [bs_length]; exact Nat.le_refl _)]
theorem bs_upto (s : ByteArray) (b : Nat) : bs (s.extract 0 b) = (bs s).take b := by rw [bs_extract, List.drop_zero]
theorem bs_append (s t : ByteArray) : bs (s ++ t) = bs s ++ bs t := by
 unfold bs
 rw [ByteArray.data_append, Array.toList_append, List.map_append]
theorem bt_get (s : ByteArray) (i : Nat) (h : i < s.size) : ∃ b, (bs s)[i]? = some b ∧ bt s i = (b : Int) := by
 refine ⟨(s[i]'h).toNat, ?_, ?_⟩
 · unfold bs
   rw [List.getElem?_map, Array.getElem?_toList]
   have : s.data[i]? = some (s[i]'h) := by
    rw [Array.getElem?_eq_getElem (by exact h)]
    rfl
   rw [this]
   rfl
 · have := bt_at s i (by simpa using h)
   rw [← this]
   simp
theorem bs_drop (s : ByteArray) (i : Nat) (h : i < s.size) : (bs s).drop i = (bt s i).toNat :: (bs s).drop (i + 1) := by
 obtain ⟨b, hb, he⟩ := bt_get s i h
 rw [he, Int.toNat_natCast]
 have hl : i < (bs s).length := by rw [bs_length]; exact h
 rw [List.drop_eq_getElem_cons hl]
 have := List.getElem?_eq_getElem hl
 rw [this] at hb
 injection hb with hb
 rw [hb]
theorem map_toNat_inj : ∀ {l m : List UInt8}, l.map (·.toNat) = m.map (·.toNat) → l = m
 | [], [], _ => rfl
 | [], _ :: _, h => by simp at h
 | _ :: _, [], h => by simp at h
 | a :: l, b :: m, h => by
  simp only [List.map_cons, List.cons.injEq] at h
  rw [UInt8.toNat.inj h.1, map_toNat_inj h.2]
theorem bs_inj {s t : ByteArray} (h : bs s = bs t) : s = t := by
 unfold bs at h
 have h2 : s.data.toList = t.data.toList := by
  exact map_toNat_inj h
 have h3 : s.data = t.data := by
  apply Array.ext'
  exact h2
 cases s
 cases t
 simp only at h3
 rw [h3]
theorem toList_is {s : ByteArray} {l : List UInt8} : s.toList = l ↔ bs s = l.map (·.toNat) := by
 rw [ByteArray.toList_eq]
 unfold bs
 exact ⟨fun h => by rw [h], fun h => map_toNat_inj h⟩
theorem toList_nil {s : ByteArray} : s.toList = [] ↔ bs s = [] := by
 rw [ByteArray.toList_eq]
 unfold bs
 simp
theorem bs_get (s : ByteArray) (i : Nat) (h : i < s.size) : ∃ b : Nat, b < 256 ∧ bt s (i : Int) = (b : Int) ∧ (bs s).drop i = b :: (bs s).drop (i + 1) := by
 obtain ⟨b, hb, he⟩ := bt_get s i h
 refine ⟨b, bs_lt s b (List.mem_of_getElem? hb), he, ?_⟩
 rw [bs_drop s i h, he, Int.toNat_natCast]
theorem bs_cases (s : ByteArray) : (s.size = 0 ∧ bs s = [] ∧ s.toList = []) ∨ ∃ (b : Nat) (r : List Nat), b < 256 ∧ bs s = b :: r ∧ bt s 0 = (b : Int) ∧ 0 < s.size ∧ bs (s.extract 1 s.size) = r ∧ s.toList ≠ [] ∧ r.length + 1 = s.size := by
 by_cases h : 0 < s.size
 · obtain ⟨b, h1, h2, h3⟩ := bs_get s 0 h
   have e : bs s = b :: (bs s).drop 1 := h3
   have hl : ((bs s).drop 1).length + 1 = s.size := by rw [List.length_drop, bs_length]; omega
   refine .inr ⟨b, (bs s).drop 1, h1, e, h2, h, bs_from s 1, fun g => ?_, hl⟩
   rw [toList_nil.1 g] at e
   cases e
 · have e : bs s = [] := List.length_eq_zero_iff.1 (by rw [bs_length]; omega)
   exact .inl ⟨by omega, e, toList_nil.2 e⟩
theorem bs_size_from (s : ByteArray) (a : Nat) : (s.extract a s.size).size = s.size - a := by rw [ByteArray.size_extract]; omega
theorem bs_size_upto (s : ByteArray) (a : Nat) (h : a ≤ s.size) : (s.extract 0 a).size = a := by rw [ByteArray.size_extract]; omega
theorem bs_mk (l : List UInt8) : bs ⟨l.toArray⟩ = l.map (·.toNat) := rfl
theorem bs_strOfNums (xs : List Int) (h : ∀ x ∈ xs, 0 ≤ x ∧ x < 256) : bs (strOfNums xs) = xs.map (·.toNat) := by
 unfold bs strOfNums
 simp only [List.map_map]
 apply List.map_congr_left
 intro x hx
 have := h x hx
 simp only [Function.comp, UInt8.toNat_ofNat']
 omega
end Go.Proofs.YtkipkbggnfllkaaDoor.P
end
section
namespace Go.Proofs.YtkipkbggnfllkaaDoor.P
set_option linter.unusedVariables false
set_option linter.unusedSimpArgs false
def MayC (c : Nat) : Prop :=
 (160 ≤ c ∧ c ≤ 55295) ∨ (57344 ≤ c ∧ c ≤ 64975) ∨ (65008 ≤ c ∧ c ≤ 65519) ∨ (65536 ≤ c ∧ c % 65536 ≤ 65533 ∧ c ≤ 1114109 ∧ ¬ (917504 ≤ c ∧ c < 921600))
instance (c : Nat) : Decidable (MayC c) := by unfold MayC; exact inferInstance
theorem meetsFrom_iff (lo hi : Int) : ∀ d k, meetsFrom lo hi d k = true ↔ ∃ j, k ≤ j ∧ j < k + d ∧ lo ≤ spanHi j ∧ spanLo j ≤ hi
 | 0, k => by
  simp only [meetsFrom]
  constructor
  · intro h
    cases h
  · rintro ⟨j, h1, h2, -⟩
    omega
 | d + 1, k => by
  simp only [meetsFrom, Bool.or_eq_true, Bool.and_eq_true, decide_eq_true_eq, meetsFrom_iff lo hi d (k + 1)]
  constructor
  · rintro (⟨h1, h2⟩ | ⟨j, h1, h2, h3, h4⟩)
    · exact ⟨k, Nat.le_refl _, by omega, h1, h2⟩
    · exact ⟨j, by omega, by omega, h3, h4⟩
  · rintro ⟨j, h1, h2, h3, h4⟩
    by_cases e : j = k
    · subst e
      exact .inl ⟨h3, h4⟩
    · exact .inr ⟨j, by omega, by omega, h3, h4⟩
theorem meets_iff (lo hi : Nat) (h : lo ≤ hi) : meetsFrom lo hi 19 0 = true ↔ ∃ c, lo ≤ c ∧ c ≤ hi ∧ MayC c := by
 rw [meetsFrom_iff]
 constructor
 · rintro ⟨j, -, hj, h1, h2⟩
   unfold spanHi at h1
   unfold spanLo at h2
   unfold MayC
   by_cases j0 : j = 0
   · rw [if_pos j0] at h1 h2
     exact ⟨max lo 160, by omega, by omega, by omega⟩
   by_cases j1 : j = 1
   · rw [if_neg j0, if_pos j1] at h1 h2
     exact ⟨max lo 57344, by omega, by omega, by omega⟩
   by_cases j2 : j = 2
   · rw [if_neg j0, if_neg j1, if_pos j2] at h1 h2
     exact ⟨max lo 65008, by omega, by omega, by omega⟩
   rw [if_neg j0, if_neg j1, if_neg j2] at h1 h2
   by_cases j3 : j = 16
   · rw [if_pos j3] at h2
     subst j3
     exact ⟨max lo 921600, by omega, by omega, by omega⟩
   · rw [if_neg j3] at h2
     refine ⟨max lo ((j - 2) * 65536), by omega, by omega, ?_⟩
     omega
 · rintro ⟨c, h1, h2, hc⟩
   unfold MayC at hc
   rcases hc with hc | hc | hc | hc
   · exact ⟨0, by omega, by omega, by simp only [spanHi, if_true]; omega, by simp only [spanLo, if_true]; omega⟩
   · exact ⟨1, by omega, by omega, by simp [spanHi]; omega, by simp [spanLo]; omega⟩
   · exact ⟨2, by omega, by omega, by simp [spanHi]; omega, by simp [spanLo]; omega⟩
   · refine ⟨c / 65536 + 2, by omega, by omega, ?_, ?_⟩
     · unfold spanHi
       rw [if_neg (by omega), if_neg (by omega), if_neg (by omega)]
       omega
     · unfold spanLo
       rw [if_neg (by omega), if_neg (by omega), if_neg (by omega)]
       split <;> omega
def mt (lo hi : Nat) : Bool := decide (lo ≤ hi) && meetsFrom lo hi 19 0
theorem mt_iff (lo hi : Nat) : mt lo hi = true ↔ ∃ c, lo ≤ c ∧ c ≤ hi ∧ MayC c := by
 unfold mt
 by_cases h : lo ≤ hi
 · rw [decide_eq_true h, Bool.true_and]
   exact meets_iff lo hi h
 · rw [decide_eq_false h, Bool.false_and]
   constructor
   · intro h
     cases h
   · rintro ⟨c, h1, h2, -⟩
     omega
theorem mt_of {c lo hi : Nat} (h : MayC c) (h1 : lo ≤ c) (h2 : c ≤ hi) : mt lo hi = true := (mt_iff _ _).2 ⟨c, h1, h2, h⟩
def ucsAt : List Nat → Nat
 | b0 :: b1 :: r =>
  if b0 / 32 = 6 then (if b1 / 64 = 2 ∧ 128 ≤ b0 % 32 * 64 + b1 % 64 ∧ MayC (b0 % 32 * 64 + b1 % 64) then 2 else 0)
  else match r with
   | [] => 0
   | b2 :: r =>
    if b0 / 16 = 14 then (if b1 / 64 = 2 ∧ b2 / 64 = 2 ∧ 2048 ≤ b0 % 16 * 4096 + b1 % 64 * 64 + b2 % 64 ∧ MayC (b0 % 16 * 4096 + b1 % 64 * 64 + b2 % 64) then 3 else 0)
    else match r with
     | [] => 0
     | b3 :: _ =>
      if b0 / 8 = 30 then (if b1 / 64 = 2 ∧ b2 / 64 = 2 ∧ b3 / 64 = 2 ∧ 65536 ≤ b0 % 8 * 262144 + b1 % 64 * 4096 + b2 % 64 * 64 + b3 % 64 ∧ MayC (b0 % 8 * 262144 + b1 % 64 * 4096 + b2 % 64 * 64 + b3 % 64) then 4 else 0)
      else 0
 | _ => 0
def fits : List Nat → Bool
 | [b0] =>
  if b0 / 32 = 6 then mt (max 128 (b0 % 32 * 64)) (b0 % 32 * 64 + 63)
  else if b0 / 16 = 14 then mt (max 2048 (b0 % 16 * 4096)) (b0 % 16 * 4096 + 4095)
  else if b0 / 8 = 30 then mt (max 65536 (b0 % 8 * 262144)) (b0 % 8 * 262144 + 262143) else false
 | [b0, b1] =>
  if b1 / 64 = 2 then
   (if b0 / 32 = 6 then mt (max 128 (b0 % 32 * 64 + b1 % 64)) (b0 % 32 * 64 + b1 % 64)
   else if b0 / 16 = 14 then mt (max 2048 (b0 % 16 * 4096 + b1 % 64 * 64)) (b0 % 16 * 4096 + b1 % 64 * 64 + 63)
   else if b0 / 8 = 30 then mt (max 65536 (b0 % 8 * 262144 + b1 % 64 * 4096)) (b0 % 8 * 262144 + b1 % 64 * 4096 + 4095) else false)
  else false
 | [b0, b1, b2] =>
  if b1 / 64 = 2 ∧ b2 / 64 = 2 then
   (if b0 / 16 = 14 then mt (max 2048 (b0 % 16 * 4096 + b1 % 64 * 64 + b2 % 64)) (b0 % 16 * 4096 + b1 % 64 * 64 + b2 % 64)
   else if b0 / 8 = 30 then mt (max 65536 (b0 % 8 * 262144 + b1 % 64 * 4096 + b2 % 64 * 64)) (b0 % 8 * 262144 + b1 % 64 * 4096 + b2 % 64 * 64 + 63) else false)
  else false
 | [b0, b1, b2, b3] =>
  if b1 / 64 = 2 ∧ b2 / 64 = 2 ∧ b3 / 64 = 2 then
   (if b0 / 8 = 30 then mt (max 65536 (b0 % 8 * 262144 + b1 % 64 * 4096 + b2 % 64 * 64 + b3 % 64)) (b0 % 8 * 262144 + b1 % 64 * 4096 + b2 % 64 * 64 + b3 % 64) else false)
  else false
 | _ => false
theorem ucsAt_low (b : Nat) (r : List Nat) (h : b < 192) : ucsAt (b :: r) = 0 := by
 unfold ucsAt
 repeat' split
 all_goals first | rfl | (exfalso; omega) | (simp only [List.cons.injEq] at *; omega)
theorem fits_low (b : Nat) (r : List Nat) (h : b < 192) : fits (b :: r) = false := by
 unfold fits
 repeat' split
 all_goals first | rfl | (exfalso; simp only [List.cons.injEq] at *; omega)
theorem fits_whole {l m : List Nat} (h : ucsAt l = l.length) (hl : l ≠ []) (hm : m ≠ []) : fits (l ++ m) = false := by
 match l, h, hl with
 | [], _, hl => exact absurd rfl hl
 | [b0], h, _ => exact absurd h (by simp [ucsAt])
 | [b0, b1], h, _ =>
  simp only [ucsAt, List.length_cons, List.length_nil] at h
  by_cases h2 : b0 / 32 = 6
  · match m, hm with
    | [], hm => exact absurd rfl hm
    | [c], _ =>
     simp only [List.cons_append, List.nil_append, fits]
     split
     · rw [if_neg (by omega), if_neg (by omega)]
     · rfl
    | [c, d], _ =>
     simp only [List.cons_append, List.nil_append, fits]
     split
     · rw [if_neg (by omega)]
     · rfl
    | c :: d :: e :: r, _ => rfl
  · rw [if_neg h2] at h
    cases h
 | [b0, b1, b2], h, _ =>
  simp only [ucsAt, List.length_cons, List.length_nil] at h
  by_cases h2 : b0 / 32 = 6
  · rw [if_pos h2] at h
    split at h <;> omega
  · rw [if_neg h2] at h
    by_cases h3 : b0 / 16 = 14
    · match m, hm with
      | [], hm => exact absurd rfl hm
      | [c], _ =>
       simp only [List.cons_append, List.nil_append, fits]
       split
       · rw [if_neg (by omega)]
       · rfl
      | c :: d :: r, _ => rfl
    · rw [if_neg h3] at h
      cases h
 | [b0, b1, b2, b3], h, _ =>
  match m, hm with
  | [], hm => exact absurd rfl hm
  | c :: r, _ => rfl
 | b0 :: b1 :: b2 :: b3 :: b4 :: r, h, _ =>
  exfalso
  simp only [ucsAt, List.length_cons] at h
  repeat' split at h
  all_goals omega
theorem ucsAt_append {l m : List Nat} (h : ucsAt l = l.length) (hl : l ≠ []) : ucsAt (l ++ m) = l.length := by
 match l, h, hl with
 | [], _, hl => exact absurd rfl hl
 | [b0], h, _ => exact absurd h (by simp [ucsAt])
 | [b0, b1], h, _ =>
  simp only [ucsAt, List.length_cons, List.length_nil, List.cons_append, List.nil_append] at h ⊢
  by_cases h2 : b0 / 32 = 6
  · rw [if_pos h2] at h ⊢
    exact h
  · rw [if_neg h2] at h
    cases h
 | [b0, b1, b2], h, _ =>
  simp only [ucsAt, List.length_cons, List.length_nil, List.cons_append, List.nil_append] at h ⊢
  by_cases h2 : b0 / 32 = 6
  · rw [if_pos h2] at h
    split at h <;> omega
  · rw [if_neg h2] at h ⊢
    by_cases h3 : b0 / 16 = 14
    · rw [if_pos h3] at h ⊢
      exact h
    · rw [if_neg h3] at h
      cases h
 | [b0, b1, b2, b3], h, _ =>
  simp only [ucsAt, List.length_cons, List.length_nil, List.cons_append, List.nil_append] at h ⊢
  exact h
 | b0 :: b1 :: b2 :: b3 :: b4 :: r, h, _ =>
  exfalso
  simp only [ucsAt, List.length_cons] at h
  repeat' split at h
  all_goals omega
theorem ucsAt_steps (l : List Nat) : ucsAt l = 0 ∨
 (ucsAt l = 2 ∧ ∃ b0 b1 r, l = b0 :: b1 :: r ∧ 192 ≤ b0 ∧ fits [b0] = true ∧ ucsAt [b0, b1] = 2) ∨
 (ucsAt l = 3 ∧ ∃ b0 b1 b2 r, l = b0 :: b1 :: b2 :: r ∧ 192 ≤ b0 ∧ fits [b0] = true ∧ ucsAt [b0, b1] = 0 ∧ fits [b0, b1] = true ∧ ucsAt [b0, b1, b2] = 3) ∨
 (ucsAt l = 4 ∧ ∃ b0 b1 b2 b3 r, l = b0 :: b1 :: b2 :: b3 :: r ∧ 192 ≤ b0 ∧ fits [b0] = true ∧ ucsAt [b0, b1] = 0 ∧ fits [b0, b1] = true ∧ ucsAt [b0, b1, b2] = 0 ∧ fits [b0, b1, b2] = true ∧ ucsAt [b0, b1, b2, b3] = 4) := by
 match l with
 | [] => exact .inl rfl
 | [b0] => exact .inl rfl
 | b0 :: b1 :: r =>
  by_cases h2 : b0 / 32 = 6
  · by_cases hg : b1 / 64 = 2 ∧ 128 ≤ b0 % 32 * 64 + b1 % 64 ∧ MayC (b0 % 32 * 64 + b1 % 64)
    · refine .inr (.inl ⟨by simp only [ucsAt]; rw [if_pos h2, if_pos hg], b0, b1, r, rfl, by omega, ?_, by simp only [ucsAt]; rw [if_pos h2, if_pos hg]⟩)
      simp only [fits]
      rw [if_pos h2]
      exact mt_of hg.2.2 (by omega) (by omega)
    · exact .inl (by simp only [ucsAt]; rw [if_pos h2, if_neg hg])
  · match r with
    | [] => exact .inl (by simp only [ucsAt]; rw [if_neg h2])
    | b2 :: r =>
     by_cases h3 : b0 / 16 = 14
     · by_cases hg : b1 / 64 = 2 ∧ b2 / 64 = 2 ∧ 2048 ≤ b0 % 16 * 4096 + b1 % 64 * 64 + b2 % 64 ∧ MayC (b0 % 16 * 4096 + b1 % 64 * 64 + b2 % 64)
       · refine .inr (.inr (.inl ⟨by simp only [ucsAt]; rw [if_neg h2, if_pos h3, if_pos hg], b0, b1, b2, r, rfl, by omega, ?_, by simp only [ucsAt]; rw [if_neg h2], ?_, by simp only [ucsAt]; rw [if_neg h2, if_pos h3, if_pos hg]⟩))
         · simp only [fits]
           rw [if_neg h2, if_pos h3]
           exact mt_of hg.2.2.2 (by omega) (by omega)
         · simp only [fits]
           rw [if_pos hg.1, if_neg h2, if_pos h3]
           exact mt_of hg.2.2.2 (by omega) (by omega)
       · exact .inl (by simp only [ucsAt]; rw [if_neg h2, if_pos h3, if_neg hg])
     · match r with
       | [] => exact .inl (by simp only [ucsAt]; rw [if_neg h2, if_neg h3])
       | b3 :: r =>
        by_cases h4 : b0 / 8 = 30
        · by_cases hg : b1 / 64 = 2 ∧ b2 / 64 = 2 ∧ b3 / 64 = 2 ∧ 65536 ≤ b0 % 8 * 262144 + b1 % 64 * 4096 + b2 % 64 * 64 + b3 % 64 ∧ MayC (b0 % 8 * 262144 + b1 % 64 * 4096 + b2 % 64 * 64 + b3 % 64)
          · refine .inr (.inr (.inr ⟨by simp only [ucsAt]; rw [if_neg h2, if_neg h3, if_pos h4, if_pos hg], b0, b1, b2, b3, r, rfl, by omega, ?_, by simp only [ucsAt]; rw [if_neg h2], ?_, by simp only [ucsAt]; rw [if_neg h2, if_neg h3], ?_, by simp only [ucsAt]; rw [if_neg h2, if_neg h3, if_pos h4, if_pos hg]⟩))
            · simp only [fits]
              rw [if_neg h2, if_neg h3, if_pos h4]
              exact mt_of hg.2.2.2.2 (by omega) (by omega)
            · simp only [fits]
              rw [if_pos hg.1, if_neg h2, if_neg h3, if_pos h4]
              exact mt_of hg.2.2.2.2 (by omega) (by omega)
            · simp only [fits]
              rw [if_pos ⟨hg.1, hg.2.1⟩, if_neg h3, if_pos h4]
              exact mt_of hg.2.2.2.2 (by omega) (by omega)
          · exact .inl (by simp only [ucsAt]; rw [if_neg h2, if_neg h3, if_pos h4, if_neg hg])
        · exact .inl (by simp only [ucsAt]; rw [if_neg h2, if_neg h3, if_neg h4])
inductive Q where
 | top | p1 | p2 | u (l : List Nat) | e0 | ns | n | nd | np1 | np2 | c (k : Nat) | st
def isOp (c : Nat) : Bool := c == 43 || c == 35 || c == 46 || c == 47 || c == 59 || c == 63 || c == 38
def fin (b : Nat) : Option Q := if b = 44 then some .ns else if b = 125 then some .top else none
def nsStep (b : Nat) : Option Q := if isWord b = true then some .n else if b = 37 then some .np1 else none
def step : Q → Nat → Option Q
 | .top, b => if isLit b = true then some .top else if b = 37 then some .p1 else if b = 123 then some .e0 else if fits [b] = true then some (.u [b]) else none
 | .p1, b => if isHex b = true then some .p2 else none
 | .p2, b => if isHex b = true then some .top else none
 | .u l, b => if ucsAt (l ++ [b]) = l.length + 1 then some .top else if fits (l ++ [b]) = true then some (.u (l ++ [b])) else none
 | .e0, b => if isOp b = true then some .ns else nsStep b
 | .ns, b => nsStep b
 | .nd, b => nsStep b
 | .n, b => if isWord b = true then some .n else if b = 37 then some .np1 else if b = 46 then some .nd else if b = 42 then some .st else if b = 58 then some (.c 0) else fin b
 | .np1, b => if isHex b = true then some .np2 else none
 | .np2, b => if isHex b = true then some .n else none
 | .c k, b => if isDigit b = true ∧ k < 4 ∧ ¬ (k = 0 ∧ b = 48) then some (.c (k + 1)) else if k = 0 then none else fin b
 | .st, b => fin b
def nstep : Q → Nat → Option Q
 | .n, b => if isWord b = true then some .n else if b = 37 then some .np1 else if b = 46 then some .nd else none
 | .ns, b => nsStep b
 | .nd, b => nsStep b
 | .np1, b => if isHex b = true then some .np2 else none
 | .np2, b => if isHex b = true then some .n else none
 | _, _ => none
def run (f : Q → Nat → Option Q) : Q → List Nat → Option Q
 | q, [] => some q
 | q, b :: r => match f q b with
  | none => none
  | some q' => run f q' r
def far (f : Q → Nat → Option Q) : Q → List Nat → Nat
 | _, [] => 0
 | q, b :: r => match f q b with
  | none => 0
  | some q' => far f q' r + 1
section
variable {f : Q → Nat → Option Q}
theorem run_nil (q : Q) : run f q [] = some q := rfl
theorem run_some {q q' : Q} {b : Nat} (h : f q b = some q') (r : List Nat) : run f q (b :: r) = run f q' r := by simp only [run, h]
theorem run_none {q : Q} {b : Nat} (h : f q b = none) (r : List Nat) : run f q (b :: r) = none := by simp only [run, h]
theorem far_some {q q' : Q} {b : Nat} (h : f q b = some q') (r : List Nat) : far f q (b :: r) = far f q' r + 1 := by simp only [far, h]
theorem far_none {q : Q} {b : Nat} (h : f q b = none) (r : List Nat) : far f q (b :: r) = 0 := by simp only [far, h]
theorem run_append (m : List Nat) : ∀ (l : List Nat) (q : Q), run f q (l ++ m) = (run f q l).bind fun q' => run f q' m
 | [], q => rfl
 | b :: r, q => by
  cases h : f q b with
  | none => rw [List.cons_append, run_none h, run_none h, Option.bind_none]
  | some q' => rw [List.cons_append, run_some h, run_some h, run_append m r q']
theorem far_append {m : List Nat} {q' : Q} : ∀ (l : List Nat) (q : Q), run f q l = some q' → far f q (l ++ m) = l.length + far f q' m
 | [], q, h => by
  obtain rfl := Option.some.inj h
  simp
 | b :: r, q, h => by
  cases e : f q b with
  | none =>
   rw [run_none e] at h
   cases h
  | some q2 =>
   rw [run_some e] at h
   rw [List.cons_append, far_some e, far_append r q2 h, List.length_cons]
   omega
theorem far_dead {m : List Nat} : ∀ (l : List Nat) (q : Q), run f q l = none → far f q (l ++ m) = far f q l ∧ run f q (l ++ m) = none
 | [], q, h => by cases h
 | b :: r, q, h => by
  cases e : f q b with
  | none =>
   rw [List.cons_append, far_none e, far_none e, run_none e]
   exact ⟨rfl, rfl⟩
  | some q2 =>
   rw [run_some e] at h
   rw [List.cons_append, far_some e, far_some e, run_some e, (far_dead r q2 h).1]
   exact ⟨rfl, (far_dead r q2 h).2⟩
theorem far_le : ∀ (l : List Nat) (q : Q), far f q l ≤ l.length
 | [], q => Nat.le_refl _
 | b :: r, q => by
  cases e : f q b with
  | none =>
   rw [far_none e]
   exact Nat.zero_le _
  | some q2 =>
   rw [far_some e]
   exact Nat.succ_le_succ (far_le r q2)
theorem far_lt : ∀ (l : List Nat) (q : Q), run f q l = none → far f q l < l.length
 | [], q, h => by cases h
 | b :: r, q, h => by
  cases e : f q b with
  | none =>
   rw [far_none e]
   exact Nat.succ_pos _
  | some q2 =>
   rw [run_some e] at h
   rw [far_some e]
   exact Nat.succ_lt_succ (far_lt r q2 h)
theorem far_all {l : List Nat} {q q' : Q} (h : run f q l = some q') : far f q l = l.length := by
 have := far_append (m := []) l q h
 simpa [far] using this
theorem far_take : ∀ (l : List Nat) (q : Q) (n : Nat), far f q (l.take n) = min n (far f q l)
 | [], q, n => by simp [far]
 | b :: r, q, 0 => by simp [far]
 | b :: r, q, n + 1 => by
  cases e : f q b with
  | none =>
   rw [List.take_succ_cons, far_none e, far_none e]
   omega
  | some q2 =>
   rw [List.take_succ_cons, far_some e, far_some e, far_take r q2 n]
   omega
end
def final : Q → Bool
 | .n => true
 | .st => true
 | .c k => decide (k ≠ 0)
 | _ => false
def inside : Q → Bool
 | .ns => true
 | .n => true
 | .nd => true
 | .np1 => true
 | .np2 => true
 | .c _ => true
 | .st => true
 | _ => false
theorem not_sep {b : Nat} (h : b = 44 ∨ b = 125) : isWord b = false ∧ isHex b = false ∧ isDigit b = false ∧ isOp b = false ∧ isLit b = (b == 44) := by
 rcases h with rfl | rfl <;> refine ⟨by decide, by decide, by decide, by decide, by decide⟩
theorem step_final {q : Q} (h : final q = true) : step q 44 = some .ns ∧ step q 125 = some .top := by
 have a := not_sep (b := 44) (.inl rfl)
 have b := not_sep (b := 125) (.inr rfl)
 cases q <;> first | cases h | skip
 case n => simp [step, a, b, fin]
 case st => simp [step, fin]
 case c k =>
  have hk : k ≠ 0 := of_decide_eq_true h
  simp [step, a, b, fin, hk]
theorem step_open {q : Q} (hi : inside q = true) (h : final q = false) : step q 44 = none ∧ step q 125 = none := by
 have a := not_sep (b := 44) (.inl rfl)
 have b := not_sep (b := 125) (.inr rfl)
 cases q <;> first | cases hi | cases h | skip
 case c k =>
  obtain rfl : k = 0 := Classical.byContradiction fun hk => by simp [final, hk] at h
  simp [step, a, b]
 case n => exact absurd h (by decide)
 case st => exact absurd h (by decide)
 all_goals simp [step, nsStep, a, b]
theorem fin_other {b : Nat} (h1 : b ≠ 44) (h2 : b ≠ 125) : fin b = none := by unfold fin; rw [if_neg h1, if_neg h2]
theorem step_inside {q q' : Q} {b : Nat} (hi : inside q = true) (h1 : b ≠ 44) (h2 : b ≠ 125) (h : step q b = some q') : inside q' = true := by
 have hf := fin_other h1 h2
 cases q <;> first | cases hi | skip
 all_goals
  simp only [step, nsStep, hf] at h
  repeat' split at h
  all_goals first | cases h; rfl | cases h
theorem run_inside : ∀ (l : List Nat) (q q' : Q), inside q = true → (∀ b ∈ l, b ≠ 44 ∧ b ≠ 125) → run step q l = some q' → inside q' = true
 | [], q, q', hi, _, h => by
  obtain rfl := Option.some.inj h
  exact hi
 | b :: r, q, q', hi, hb, h => by
  cases e : step q b with
  | none =>
   rw [run_none e] at h
   cases h
  | some q2 =>
   rw [run_some e] at h
   exact run_inside r q2 q' (step_inside hi (hb b (by simp)).1 (hb b (by simp)).2 e) (fun x hx => hb x (by simp [hx])) h
def isN : Q → Bool
 | .n => true
 | _ => false
theorem isN_iff (q : Q) : isN q = true ↔ q = .n := by cases q <;> simp [isN]
def scan : Q → Nat → Nat → List Nat → Nat × Nat
 | _, a, e, [] => (a, e)
 | q, a, e, b :: r => match nstep q b with
  | none => (a, e)
  | some q' => scan q' (a + 1) (if isN q' = true then a + 1 else e) r
theorem scan_none {q : Q} {b : Nat} (h : nstep q b = none) (a e : Nat) (r : List Nat) : scan q a e (b :: r) = (a, e) := by simp only [scan, h]
theorem scan_some {q q' : Q} {b : Nat} (h : nstep q b = some q') (a e : Nat) (r : List Nat) : scan q a e (b :: r) = scan q' (a + 1) (if isN q' = true then a + 1 else e) r := by simp only [scan, h]
theorem scan_far : ∀ (l : List Nat) (q : Q) (a e : Nat), (scan q a e l).1 = a + far nstep q l
 | [], q, a, e => rfl
 | b :: r, q, a, e => by
  cases h : nstep q b with
  | none => rw [scan_none h, far_none h]; rfl
  | some q' =>
   rw [scan_some h, far_some h, scan_far r]
   omega
theorem scan_end : ∀ (l : List Nat) (q : Q) (a e : Nat),
 ((scan q a e l).2 = e ∧ ∀ m, 1 ≤ m → m ≤ l.length → run nstep q (l.take m) ≠ some .n) ∨
 ∃ m, 1 ≤ m ∧ m ≤ l.length ∧ (scan q a e l).2 = a + m ∧ run nstep q (l.take m) = some .n ∧ ∀ m', m < m' → m' ≤ l.length → run nstep q (l.take m') ≠ some .n
 | [], q, a, e => .inl ⟨rfl, fun m h1 h2 => by simp at h2; omega⟩
 | b :: r, q, a, e => by
  cases h : nstep q b with
  | none =>
   refine .inl ⟨by rw [scan_none h], fun m h1 h2 => ?_⟩
   obtain ⟨m, rfl⟩ : ∃ k, m = k + 1 := ⟨m - 1, by omega⟩
   rw [List.take_succ_cons, run_none h]
   simp
  | some q' =>
   have key : ∀ m, run nstep q ((b :: r).take (m + 1)) = run nstep q' (r.take m) := fun m => by rw [List.take_succ_cons, run_some h]
   rw [scan_some h]
   rcases scan_end r q' (a + 1) (if isN q' = true then a + 1 else e) with ⟨h1, h2⟩ | ⟨m, h1, h2, h3, h4, h5⟩
   · by_cases hn : isN q' = true
     · refine .inr ⟨1, Nat.le_refl _, by simp, by rw [h1, if_pos hn], by rw [key 0]; exact congrArg some ((isN_iff q').1 hn), fun m' g1 g2 => ?_⟩
       obtain ⟨m', rfl⟩ : ∃ k, m' = k + 1 := ⟨m' - 1, by omega⟩
       rw [key]
       exact h2 m' (by omega) (by simpa using g2)
     · refine .inl ⟨by rw [h1, if_neg hn], fun m' g1 g2 => ?_⟩
       obtain ⟨m', rfl⟩ : ∃ k, m' = k + 1 := ⟨m' - 1, by omega⟩
       rw [key]
       by_cases g : m' = 0
       · subst g
         intro h6
         exact hn ((isN_iff q').2 (Option.some.inj h6))
       · exact h2 m' (by omega) (by simpa using g2)
   · refine .inr ⟨m + 1, by omega, by simpa using h2, by rw [h3]; omega, by rw [key]; exact h4, fun m' g1 g2 => ?_⟩
     obtain ⟨m', rfl⟩ : ∃ k, m' = k + 1 := ⟨m' - 1, by omega⟩
     rw [key]
     exact h5 m' (by omega) (by simpa using g2)
def nameEnd (l : List Nat) : Nat := (scan .ns 0 0 l).2
theorem nameEnd_le (l : List Nat) : nameEnd l ≤ l.length := by
 rcases scan_end l .ns 0 0 with ⟨h1, -⟩ | ⟨m, -, h2, h3, -⟩
 · rw [nameEnd, h1]
   omega
 · rw [nameEnd, h3]
   omega
theorem nameEnd_is (l : List Nat) (h : nameEnd l ≠ 0) : run nstep .ns (l.take (nameEnd l)) = some .n := by
 rcases scan_end l .ns 0 0 with ⟨h1, -⟩ | ⟨m, -, h2, h3, h4, -⟩
 · exact absurd h1 h
 · rw [nameEnd, h3, Nat.zero_add]
   exact h4
theorem nameEnd_last (l : List Nat) (m : Nat) (h1 : nameEnd l < m) (h2 : m ≤ l.length) : run nstep .ns (l.take m) ≠ some .n := by
 rcases scan_end l .ns 0 0 with ⟨g1, g2⟩ | ⟨k, -, g2, g3, g4, g5⟩
 · exact g2 m (by omega) h2
 · rw [nameEnd, g3] at h1
   exact g5 m (by omega) h2
theorem nameEnd_eq {l : List Nat} {m : Nat} (h1 : m ≤ l.length) (h2 : run nstep .ns (l.take m) = some .n) (h3 : ∀ k, m < k → k ≤ l.length → run nstep .ns (l.take k) ≠ some .n) : nameEnd l = m := by
 rcases Nat.lt_trichotomy (nameEnd l) m with h | h | h
 · exact absurd h2 (nameEnd_last l m h h1)
 · exact h
 · exact absurd (nameEnd_is l (by omega)) (h3 _ h (nameEnd_le l))
theorem nstep_step {q q' : Q} {b : Nat} (h : nstep q b = some q') : step q b = some q' := by
 cases q <;> first | exact h | cases h | skip
 simp only [nstep] at h
 simp only [step]
 by_cases h1 : isWord b = true
 · rw [if_pos h1] at h ⊢
   exact h
 rw [if_neg h1] at h ⊢
 by_cases h2 : b = 37
 · rw [if_pos h2] at h ⊢
   exact h
 rw [if_neg h2] at h ⊢
 by_cases h3 : b = 46
 · rw [if_pos h3] at h ⊢
   exact h
 rw [if_neg h3] at h
 cases h
theorem nrun_run : ∀ (l : List Nat) (q q' : Q), run nstep q l = some q' → run step q l = some q'
 | [], q, q', h => h
 | b :: r, q, q', h => by
  cases e : nstep q b with
  | none =>
   rw [run_none e] at h
   cases h
  | some q2 =>
   rw [run_some e] at h
   rw [run_some (nstep_step e)]
   exact nrun_run r q2 q' h
def within : Q → Bool
 | .ns => true
 | .nd => true
 | .np1 => true
 | .np2 => true
 | _ => false
theorem step_within {q : Q} (h : within q = true) (b : Nat) : step q b = nstep q b := by cases q <;> first | rfl | (cases h; done)
theorem nstep_kind {q q' : Q} {b : Nat} (h : nstep q b = some q') : within q' = true ∨ q' = .n := by
 cases q <;> simp only [nstep, nsStep] at h <;> first | cases h | skip
 all_goals
  repeat' split at h
  all_goals first | cases h; exact .inr rfl | cases h; exact .inl rfl | cases h
theorem run_same : ∀ (l : List Nat) (q : Q), within q = true → (∀ m, 1 ≤ m → m ≤ l.length → run nstep q (l.take m) ≠ some .n) → far step q l = far nstep q l ∧ run step q l = run nstep q l
 | [], q, _, _ => ⟨rfl, rfl⟩
 | b :: r, q, hq, hm => by
  have hs := step_within hq b
  cases e : nstep q b with
  | none =>
   rw [e] at hs
   rw [far_none e, far_none hs, run_none e, run_none hs]
   exact ⟨rfl, rfl⟩
  | some q' =>
   rw [e] at hs
   rw [far_some e, far_some hs, run_some e, run_some hs]
   have hq' : within q' = true := by
    rcases nstep_kind e with h | h
    · exact h
    · exact absurd (by rw [List.take_succ_cons, run_some e, List.take_zero, run_nil, h]) (hm 1 (Nat.le_refl _) (by simp))
   obtain ⟨a, b'⟩ := run_same r q' hq' fun m h1 h2 h3 => hm (m + 1) (by omega) (by simpa using h2) (by rw [List.take_succ_cons, run_some e]; exact h3)
   rw [a, b']
   exact ⟨rfl, rfl⟩
def num (r : List Nat) : Nat := r.foldl (fun a d => 10 * a + (d - 48)) 0
def behindFar : List Nat → Nat
 | [] => 0
 | b :: r => if b = 42 then 1 else if b = 58 then 1 + far step (.c 0) r else 0
def behindIs : List Nat → Option (Int × Bool)
 | [] => some (0, false)
 | b :: r => if b = 42 then (if r = [] then some (0, true) else none) else if b = 58 then (if r ≠ [] ∧ far step (.c 0) r = r.length then some (((num r : Nat) : Int), false) else none) else none
structure MVar where
 name : List Nat
 max : Int
 star : Bool
def mVar (l : List Nat) : Option MVar := if nameEnd l = 0 then none else (behindIs (l.drop (nameEnd l))).map fun t => ⟨l.take (nameEnd l), t.1, t.2⟩
def NoSep (l : List Nat) : Prop := ∀ b ∈ l, b ≠ 44 ∧ b ≠ 125
theorem NoSep.drop {l : List Nat} (h : NoSep l) (n : Nat) : NoSep (l.drop n) := fun b hb => h b (List.mem_of_mem_drop hb)
theorem NoSep.tail {b : Nat} {l : List Nat} (h : NoSep (b :: l)) : NoSep l := fun x hx => h x (List.mem_cons_of_mem _ hx)
theorem st_dies {l : List Nat} (h : NoSep l) : far step .st l = 0 ∧ (l ≠ [] → run step .st l = none) := by
 match l, h with
 | [], h => exact ⟨rfl, fun g => absurd rfl g⟩
 | b :: r, h =>
  have hs : step .st b = none := fin_other (h b (by simp)).1 (h b (by simp)).2
  exact ⟨far_none hs r, fun _ => run_none hs r⟩
theorem c_kind : ∀ (l : List Nat) (k : Nat) (q : Q), NoSep l → run step (.c k) l = some q → q = .c (k + l.length)
 | [], k, q, _, h => (Option.some.inj h).symm
 | b :: r, k, q, hs, h => by
  cases e : step (.c k) b with
  | none =>
   rw [run_none e] at h
   cases h
  | some q' =>
   rw [run_some e] at h
   have e2 : q' = .c (k + 1) := by
    simp only [step] at e
    rw [fin_other (hs b (by simp)).1 (hs b (by simp)).2] at e
    repeat' split at e
    all_goals first | exact (Option.some.inj e).symm | cases e
   subst e2
   rw [c_kind r (k + 1) q hs.tail h, List.length_cons]
   congr 1
   omega
theorem c_far {l : List Nat} {k : Nat} (hs : NoSep l) : far step (.c k) l = l.length ↔ run step (.c k) l = some (.c (k + l.length)) := by
 constructor
 · intro h
   cases e : run step (.c k) l with
   | none =>
    have := far_lt _ _ e
    omega
   | some q => rw [c_kind l k q hs e]
 · intro h
   exact far_all h
theorem n_other {b : Nat} (h0 : isWord b = false) (h1 : b ≠ 37) (h2 : b ≠ 46) (h3 : b ≠ 42) (h4 : b ≠ 58) (h5 : b ≠ 44) (h6 : b ≠ 125) : step .n b = none ∧ nstep .n b = none := by
 simp only [step, nstep]
 rw [if_neg (by simp [h0]), if_neg h1, if_neg h2, if_neg h3, if_neg h4, fin_other h5 h6, if_neg (by simp [h0]), if_neg h1, if_neg h2]
 exact ⟨rfl, rfl⟩
theorem n_star (b : Nat) (h : b = 42) : step .n b = some .st ∧ nstep .n b = none := by
 subst h
 have h1 : isWord 42 = false := by decide
 simp [step, nstep, h1]
theorem n_colon (b : Nat) (h : b = 58) : step .n b = some (.c 0) ∧ nstep .n b = none := by
 subst h
 have h1 : isWord 58 = false := by decide
 simp [step, nstep, h1]
theorem behind_n {l : List Nat} (hs : NoSep l) (hm : ∀ m, 1 ≤ m → m ≤ l.length → run nstep .n (l.take m) ≠ some .n) :
 far step .n l = max (far nstep .n l) (behindFar l) ∧ ((∃ q, run step .n l = some q ∧ final q = true) ↔ ∃ t, behindIs l = some t) := by
 match l, hs, hm with
 | [], _, _ => exact ⟨rfl, ⟨fun _ => ⟨_, rfl⟩, fun _ => ⟨_, rfl, rfl⟩⟩⟩
 | b :: r, hs, hm =>
  have hw : isWord b = false := by
   cases e : isWord b with
   | false => rfl
   | true =>
    refine absurd ?_ (hm 1 (Nat.le_refl _) (by simp))
    rw [List.take_succ_cons, List.take_zero, run_some (q' := .n) (by simp only [nstep]; rw [if_pos e]), run_nil]
  have hb := hs b (by simp)
  by_cases h42 : b = 42
  · have hn := n_star b h42
    rw [far_some hn.1, far_none hn.2, run_some hn.1, (st_dies hs.tail).1]
    refine ⟨by simp only [behindFar]; rw [if_pos h42]; rfl, ?_⟩
    by_cases hr : r = []
    · subst hr
      exact ⟨fun _ => ⟨(0, true), by simp [behindIs, h42]⟩, fun _ => ⟨_, rfl, rfl⟩⟩
    · refine ⟨fun ⟨q, h, _⟩ => ?_, fun ⟨t, h⟩ => ?_⟩
      · rw [(st_dies hs.tail).2 hr] at h
        cases h
      · simp only [behindIs] at h
        rw [if_pos h42, if_neg hr] at h
        cases h
  by_cases h58 : b = 58
  · have hn := n_colon b h58
    rw [far_some hn.1, far_none hn.2, run_some hn.1]
    refine ⟨by simp only [behindFar]; rw [if_neg h42, if_pos h58]; omega, ?_⟩
    refine ⟨fun ⟨q, h, hf⟩ => ?_, fun ⟨t, h⟩ => ?_⟩
    · have hq := c_kind r 0 q hs.tail h
      subst hq
      have hr : r ≠ [] := by
       rintro rfl
       exact absurd hf (by decide)
      refine ⟨(((num r : Nat) : Int), false), ?_⟩
      simp only [behindIs]
      rw [if_neg h42, if_pos h58, if_pos ⟨hr, (c_far hs.tail).2 h⟩]
    · simp only [behindIs] at h
      rw [if_neg h42, if_pos h58] at h
      split at h
      case isFalse => cases h
      rename_i hg
      refine ⟨_, (c_far hs.tail).1 hg.2, ?_⟩
      have : r.length ≠ 0 := fun h0 => hg.1 (List.length_eq_zero_iff.1 h0)
      simp only [final]
      exact decide_eq_true (by omega)
  have h0 : behindFar (b :: r) = 0 := by simp only [behindFar]; rw [if_neg h42, if_neg h58]
  have h1 : behindIs (b :: r) = none := by simp only [behindIs]; rw [if_neg h42, if_neg h58]
  rw [h0, h1]
  suffices h : far step .n (b :: r) = far nstep .n (b :: r) ∧ ¬ ∃ q, run step .n (b :: r) = some q ∧ final q = true from
   ⟨by rw [h.1]; omega, ⟨fun g => absurd g h.2, fun ⟨t, g⟩ => by cases g⟩⟩
  have go : ∀ q', nstep .n b = some q' → within q' = true → far step .n (b :: r) = far nstep .n (b :: r) ∧ ¬ ∃ q, run step .n (b :: r) = some q ∧ final q = true := by
   intro q' e hq'
   have hm' : ∀ m, 1 ≤ m → m ≤ r.length → run nstep q' (r.take m) ≠ some .n := fun m h1 h2 h3 => hm (m + 1) (by omega) (by simpa using h2) (by rw [List.take_succ_cons, run_some e]; exact h3)
   obtain ⟨g1, g2⟩ := run_same r q' hq' hm'
   rw [far_some e, far_some (nstep_step e), g1]
   refine ⟨rfl, ?_⟩
   rintro ⟨q, h, hf⟩
   rw [run_some (nstep_step e), g2] at h
   have hk : ∀ (l : List Nat) (p : Q), within p = true → run nstep p l = some q → within q = true ∨ q = .n := by
    intro l
    induction l with
    | nil => exact fun p hp h => .inl (by rw [← Option.some.inj h]; exact hp)
    | cons x l ih =>
     intro p hp h
     cases e : nstep p x with
     | none =>
      rw [run_none e] at h
      cases h
     | some p' =>
      rw [run_some e] at h
      rcases nstep_kind e with g | g
      · exact ih p' g h
      · subst g
        have : ∀ (l : List Nat) (p : Q), within p = true ∨ p = .n → run nstep p l = some q → within q = true ∨ q = .n := by
         intro l
         induction l with
         | nil => exact fun p hp h => by rw [← Option.some.inj h]; exact hp
         | cons y l ih2 =>
          intro p hp h
          cases e : nstep p y with
          | none =>
           rw [run_none e] at h
           cases h
          | some pq =>
           rw [run_some e] at h
           exact ih2 pq (nstep_kind e) h
        exact this l .n (.inr rfl) h
   rcases hk r q' hq' h with g | g
   · cases q <;> first | (cases g; done) | (cases hf; done)
   · subst g
     by_cases hr : r = []
     · subst hr
       obtain rfl := Option.some.inj h
       cases hq'
     · refine hm' r.length (List.length_pos_iff.2 hr) (Nat.le_refl _) ?_
       rw [List.take_length]
       exact h
  by_cases h37 : b = 37
  · exact go .np1 (by simp only [nstep]; rw [if_neg (by simp [hw]), if_pos h37]) rfl
  by_cases h46 : b = 46
  · exact go .nd (by simp only [nstep]; rw [if_neg (by simp [hw]), if_neg h37, if_pos h46]) rfl
  obtain ⟨a, c⟩ := n_other hw h37 h46 h42 h58 hb.1 hb.2
  rw [far_none a, far_none c, run_none a]
  exact ⟨rfl, fun ⟨q, h, _⟩ => by cases h⟩
theorem var_far {l : List Nat} (hs : NoSep l) :
 far step .ns l = max (scan .ns 0 0 l).1 (if nameEnd l = 0 then 0 else nameEnd l + behindFar (l.drop (nameEnd l))) ∧ ((∃ q, run step .ns l = some q ∧ final q = true) ↔ ∃ v, mVar l = some v) := by
 rw [scan_far, Nat.zero_add]
 by_cases h0 : nameEnd l = 0
 · have hm : ∀ m, 1 ≤ m → m ≤ l.length → run nstep .ns (l.take m) ≠ some .n := fun m h1 h2 => nameEnd_last l m (by omega) h2
   obtain ⟨a, b⟩ := run_same l .ns rfl hm
   rw [if_pos h0, a, b]
   refine ⟨by omega, ⟨?_, ?_⟩⟩
   · rintro ⟨q, h, hf⟩
     exfalso
     by_cases hl : l = []
     · subst hl
       obtain rfl := Option.some.inj h
       cases hf
     · have h2 := nrun_run _ _ _ h
       have hi := run_inside l .ns q rfl hs h2
       have : within q = true ∨ q = .n := by
        have : ∀ (l : List Nat) (p : Q), within p = true ∨ p = .n → run nstep p l = some q → within q = true ∨ q = .n := by
         intro l
         induction l with
         | nil => exact fun p hp h => by rw [← Option.some.inj h]; exact hp
         | cons y l ih2 =>
          intro p hp h
          cases e : nstep p y with
          | none =>
           rw [run_none e] at h
           cases h
          | some pq =>
           rw [run_some e] at h
           exact ih2 pq (nstep_kind e) h
        exact this l .ns (.inl rfl) h
       rcases this with g | g
       · cases q <;> first | (cases g; done) | (cases hf; done)
       · subst g
         exact hm l.length (List.length_pos_iff.2 hl) (Nat.le_refl _) (by rw [List.take_length]; exact h)
   · rintro ⟨v, h⟩
     rw [mVar, if_pos h0] at h
     cases h
 · have hn := nameEnd_is l h0
   have hr := nrun_run _ _ _ hn
   have hle := nameEnd_le l
   have hlen : (l.take (nameEnd l)).length = nameEnd l := by rw [List.length_take]; omega
   have hsplit : l = l.take (nameEnd l) ++ l.drop (nameEnd l) := (List.take_append_drop _ _).symm
   have hm : ∀ m, 1 ≤ m → m ≤ (l.drop (nameEnd l)).length → run nstep .n ((l.drop (nameEnd l)).take m) ≠ some .n := by
    intro m h1 h2 h3
    rw [List.length_drop] at h2
    refine nameEnd_last l (nameEnd l + m) (by omega) (by omega) ?_
    rw [List.take_add, run_append, hn, Option.bind_some]
    exact h3
   obtain ⟨a, b⟩ := behind_n (hs.drop _) hm
   have e1 : far step .ns l = nameEnd l + far step .n (l.drop (nameEnd l)) := by
    conv => lhs; rw [hsplit]
    rw [far_append _ _ hr, hlen]
   have e2 : far nstep .ns l = nameEnd l + far nstep .n (l.drop (nameEnd l)) := by
    conv => lhs; rw [hsplit]
    rw [far_append _ _ hn, hlen]
   have e3 : run step .ns l = run step .n (l.drop (nameEnd l)) := by
    conv => lhs; rw [hsplit]
    rw [run_append, hr, Option.bind_some]
   rw [if_neg h0, e1, e2, e3, a]
   refine ⟨by omega, ?_⟩
   rw [b, mVar, if_neg h0]
   constructor
   · rintro ⟨t, ht⟩
     rw [ht]
     exact ⟨_, rfl⟩
   · rintro ⟨v, hv⟩
     cases hb : behindIs (l.drop (nameEnd l)) with
     | none =>
      rw [hb] at hv
      cases hv
     | some t => exact ⟨t, rfl⟩
def trip : List Nat → Bool
 | a :: b :: c :: _ => a == 37 && (isHex b && isHex c)
 | _ => false
def pieceN : List Nat → Nat
 | [] => 0
 | b :: r => if isLit b = true then 1 else if trip (b :: r) = true then 3 else ucsAt (b :: r)
def piecesN : Nat → List Nat → Nat
 | 0, _ => 0
 | d + 1, l => if pieceN l = 0 then 0 else pieceN l + piecesN d (l.drop (pieceN l))
theorem lit_kind {b : Nat} (h : isLit b = true) : b ≠ 37 ∧ b ≠ 123 ∧ b ≠ 44 + 81 ∧ b < 192 := by
 refine ⟨?_, ?_, ?_, ?_⟩
 · rintro rfl; revert h; decide
 · rintro rfl; revert h; decide
 · rintro rfl; revert h; decide
 · simp [isLit] at h
   omega
theorem step_lit {b : Nat} (h : isLit b = true) : step .top b = some .top := by simp only [step]; rw [if_pos h]
theorem step_pct : step .top 37 = some .p1 := by
 have : isLit 37 = false := by decide
 simp [step, this]
theorem step_open_brace : step .top 123 = some .e0 := by
 have : isLit 123 = false := by decide
 simp [step, this]
theorem step_u {b : Nat} (h : 192 ≤ b) : step .top b = if fits [b] = true then some (.u [b]) else none := by
 have h1 : ¬ isLit b = true := fun g => by have := lit_kind g; omega
 simp only [step]
 rw [if_neg h1, if_neg (by omega), if_neg (by omega)]
theorem step_u_next {l : List Nat} {b : Nat} (h : ucsAt (l ++ [b]) ≠ l.length + 1) (hf : fits (l ++ [b]) = true) : step (.u l) b = some (.u (l ++ [b])) := by simp only [step]; rw [if_neg h, if_pos hf]
theorem step_u_top {l : List Nat} {b : Nat} (h : ucsAt (l ++ [b]) = l.length + 1) : step (.u l) b = some .top := by simp only [step]; rw [if_pos h]
theorem piece_top {l : List Nat} (h : pieceN l ≠ 0) : pieceN l ≤ l.length ∧ run step .top (l.take (pieceN l)) = some .top ∧ l.head? ≠ some 123 := by
 match l, h with
 | [], h => exact absurd rfl h
 | b :: r, h =>
  by_cases h1 : isLit b = true
  · have e : pieceN (b :: r) = 1 := by simp only [pieceN]; rw [if_pos h1]
    rw [e]
    refine ⟨by simp, by rw [List.take_succ_cons, List.take_zero, run_some (step_lit h1), run_nil], ?_⟩
    intro g
    exact (lit_kind h1).2.1 (Option.some.inj g)
  by_cases h2 : trip (b :: r) = true
  · have e : pieceN (b :: r) = 3 := by simp only [pieceN]; rw [if_neg h1, if_pos h2]
    rw [e]
    match r, h2 with
    | [], h2 => cases h2
    | [_], h2 => cases h2
    | c :: d :: r, h2 =>
     simp only [trip, Bool.and_eq_true, beq_iff_eq] at h2
     obtain ⟨rfl, hc, hd⟩ := h2
     refine ⟨by simp, ?_, by simp⟩
     rw [List.take_succ_cons, List.take_succ_cons, List.take_succ_cons, List.take_zero, run_some step_pct, run_some (q' := .p2) (by simp only [step]; rw [if_pos hc]), run_some (q' := .top) (by simp only [step]; rw [if_pos hd]), run_nil]
  have e : pieceN (b :: r) = ucsAt (b :: r) := by simp only [pieceN]; rw [if_neg h1, if_neg h2]
  rw [e] at h ⊢
  rcases ucsAt_steps (b :: r) with g | ⟨g, b0, b1, r', he, hb, f1, u2⟩ | ⟨g, b0, b1, b2, r', he, hb, f1, u2, f2, u3⟩ | ⟨g, b0, b1, b2, b3, r', he, hb, f1, u2, f2, u3, f3, u4⟩
  · exact absurd g h
  · rw [g, he]
    have s1 : step .top b0 = some (.u [b0]) := by rw [step_u hb, if_pos f1]
    refine ⟨by simp, ?_, by simp; omega⟩
    rw [List.take_succ_cons, List.take_succ_cons, List.take_zero, run_some s1, run_some (step_u_top (l := [b0]) u2), run_nil]
  · rw [g, he]
    have s1 : step .top b0 = some (.u [b0]) := by rw [step_u hb, if_pos f1]
    have s2 : step (.u [b0]) b1 = some (.u [b0, b1]) := step_u_next (l := [b0]) (by simp [u2]) f2
    refine ⟨by simp, ?_, by simp; omega⟩
    rw [List.take_succ_cons, List.take_succ_cons, List.take_succ_cons, List.take_zero, run_some s1, run_some s2, run_some (step_u_top (l := [b0, b1]) u3), run_nil]
  · rw [g, he]
    have s1 : step .top b0 = some (.u [b0]) := by rw [step_u hb, if_pos f1]
    have s2 : step (.u [b0]) b1 = some (.u [b0, b1]) := step_u_next (l := [b0]) (by simp [u2]) f2
    have s3 : step (.u [b0, b1]) b2 = some (.u [b0, b1, b2]) := step_u_next (l := [b0, b1]) (by simp [u3]) f3
    refine ⟨by simp, ?_, by simp; omega⟩
    rw [List.take_succ_cons, List.take_succ_cons, List.take_succ_cons, List.take_succ_cons, List.take_zero, run_some s1, run_some s2, run_some s3, run_some (step_u_top (l := [b0, b1, b2]) u4), run_nil]
def fitsFar : List Nat → List Nat → Nat
 | _, [] => 0
 | l, b :: r => if fits (l ++ [b]) = true then fitsFar (l ++ [b]) r + 1 else 0
def amid : Q → Bool
 | .p1 => true
 | .p2 => true
 | .u _ => true
 | _ => false
theorem u_far : ∀ (r l : List Nat), l ≠ [] → ucsAt (l ++ r) = 0 → far step (.u l) r = fitsFar l r ∧ (run step (.u l) r = none ∨ ∃ q, run step (.u l) r = some q ∧ amid q = true)
 | [], l, _, _ => ⟨rfl, .inr ⟨_, rfl, rfl⟩⟩
 | b :: r, l, hl, hu => by
  have e : l ++ b :: r = (l ++ [b]) ++ r := by simp
  have hne : ucsAt (l ++ [b]) ≠ l.length + 1 := by
   intro h
   have h2 := ucsAt_append (m := r) (l := l ++ [b]) (by simpa using h) (by simp)
   rw [← e, hu] at h2
   simp at h2
  by_cases hf : fits (l ++ [b]) = true
  · have hs := step_u_next hne hf
    obtain ⟨a, c⟩ := u_far r (l ++ [b]) (by simp) (by rw [← e]; exact hu)
    rw [far_some hs, run_some hs, a]
    refine ⟨?_, c⟩
    simp only [fitsFar]
    rw [if_pos hf]
  · have hs : step (.u l) b = none := by simp only [step]; rw [if_neg hne, if_neg hf]
    rw [far_none hs, run_none hs]
    refine ⟨?_, .inl rfl⟩
    simp only [fitsFar]
    rw [if_neg hf]
def stopN : List Nat → Nat
 | [] => 0
 | b :: r => if b = 37 then (match r with
  | [] => 1
  | c :: _ => if isHex c = true then 2 else 1) else fitsFar [] (b :: r)
theorem stop_far {b : Nat} {r : List Nat} (h : pieceN (b :: r) = 0) (hb : b ≠ 123) :
 far step .top (b :: r) = stopN (b :: r) ∧ (run step .top (b :: r) = none ∨ ∃ q, run step .top (b :: r) = some q ∧ amid q = true) := by
 simp only [pieceN] at h
 by_cases h1 : isLit b = true
 · rw [if_pos h1] at h
   cases h
 rw [if_neg h1] at h
 by_cases h2 : trip (b :: r) = true
 · rw [if_pos h2] at h
   cases h
 rw [if_neg h2] at h
 by_cases h3 : b = 37
 · subst h3
   rw [far_some step_pct, run_some step_pct]
   simp only [stopN]
   rw [if_pos trivial]
   match r, h2 with
   | [], _ => exact ⟨rfl, .inr ⟨_, rfl, rfl⟩⟩
   | [c], _ =>
    by_cases hc : isHex c = true
    · have s : step .p1 c = some .p2 := by simp only [step]; rw [if_pos hc]
      rw [far_some s, run_some s]
      simp only [far, run, hc, if_true]
      exact ⟨trivial, .inr ⟨_, rfl, rfl⟩⟩
    · have s : step .p1 c = none := by simp only [step]; rw [if_neg hc]
      rw [far_none s, run_none s]
      simp only [hc]
      exact ⟨rfl, .inl trivial⟩
   | c :: d :: r, h2 =>
    by_cases hc : isHex c = true
    · have s : step .p1 c = some .p2 := by simp only [step]; rw [if_pos hc]
      have hd : ¬ isHex d = true := fun g => h2 (by simp [trip, hc, g])
      have s2 : step .p2 d = none := by simp only [step]; rw [if_neg hd]
      rw [far_some s, run_some s, far_none s2, run_none s2]
      simp only [hc, if_true]
      exact ⟨trivial, .inl trivial⟩
    · have s : step .p1 c = none := by simp only [step]; rw [if_neg hc]
      rw [far_none s, run_none s]
      simp only [hc]
      exact ⟨rfl, .inl trivial⟩
 · have hstep : step .top b = if fits [b] = true then some (.u [b]) else none := by
    simp only [step]
    rw [if_neg h1, if_neg h3, if_neg hb]
   have e : stopN (b :: r) = if fits [b] = true then fitsFar [b] r + 1 else 0 := by
    simp only [stopN]
    rw [if_neg h3]
    simp only [fitsFar, List.nil_append]
   rw [e]
   by_cases hf : fits [b] = true
   · rw [if_pos hf] at hstep ⊢
     obtain ⟨a, c⟩ := u_far r [b] (by simp) h
     rw [far_some hstep, run_some hstep, a]
     exact ⟨rfl, c⟩
   · rw [if_neg hf] at hstep ⊢
     rw [far_none hstep, run_none hstep]
     exact ⟨rfl, .inl rfl⟩
theorem pieces_top : ∀ (d : Nat) (l : List Nat), piecesN d l ≤ l.length ∧ run step .top (l.take (piecesN d l)) = some .top
 | 0, l => ⟨Nat.zero_le _, rfl⟩
 | d + 1, l => by
  simp only [piecesN]
  by_cases h : pieceN l = 0
  · rw [if_pos h]
    exact ⟨Nat.zero_le _, rfl⟩
  · rw [if_neg h]
    obtain ⟨a, b, -⟩ := piece_top h
    obtain ⟨c, e⟩ := pieces_top d (l.drop (pieceN l))
    rw [List.length_drop] at c
    refine ⟨by omega, ?_⟩
    rw [List.take_add, run_append, b, Option.bind_some]
    exact e
theorem pieces_last : ∀ (d : Nat) (l : List Nat), l.length < d → pieceN (l.drop (piecesN d l)) = 0
 | 0, l, h => by omega
 | d + 1, l, h => by
  simp only [piecesN]
  by_cases h1 : pieceN l = 0
  · rw [if_pos h1, List.drop_zero]
    exact h1
  · rw [if_neg h1]
    obtain ⟨a, -, -⟩ := piece_top h1
    have := pieces_last d (l.drop (pieceN l)) (by rw [List.length_drop]; omega)
    rw [List.drop_drop] at this
    exact this
theorem pieces_zero (d : Nat) (l : List Nat) : piecesN (d + 1) l = 0 ↔ pieceN l = 0 := by
 simp only [piecesN]
 by_cases h : pieceN l = 0
 · rw [if_pos h]
   exact ⟨fun _ => h, fun _ => rfl⟩
 · rw [if_neg h]
   exact ⟨fun g => by omega, fun g => absurd g h⟩
def cut : List Nat → Option (List Nat × Nat × List Nat)
 | [] => none
 | b :: r => if b = 44 ∨ b = 125 then some ([], b, r) else match cut r with
  | none => none
  | some (a, c, t) => some (b :: a, c, t)
theorem cut_none : ∀ {l : List Nat}, cut l = none → NoSep l
 | [], _ => fun b hb => by cases hb
 | b :: r, h => by
  simp only [cut] at h
  split at h
  · cases h
  · rename_i hb
    cases e : cut r with
    | some t =>
     rw [e] at h
     cases h
    | none =>
     intro x hx
     rcases List.mem_cons.1 hx with rfl | hx
     · exact ⟨fun g => hb (.inl g), fun g => hb (.inr g)⟩
     · exact cut_none e x hx
theorem cut_some : ∀ {l a t : List Nat} {c : Nat}, cut l = some (a, c, t) → l = a ++ c :: t ∧ NoSep a ∧ (c = 44 ∨ c = 125)
 | [], _, _, _, h => by cases h
 | b :: r, a, t, c, h => by
  simp only [cut] at h
  split at h
  · rename_i hb
    cases h
    exact ⟨rfl, fun x hx => (by cases hx), hb⟩
  · rename_i hb
    cases e : cut r with
    | none =>
     rw [e] at h
     cases h
    | some p =>
     rw [e] at h
     cases h
     obtain ⟨h1, h2, h3⟩ := cut_some e
     refine ⟨by rw [h1]; rfl, ?_, h3⟩
     intro x hx
     rcases List.mem_cons.1 hx with rfl | hx
     · exact ⟨fun g => hb (.inl g), fun g => hb (.inr g)⟩
     · exact h2 x hx
theorem cut_of : ∀ {a t : List Nat} {c : Nat}, NoSep a → (c = 44 ∨ c = 125) → cut (a ++ c :: t) = some (a, c, t)
 | [], t, c, _, hc => by
  simp only [List.nil_append, cut]
  rw [if_pos hc]
 | b :: a, t, c, h, hc => by
  simp only [List.cons_append, cut]
  rw [if_neg (fun g => by have := h b (by simp); rcases g with g | g <;> simp [g] at this), cut_of h.tail hc]
def exprN : Nat → List Nat → Option (List MVar × List Nat)
 | 0, _ => none
 | d + 1, l => match cut l with
  | none => none
  | some (a, c, r) => match mVar a with
   | none => none
   | some v => if c = 125 then some ([v], r) else match exprN d r with
    | none => none
    | some (vs, t) => some (v :: vs, t)
theorem var_sep {a : List Nat} (hs : NoSep a) (c : Nat) (hc : c = 44 ∨ c = 125) (r : List Nat) :
 (∀ v, mVar a = some v → run step .ns (a ++ c :: r) = run step (if c = 125 then .top else .ns) r ∧ far step .ns (a ++ c :: r) = a.length + 1 + far step (if c = 125 then .top else .ns) r ∧ ∃ q, run step .ns a = some q ∧ step q c = some (if c = 125 then .top else .ns)) ∧
 (mVar a = none → run step .ns (a ++ c :: r) = none ∧ far step .ns (a ++ c :: r) = far step .ns a) := by
 obtain ⟨-, hv⟩ := var_far hs
 constructor
 · intro v h
   obtain ⟨q, hq, hf⟩ := hv.2 ⟨v, h⟩
   have hstep : step q c = some (if c = 125 then .top else .ns) := by
    rcases hc with rfl | rfl
    · exact (step_final hf).1
    · exact (step_final hf).2
   rw [run_append, hq, Option.bind_some, run_some hstep, far_append a _ hq, far_some hstep]
   exact ⟨rfl, by omega, q, rfl, hstep⟩
 · intro h
   cases e : run step .ns a with
   | none => exact ⟨(far_dead a _ e).2, (far_dead a _ e).1⟩
   | some q =>
    have hf : final q = false := by
     cases e2 : final q with
     | false => rfl
     | true =>
      obtain ⟨v, g⟩ := hv.1 ⟨q, e, e2⟩
      rw [h] at g
      cases g
    have hstep : step q c = none := by
     have := step_open (run_inside a .ns q rfl hs e) hf
     rcases hc with rfl | rfl
     · exact this.1
     · exact this.2
    rw [run_append, e, Option.bind_some, run_none hstep, far_append a _ e, far_none hstep, far_all e]
    exact ⟨rfl, rfl⟩
theorem expr_top : ∀ (d : Nat) (l : List Nat), l.length < d →
 (∀ vs r, exprN d l = some (vs, r) → vs ≠ [] ∧ ∃ p, l = p ++ r ∧ p ≠ [] ∧ run step .ns p = some .top) ∧
 (exprN d l = none → run step .ns l = none ∨ ∃ q, run step .ns l = some q ∧ inside q = true)
 | 0, l, h => by omega
 | d + 1, l, h => by
  simp only [exprN]
  cases e : cut l with
  | none =>
   refine ⟨fun vs r g => (by cases g), fun _ => ?_⟩
   cases e2 : run step .ns l with
   | none => exact .inl rfl
   | some q => exact .inr ⟨q, rfl, run_inside l .ns q rfl (cut_none e) e2⟩
  | some t =>
   obtain ⟨a, c, r⟩ := t
   obtain ⟨rfl, hs, hc⟩ := cut_some e
   obtain ⟨v1, v2⟩ := var_sep hs c hc r
   simp only
   cases hm : mVar a with
   | none => exact ⟨fun vs r g => (by cases g), fun _ => .inl (v2 hm).1⟩
   | some v =>
    obtain ⟨w1, w2, q, w3, w4⟩ := v1 v hm
    simp only
    by_cases h125 : c = 125
    · rw [if_pos h125] at w1 w2 w4 ⊢
      refine ⟨fun vs r' g => ?_, fun g => by cases g⟩
      cases g
      refine ⟨by simp, a ++ [c], by simp, by simp, ?_⟩
      rw [run_append, w3, Option.bind_some, run_some w4, run_nil]
    · rw [if_neg h125] at w1 w2 w4 ⊢
      have hl : r.length < d := by
       rw [List.length_append, List.length_cons] at h
       omega
      obtain ⟨i1, i2⟩ := expr_top d r hl
      cases hx : exprN d r with
      | none =>
       refine ⟨fun vs r' g => (by cases g), fun _ => ?_⟩
       rw [w1]
       exact i2 hx
      | some p =>
       obtain ⟨vs', t'⟩ := p
       refine ⟨fun vs r' g => ?_, fun g => by cases g⟩
       cases g
       obtain ⟨-, p, rfl, -, hp⟩ := i1 _ _ hx
       refine ⟨by simp, a ++ c :: p, by simp, by simp, ?_⟩
       rw [run_append, w3, Option.bind_some, run_some w4]
       exact hp
def opN : List Nat → Int × List Nat
 | [] => (0, [])
 | b :: r => if isOp b = true then ((b : Int), r) else (0, b :: r)
theorem opN_length (l : List Nat) : (opN l).2.length ≤ l.length := by
 match l with
 | [] => exact Nat.le_refl _
 | b :: r =>
  simp only [opN]
  split
  · simp
  · exact Nat.le_refl _
theorem opN_run (l : List Nat) (h : l ≠ []) : run step .e0 l = run step .ns (opN l).2 ∧ far step .e0 l = (l.length - (opN l).2.length) + far step .ns (opN l).2 := by
 match l, h with
 | [], h => exact absurd rfl h
 | b :: r, _ =>
  simp only [opN]
  by_cases hb : isOp b = true
  · have hs : step .e0 b = some .ns := by simp only [step]; rw [if_pos hb]
    rw [if_pos hb, run_some hs, far_some hs]
    refine ⟨rfl, ?_⟩
    simp only [List.length_cons]
    omega
  · have hs : step .e0 b = step .ns b := by simp only [step]; rw [if_neg hb]
    rw [if_neg hb]
    have e1 : run step .e0 (b :: r) = run step .ns (b :: r) := by simp only [run, hs]
    have e2 : far step .e0 (b :: r) = far step .ns (b :: r) := by simp only [far, hs]
    rw [e1, e2]
    refine ⟨rfl, ?_⟩
    simp only
    omega
structure MPart where
 lit : List Nat
 op : Int
 specs : List MVar
def mP : Nat → List Nat → Option (List MPart)
 | _, [] => some []
 | 0, _ :: _ => none
 | d + 1, b :: r =>
  if b = 123 then (match exprN (r.length + 1) (opN r).2 with
   | none => none
   | some (vs, t) => match mP d t with
    | none => none
    | some ps => some (⟨[], (opN r).1, vs⟩ :: ps))
  else if piecesN (r.length + 2) (b :: r) = 0 then none
  else match mP d ((b :: r).drop (piecesN (r.length + 2) (b :: r))) with
   | none => none
   | some ps => some (⟨(b :: r).take (piecesN (r.length + 2) (b :: r)), 0, []⟩ :: ps)
theorem mP_run : ∀ (d : Nat) (l : List Nat), l.length ≤ d → ((∃ t, mP d l = some t) ↔ run step .top l = some .top)
 | d, [], _ => by
  cases d <;> exact ⟨fun _ => rfl, fun _ => ⟨_, rfl⟩⟩
 | 0, b :: r, h => by simp at h
 | d + 1, b :: r, h => by
  simp only [mP]
  by_cases hb : b = 123
  · rw [if_pos hb]
    subst hb
    rw [run_some step_open_brace]
    by_cases hr : r = []
    · subst hr
      constructor
      · rintro ⟨t, g⟩
        cases g
      · intro g
        cases g
    obtain ⟨o1, -⟩ := opN_run r hr
    have ol := opN_length r
    obtain ⟨x1, x2⟩ := expr_top (r.length + 1) (opN r).2 (by omega)
    rw [o1]
    cases hx : exprN (r.length + 1) (opN r).2 with
    | none =>
     constructor
     · rintro ⟨t, g⟩
       cases g
     · intro g
       rcases x2 hx with g2 | ⟨q, g2, g3⟩
       · rw [g] at g2
         cases g2
       · rw [g] at g2
         cases g2
         cases g3
    | some p =>
     obtain ⟨vs, t⟩ := p
     obtain ⟨-, p, hp, hp0, hp1⟩ := x1 _ _ hx
     have hlt : t.length ≤ d := by
      have := congrArg List.length hp
      rw [List.length_append] at this
      rw [List.length_cons] at h
      omega
     rw [hp, run_append, hp1, Option.bind_some, ← mP_run d t hlt]
     simp only
     cases hm : mP d t with
     | none =>
      constructor
      · rintro ⟨t, g⟩
        cases g
      · rintro ⟨t, g⟩
        cases g
     | some ps => exact ⟨fun _ => ⟨_, rfl⟩, fun _ => ⟨_, rfl⟩⟩
  · rw [if_neg hb]
    by_cases hz : piecesN (r.length + 2) (b :: r) = 0
    · rw [if_pos hz]
      have h0 := (pieces_zero _ _).1 hz
      obtain ⟨-, s2⟩ := stop_far h0 hb
      constructor
      · rintro ⟨t, g⟩
        cases g
      · intro g
        rcases s2 with g2 | ⟨q, g2, g3⟩
        · rw [g] at g2
          cases g2
        · rw [g] at g2
          cases g2
          cases g3
    · rw [if_neg hz]
      obtain ⟨pa, pb⟩ := pieces_top (r.length + 2) (b :: r)
      have e : run step .top (b :: r) = run step .top ((b :: r).drop (piecesN (r.length + 2) (b :: r))) := by
       conv => lhs; rw [← List.take_append_drop (piecesN (r.length + 2) (b :: r)) (b :: r)]
       rw [run_append, pb, Option.bind_some]
      have hlt : ((b :: r).drop (piecesN (r.length + 2) (b :: r))).length ≤ d := by
       rw [List.length_drop]
       rw [List.length_cons] at h ⊢
       omega
      rw [e, ← mP_run d _ hlt]
      cases hm : mP d ((b :: r).drop (piecesN (r.length + 2) (b :: r))) with
      | none =>
       constructor
       · rintro ⟨t, g⟩
         cases g
       · rintro ⟨t, g⟩
         cases g
      | some ps => exact ⟨fun _ => ⟨_, rfl⟩, fun _ => ⟨_, rfl⟩⟩
end Go.Proofs.YtkipkbggnfllkaaDoor.P
end
section
namespace Go.Proofs.YtkipkbggnfllkaaDoor.P
open Go.RowKit Go.Proofs.YtkipkbggnfllkaaDoorW.PrintWords Go.Proofs.YtkipkbggnfllkaaDoorW.PrintLast Go.Proofs.YtkipkbggnfllkaaDoorW.PrintMore
set_option linter.unusedVariables false
set_option linter.unusedSimpArgs false
theorem w64 {n : Int} (h1 : -9223372036854775808 ≤ n) (h2 : n < 9223372036854775808) : wrap64 n = n := by unfold wrap64; omega
theorem Ev.pos {α : Type} {c : Prop} [Decidable c] {f g : Nat → Option α} {r : α} (h : c) (k : Ev f r) : Ev (fun n => if c then f n else g n) r := Ev.congr (fun n => if_pos h) k
theorem Ev.neg {α : Type} {c : Prop} [Decidable c] {f g : Nat → Option α} {r : α} (h : ¬ c) (k : Ev g r) : Ev (fun n => if c then f n else g n) r := Ev.congr (fun n => if_neg h) k
theorem trip_short {l : List Nat} (h : l.length < 3) : trip l = false := by
 match l, h with
 | [], _ => rfl
 | [_], _ => rfl
 | [_, _], _ => rfl
 | _ :: _ :: _ :: _, h =>
  simp only [List.length_cons] at h
  omega
def vM (x : S43) : MVar := ⟨bs x.f0, x.f1, x.f2⟩
def pM (x : S41) : MPart := ⟨bs x.f0, x.f1, x.f2.map vM⟩
theorem vM_inj {x y : S43} (h : vM x = vM y) : x = y := by
 cases x
 cases y
 simp only [vM, MVar.mk.injEq] at h
 obtain ⟨h1, h2, h3⟩ := h
 rw [bs_inj h1, h2, h3]
theorem map_vM_inj : ∀ {l m : List S43}, l.map vM = m.map vM → l = m
 | [], [], _ => rfl
 | [], _ :: _, h => by simp at h
 | _ :: _, [], h => by simp at h
 | x :: l, y :: m, h => by
  simp only [List.map_cons, List.cons.injEq] at h
  rw [vM_inj h.1, map_vM_inj h.2]
theorem pM_inj {x y : S41} (h : pM x = pM y) : x = y := by
 cases x
 cases y
 simp only [pM, MPart.mk.injEq] at h
 obtain ⟨h1, h2, h3⟩ := h
 rw [bs_inj h1, h2, map_vM_inj h3]
theorem map_pM_inj : ∀ {l m : List S41}, l.map pM = m.map pM → l = m
 | [], [], _ => rfl
 | [], _ :: _, h => by simp at h
 | _ :: _, [], h => by simp at h
 | x :: l, y :: m, h => by
  simp only [List.map_cons, List.cons.injEq] at h
  rw [pM_inj h.1, map_pM_inj h.2]
end Go.Proofs.YtkipkbggnfllkaaDoor.P
end
section
namespace Go.Proofs.YtkipkbggnfllkaaDoor.P
set_option linter.unusedVariables false
set_option linter.unusedSimpArgs false
def MayR (c : Nat) : Prop := c ≤ 1114111 ∧ (c < 55296 ∨ 57343 < c)
instance (c : Nat) : Decidable (MayR c) := by unfold MayR; exact inferInstance
theorem mayC_mayR {c : Nat} (h : MayC c) : MayR c := by
 unfold MayC at h
 unfold MayR
 omega
def uAt : List Nat → Nat × Nat
 | [] => (0, 0)
 | b0 :: r =>
  if b0 < 128 then (b0, 1) else match r with
  | [] => (0, 0)
  | b1 :: r =>
   if b0 / 32 = 6 then (if b1 / 64 = 2 ∧ 128 ≤ b0 % 32 * 64 + b1 % 64 then (b0 % 32 * 64 + b1 % 64, 2) else (0, 0))
   else match r with
   | [] => (0, 0)
   | b2 :: r =>
    if b0 / 16 = 14 then (if b1 / 64 = 2 ∧ b2 / 64 = 2 ∧ 2048 ≤ b0 % 16 * 4096 + b1 % 64 * 64 + b2 % 64 ∧ MayR (b0 % 16 * 4096 + b1 % 64 * 64 + b2 % 64) then (b0 % 16 * 4096 + b1 % 64 * 64 + b2 % 64, 3) else (0, 0))
    else match r with
    | [] => (0, 0)
    | b3 :: _ =>
     if b0 / 8 = 30 then (if b1 / 64 = 2 ∧ b2 / 64 = 2 ∧ b3 / 64 = 2 ∧ 65536 ≤ b0 % 8 * 262144 + b1 % 64 * 4096 + b2 % 64 * 64 + b3 % 64 ∧ MayR (b0 % 8 * 262144 + b1 % 64 * 4096 + b2 % 64 * 64 + b3 % 64) then (b0 % 8 * 262144 + b1 % 64 * 4096 + b2 % 64 * 64 + b3 % 64, 4) else (0, 0))
     else (0, 0)
theorem uo {c n : Nat} (hn : n ≠ 0) : (if ((c, n) : Nat × Nat).2 = 0 then 0 else if MayC ((c, n) : Nat × Nat).1 then ((c, n) : Nat × Nat).2 else 0) = if MayC c then n else 0 := if_neg hn
theorem uo0 : (if ((0, 0) : Nat × Nat).2 = 0 then 0 else if MayC ((0, 0) : Nat × Nat).1 then ((0, 0) : Nat × Nat).2 else 0) = 0 := rfl
theorem ucs_uAt (l : List Nat) (hl : ∀ b ∈ l, b < 256) : ucsAt l = if (uAt l).2 = 0 then 0 else if MayC (uAt l).1 then (uAt l).2 else 0 := by
 match l, hl with
 | [], _ => rfl
 | [b0], _ =>
  simp only [uAt, ucsAt]
  by_cases h : b0 < 128
  · rw [if_pos h, uo (by decide), if_neg]
    unfold MayC
    omega
  · rw [if_neg h, uo0]
 | b0 :: b1 :: r, _ =>
  by_cases h : b0 < 128
  · rw [ucsAt_low _ _ (by omega)]
    simp only [uAt]
    rw [if_pos h, uo (by decide), if_neg]
    unfold MayC
    omega
  by_cases h2 : b0 / 32 = 6
  · simp only [uAt, ucsAt]
    rw [if_neg h, if_pos h2, if_pos h2]
    by_cases hg : b1 / 64 = 2 ∧ 128 ≤ b0 % 32 * 64 + b1 % 64
    · rw [if_pos hg, uo (by decide)]
      by_cases hm : MayC (b0 % 32 * 64 + b1 % 64)
      · rw [if_pos hm, if_pos ⟨hg.1, hg.2, hm⟩]
      · rw [if_neg hm, if_neg fun g => hm g.2.2]
    · rw [if_neg hg, uo0, if_neg fun g => hg ⟨g.1, g.2.1⟩]
  match r with
  | [] =>
   simp only [uAt, ucsAt]
   rw [if_neg h, if_neg h2, if_neg h2, uo0]
  | b2 :: r =>
   by_cases h3 : b0 / 16 = 14
   · simp only [uAt, ucsAt]
     rw [if_neg h, if_neg h2, if_neg h2, if_pos h3, if_pos h3]
     by_cases hg : b1 / 64 = 2 ∧ b2 / 64 = 2 ∧ 2048 ≤ b0 % 16 * 4096 + b1 % 64 * 64 + b2 % 64 ∧ MayR (b0 % 16 * 4096 + b1 % 64 * 64 + b2 % 64)
     · rw [if_pos hg, uo (by decide)]
       by_cases hm : MayC (b0 % 16 * 4096 + b1 % 64 * 64 + b2 % 64)
       · rw [if_pos hm, if_pos ⟨hg.1, hg.2.1, hg.2.2.1, hm⟩]
       · rw [if_neg hm, if_neg fun g => hm g.2.2.2]
     · rw [if_neg hg, uo0, if_neg fun g => hg ⟨g.1, g.2.1, g.2.2.1, mayC_mayR g.2.2.2⟩]
   match r with
   | [] =>
    simp only [uAt, ucsAt]
    rw [if_neg h, if_neg h2, if_neg h2, if_neg h3, if_neg h3, uo0]
   | b3 :: r =>
    by_cases h4 : b0 / 8 = 30
    · simp only [uAt, ucsAt]
      rw [if_neg h, if_neg h2, if_neg h2, if_neg h3, if_neg h3, if_pos h4, if_pos h4]
      by_cases hg : b1 / 64 = 2 ∧ b2 / 64 = 2 ∧ b3 / 64 = 2 ∧ 65536 ≤ b0 % 8 * 262144 + b1 % 64 * 4096 + b2 % 64 * 64 + b3 % 64 ∧ MayR (b0 % 8 * 262144 + b1 % 64 * 4096 + b2 % 64 * 64 + b3 % 64)
      · rw [if_pos hg, uo (by decide)]
        by_cases hm : MayC (b0 % 8 * 262144 + b1 % 64 * 4096 + b2 % 64 * 64 + b3 % 64)
        · rw [if_pos hm, if_pos ⟨hg.1, hg.2.1, hg.2.2.1, hg.2.2.2.1, hm⟩]
        · rw [if_neg hm, if_neg fun g => hm g.2.2.2.2]
      · rw [if_neg hg, uo0, if_neg fun g => hg ⟨g.1, g.2.1, g.2.2.1, g.2.2.2.1, mayC_mayR g.2.2.2.2⟩]
    · simp only [uAt, ucsAt]
      rw [if_neg h, if_neg h2, if_neg h2, if_neg h3, if_neg h3, if_neg h4, if_neg h4, uo0]
def width (b0 : Nat) : Nat := if b0 < 128 then 1 else if b0 / 32 = 6 then 2 else if b0 / 16 = 14 then 3 else if b0 / 8 = 30 then 4 else 5
theorem uAt_width (b0 : Nat) (r : List Nat) : (uAt (b0 :: r)).2 = 0 ∨ ((uAt (b0 :: r)).2 = width b0 ∧ width b0 ≤ r.length + 1 ∧ width b0 ≤ 4 ∧ ∀ m, width b0 ≤ m → uAt ((b0 :: r).take m) = uAt (b0 :: r)) := by
 by_cases h : b0 < 128
 · have e : width b0 = 1 := by unfold width; rw [if_pos h]
   refine .inr ⟨?_, by omega, by omega, fun m hm => ?_⟩
   · simp only [uAt]
     rw [if_pos h, e]
   · obtain ⟨m, rfl⟩ : ∃ k, m = k + 1 := ⟨m - 1, by omega⟩
     rw [List.take_succ_cons]
     simp only [uAt]
     rw [if_pos h, if_pos h]
 match r with
 | [] =>
  left
  simp only [uAt]
  rw [if_neg h]
 | b1 :: r =>
  by_cases h2 : b0 / 32 = 6
  · have e : width b0 = 2 := by unfold width; rw [if_neg h, if_pos h2]
    by_cases hg : b1 / 64 = 2 ∧ 128 ≤ b0 % 32 * 64 + b1 % 64
    · refine .inr ⟨?_, by rw [e]; simp, by omega, fun m hm => ?_⟩
      · simp only [uAt]
        rw [if_neg h, if_pos h2, if_pos hg, e]
      · obtain ⟨m, rfl⟩ : ∃ k, m = k + 2 := ⟨m - 2, by omega⟩
        rw [List.take_succ_cons, List.take_succ_cons]
        simp only [uAt]
        rw [if_neg h, if_pos h2, if_neg h, if_pos h2]
    · left
      simp only [uAt]
      rw [if_neg h, if_pos h2, if_neg hg]
  match r with
  | [] =>
   left
   simp only [uAt]
   rw [if_neg h, if_neg h2]
  | b2 :: r =>
   by_cases h3 : b0 / 16 = 14
   · have e : width b0 = 3 := by unfold width; rw [if_neg h, if_neg h2, if_pos h3]
     by_cases hg : b1 / 64 = 2 ∧ b2 / 64 = 2 ∧ 2048 ≤ b0 % 16 * 4096 + b1 % 64 * 64 + b2 % 64 ∧ MayR (b0 % 16 * 4096 + b1 % 64 * 64 + b2 % 64)
     · refine .inr ⟨?_, by rw [e]; simp, by omega, fun m hm => ?_⟩
       · simp only [uAt]
         rw [if_neg h, if_neg h2, if_pos h3, if_pos hg, e]
       · obtain ⟨m, rfl⟩ : ∃ k, m = k + 3 := ⟨m - 3, by omega⟩
         rw [List.take_succ_cons, List.take_succ_cons, List.take_succ_cons]
         simp only [uAt]
         rw [if_neg h, if_neg h2, if_pos h3, if_neg h, if_neg h2, if_pos h3]
     · left
       simp only [uAt]
       rw [if_neg h, if_neg h2, if_pos h3, if_neg hg]
   match r with
   | [] =>
    left
    simp only [uAt]
    rw [if_neg h, if_neg h2, if_neg h3]
   | b3 :: r =>
    by_cases h4 : b0 / 8 = 30
    · have e : width b0 = 4 := by unfold width; rw [if_neg h, if_neg h2, if_neg h3, if_pos h4]
      by_cases hg : b1 / 64 = 2 ∧ b2 / 64 = 2 ∧ b3 / 64 = 2 ∧ 65536 ≤ b0 % 8 * 262144 + b1 % 64 * 4096 + b2 % 64 * 64 + b3 % 64 ∧ MayR (b0 % 8 * 262144 + b1 % 64 * 4096 + b2 % 64 * 64 + b3 % 64)
      · refine .inr ⟨?_, by rw [e]; simp, by omega, fun m hm => ?_⟩
        · simp only [uAt]
          rw [if_neg h, if_neg h2, if_neg h3, if_pos h4, if_pos hg, e]
        · obtain ⟨m, rfl⟩ : ∃ k, m = k + 4 := ⟨m - 4, by omega⟩
          rw [List.take_succ_cons, List.take_succ_cons, List.take_succ_cons, List.take_succ_cons]
          simp only [uAt]
      · left
        simp only [uAt]
        rw [if_neg h, if_neg h2, if_neg h3, if_pos h4, if_neg hg]
    · left
      simp only [uAt]
      rw [if_neg h, if_neg h2, if_neg h3, if_neg h4]
def filledL (c : Nat) : Nat → List Nat → Nat × Bool
 | 0, _ => (0, false)
 | d + 1, l => if l.length ≤ 4 then (if (uAt l).2 = l.length ∧ l ≠ [] then ((uAt l).1, true) else filledL c d (l ++ [c])) else (0, false)
theorem filledL_long (c : Nat) : ∀ (d : Nat) (b0 : Nat) (r : List Nat), width b0 < r.length + 1 → filledL c d (b0 :: r) = (0, false)
 | 0, _, _, _ => rfl
 | d + 1, b0, r, h => by
  simp only [filledL]
  split
  · rw [if_neg, List.cons_append, filledL_long c d b0 (r ++ [c]) (by rw [List.length_append]; omega)]
    rintro ⟨g, -⟩
    rw [List.length_cons] at g
    rcases uAt_width b0 r with k | ⟨k, -⟩
    · omega
    · omega
  · rfl
theorem filledL_at (c : Nat) : ∀ (d n : Nat) (b0 : Nat) (r : List Nat), n + (r.length + 1) = width b0 → n + 1 < d ∨ width b0 = 5 → width b0 ≤ 5 →
 filledL c d (b0 :: r) = if (uAt (b0 :: r ++ List.replicate n c)).2 = width b0 ∧ width b0 ≤ 4 then ((uAt (b0 :: r ++ List.replicate n c)).1, true) else (0, false)
 | 0, n, b0, r, h, hd, hw => by
  rw [if_neg]
  · rfl
  · rintro ⟨-, g⟩
    omega
 | d + 1, 0, b0, r, h, hd, hw => by
  simp only [filledL, List.replicate_zero, List.append_nil]
  by_cases h4 : width b0 ≤ 4
  · rw [if_pos (by rw [List.length_cons]; omega)]
    by_cases g : (uAt (b0 :: r)).2 = width b0
    · rw [if_pos ⟨by rw [g, List.length_cons]; omega, by simp⟩, if_pos ⟨g, h4⟩]
    · rw [if_neg (by rw [List.length_cons]; rintro ⟨k, -⟩; omega), if_neg fun k => g k.1, List.cons_append]
      exact filledL_long c d b0 (r ++ [c]) (by rw [List.length_append, List.length_singleton]; omega)
  · rw [if_neg (by rw [List.length_cons]; omega), if_neg fun k => h4 k.2]
 | d + 1, n + 1, b0, r, h, hd, hw => by
  simp only [filledL]
  rw [if_pos (by rw [List.length_cons]; omega), if_neg, List.cons_append, filledL_at c d n b0 (r ++ [c]) (by rw [List.length_append, List.length_singleton]; omega) (by omega) hw]
  · rw [List.cons_append, List.cons_append, List.append_assoc, List.singleton_append, ← List.replicate_succ]
  · rintro ⟨g, -⟩
    rw [List.length_cons] at g
    rcases uAt_width b0 r with k | ⟨k, k2, -⟩
    · omega
    · omega
def endsL (l : List Nat) : Nat × Nat × Bool :=
 let low := if l = [224] then filledL 128 6 [224, 160] else if l = [240] then filledL 128 6 [240, 144] else filledL 128 6 l
 let high := if l = [237] then filledL 191 6 [237, 159] else if l = [244] then filledL 191 6 [244, 143] else filledL 191 6 l
 (low.1, high.1, low.2 && high.2)
theorem mt_le {lo hi : Nat} (h : lo ≤ hi) : meetsFrom lo hi 19 0 = mt lo hi := by
 unfold mt
 rw [decide_eq_true h, Bool.true_and]
theorem mt_void {lo hi : Nat} (h : ∀ c, lo ≤ c → c ≤ hi → ¬ MayC c) : mt lo hi = false := by
 rw [Bool.eq_false_iff]
 intro g
 obtain ⟨c, h1, h2, h3⟩ := (mt_iff _ _).1 g
 exact h c h1 h2 h3
theorem mt_eq {lo hi lo' hi' : Nat} (h : ∀ c, MayC c → (lo ≤ c ∧ c ≤ hi ↔ lo' ≤ c ∧ c ≤ hi')) : mt lo hi = mt lo' hi' := by
 rw [Bool.eq_iff_iff, mt_iff, mt_iff]
 constructor
 · rintro ⟨c, h1, h2, h3⟩
   exact ⟨c, ((h c h3).1 ⟨h1, h2⟩).1, ((h c h3).1 ⟨h1, h2⟩).2, h3⟩
 · rintro ⟨c, h1, h2, h3⟩
   exact ⟨c, ((h c h3).2 ⟨h1, h2⟩).1, ((h c h3).2 ⟨h1, h2⟩).2, h3⟩
theorem fill2 (b0 : Nat) (r : List Nat) (c : Nat) (n : Nat) (hn : n + (r.length + 1) = width b0) (h4 : width b0 ≤ 4) (p : Nat × Nat) (hp : uAt (b0 :: r ++ List.replicate n c) = p) :
 filledL c 6 (b0 :: r) = if p.2 = width b0 then (p.1, true) else (0, false) := by
 rw [filledL_at c 6 n b0 r hn (by omega) (by omega), hp]
 by_cases g : p.2 = width b0
 · rw [if_pos g, if_pos ⟨g, h4⟩]
 · rw [if_neg g, if_neg fun k => g k.1]
def u2 (b0 b1 : Nat) : Nat := b0 % 32 * 64 + b1 % 64
def u3 (b0 b1 b2 : Nat) : Nat := b0 % 16 * 4096 + b1 % 64 * 64 + b2 % 64
def u4 (b0 b1 b2 b3 : Nat) : Nat := b0 % 8 * 262144 + b1 % 64 * 4096 + b2 % 64 * 64 + b3 % 64
theorem width2 {b0 : Nat} (h : b0 / 32 = 6) : width b0 = 2 := by unfold width; rw [if_neg (by omega), if_pos h]
theorem width3 {b0 : Nat} (h : b0 / 16 = 14) : width b0 = 3 := by unfold width; rw [if_neg (by omega), if_neg (by omega), if_pos h]
theorem width4 {b0 : Nat} (h : b0 / 8 = 30) : width b0 = 4 := by unfold width; rw [if_neg (by omega), if_neg (by omega), if_neg (by omega), if_pos h]
theorem uAt2 {b0 : Nat} (h : b0 / 32 = 6) (b1 : Nat) (r : List Nat) : uAt (b0 :: b1 :: r) = if b1 / 64 = 2 ∧ 128 ≤ u2 b0 b1 then (u2 b0 b1, 2) else (0, 0) := by
 simp only [uAt]
 rw [if_neg (by omega), if_pos h]
 rfl
theorem uAt3 {b0 : Nat} (h : b0 / 16 = 14) (b1 b2 : Nat) (r : List Nat) : uAt (b0 :: b1 :: b2 :: r) = if b1 / 64 = 2 ∧ b2 / 64 = 2 ∧ 2048 ≤ u3 b0 b1 b2 ∧ MayR (u3 b0 b1 b2) then (u3 b0 b1 b2, 3) else (0, 0) := by
 simp only [uAt]
 rw [if_neg (by omega), if_neg (by omega), if_pos h]
 rfl
theorem uAt4 {b0 : Nat} (h : b0 / 8 = 30) (b1 b2 b3 : Nat) (r : List Nat) : uAt (b0 :: b1 :: b2 :: b3 :: r) = if b1 / 64 = 2 ∧ b2 / 64 = 2 ∧ b3 / 64 = 2 ∧ 65536 ≤ u4 b0 b1 b2 b3 ∧ MayR (u4 b0 b1 b2 b3) then (u4 b0 b1 b2 b3, 4) else (0, 0) := by
 simp only [uAt]
 rw [if_neg (by omega), if_neg (by omega), if_neg (by omega), if_pos h]
 rfl
theorem filled2 {b0 : Nat} (h : b0 / 32 = 6) (c b1 : Nat) : (filledL c 6 [b0] = if c / 64 = 2 ∧ 128 ≤ u2 b0 c then (u2 b0 c, true) else (0, false)) ∧
 (filledL c 6 [b0, b1] = if b1 / 64 = 2 ∧ 128 ≤ u2 b0 b1 then (u2 b0 b1, true) else (0, false)) := by
 have hw := width2 h
 constructor
 · rw [fill2 b0 [] c 1 (by rw [hw]; rfl) (by omega) _ (uAt2 h c []), hw]
   split <;> rfl
 · rw [fill2 b0 [b1] c 0 (by rw [hw]; rfl) (by omega) _ (uAt2 h b1 []), hw]
   split <;> rfl
theorem filled3 {b0 : Nat} (h : b0 / 16 = 14) (c b1 b2 : Nat) : (filledL c 6 [b0] = if c / 64 = 2 ∧ c / 64 = 2 ∧ 2048 ≤ u3 b0 c c ∧ MayR (u3 b0 c c) then (u3 b0 c c, true) else (0, false)) ∧
 (filledL c 6 [b0, b1] = if b1 / 64 = 2 ∧ c / 64 = 2 ∧ 2048 ≤ u3 b0 b1 c ∧ MayR (u3 b0 b1 c) then (u3 b0 b1 c, true) else (0, false)) ∧
 (filledL c 6 [b0, b1, b2] = if b1 / 64 = 2 ∧ b2 / 64 = 2 ∧ 2048 ≤ u3 b0 b1 b2 ∧ MayR (u3 b0 b1 b2) then (u3 b0 b1 b2, true) else (0, false)) := by
 have hw := width3 h
 refine ⟨?_, ?_, ?_⟩
 · rw [fill2 b0 [] c 2 (by rw [hw]; rfl) (by omega) _ (uAt3 h c c []), hw]
   split <;> rfl
 · rw [fill2 b0 [b1] c 1 (by rw [hw]; rfl) (by omega) _ (uAt3 h b1 c []), hw]
   split <;> rfl
 · rw [fill2 b0 [b1, b2] c 0 (by rw [hw]; rfl) (by omega) _ (uAt3 h b1 b2 []), hw]
   split <;> rfl
theorem filled4 {b0 : Nat} (h : b0 / 8 = 30) (c b1 b2 b3 : Nat) : (filledL c 6 [b0] = if c / 64 = 2 ∧ c / 64 = 2 ∧ c / 64 = 2 ∧ 65536 ≤ u4 b0 c c c ∧ MayR (u4 b0 c c c) then (u4 b0 c c c, true) else (0, false)) ∧
 (filledL c 6 [b0, b1] = if b1 / 64 = 2 ∧ c / 64 = 2 ∧ c / 64 = 2 ∧ 65536 ≤ u4 b0 b1 c c ∧ MayR (u4 b0 b1 c c) then (u4 b0 b1 c c, true) else (0, false)) ∧
 (filledL c 6 [b0, b1, b2] = if b1 / 64 = 2 ∧ b2 / 64 = 2 ∧ c / 64 = 2 ∧ 65536 ≤ u4 b0 b1 b2 c ∧ MayR (u4 b0 b1 b2 c) then (u4 b0 b1 b2 c, true) else (0, false)) ∧
 (filledL c 6 [b0, b1, b2, b3] = if b1 / 64 = 2 ∧ b2 / 64 = 2 ∧ b3 / 64 = 2 ∧ 65536 ≤ u4 b0 b1 b2 b3 ∧ MayR (u4 b0 b1 b2 b3) then (u4 b0 b1 b2 b3, true) else (0, false)) := by
 have hw := width4 h
 refine ⟨?_, ?_, ?_, ?_⟩
 · rw [fill2 b0 [] c 3 (by rw [hw]; rfl) (by omega) _ (uAt4 h c c c []), hw]
   split <;> rfl
 · rw [fill2 b0 [b1] c 2 (by rw [hw]; rfl) (by omega) _ (uAt4 h b1 c c []), hw]
   split <;> rfl
 · rw [fill2 b0 [b1, b2] c 1 (by rw [hw]; rfl) (by omega) _ (uAt4 h b1 b2 c []), hw]
   split <;> rfl
 · rw [fill2 b0 [b1, b2, b3] c 0 (by rw [hw]; rfl) (by omega) _ (uAt4 h b1 b2 b3 []), hw]
   split <;> rfl
def fitsL (l : List Nat) : Bool := match l with
 | [] => false
 | b0 :: _ => !decide (b0 < 192) && ((endsL l).2.2 && meetsFrom ((endsL l).1 : Int) ((endsL l).2.1 : Int) 19 0)
theorem fits_pair {A B : Prop} [Decidable A] [Decidable B] {x y lo hi : Nat} {l : List Nat} (hl : l ≠ [224]) (hl2 : l ≠ [240]) (hh : l ≠ [237]) (hh2 : l ≠ [244]) (h1 : filledL 128 6 l = if A then (x, true) else (0, false)) (h2 : filledL 191 6 l = if B then (y, true) else (0, false))
 (hxy : A → B → x ≤ y) (hAB : A → B → ∀ c, MayC c → (x ≤ c ∧ c ≤ y ↔ lo ≤ c ∧ c ≤ hi)) (hn : ¬ (A ∧ B) → ∀ c, lo ≤ c → c ≤ hi → ¬ MayC c) :
 ((endsL l).2.2 && meetsFrom ((endsL l).1 : Int) ((endsL l).2.1 : Int) 19 0) = mt lo hi := by
 unfold endsL
 rw [if_neg hl, if_neg hl2, if_neg hh, if_neg hh2, h1, h2]
 by_cases hA : A
 · rw [if_pos hA]
   by_cases hB : B
   · rw [if_pos hB]
     simp only [Bool.and_self, Bool.true_and]
     rw [mt_le (hxy hA hB)]
     exact mt_eq (hAB hA hB)
   · rw [if_neg hB]
     simp only [Bool.and_false, Bool.false_and]
     rw [mt_void (hn fun g => hB g.2)]
 · rw [if_neg hA]
   simp only [Bool.false_and]
   rw [mt_void (hn fun g => hA g.1)]
theorem fits_no {l : List Nat} (hl : l ≠ [224]) (hl2 : l ≠ [240]) (h1 : filledL 128 6 l = (0, false)) : ((endsL l).2.2 && meetsFrom ((endsL l).1 : Int) ((endsL l).2.1 : Int) 19 0) = false := by
 unfold endsL
 rw [if_neg hl, if_neg hl2, h1]
 simp only [Bool.false_and]
theorem fitsL_fits (l : List Nat) (hb : ∀ b ∈ l, b < 256) : fitsL l = fits l := by
 match l, hb with
 | [], _ => rfl
 | b0 :: r, hb =>
  have h0 := hb b0 (by simp)
  by_cases h192 : b0 < 192
  · rw [fits_low b0 r h192]
    simp only [fitsL, h192, decide_true, Bool.not_true, Bool.false_and]
  have hd : fitsL (b0 :: r) = ((endsL (b0 :: r)).2.2 && meetsFrom ((endsL (b0 :: r)).1 : Int) ((endsL (b0 :: r)).2.1 : Int) 19 0) := by
   simp only [fitsL, h192, decide_false, Bool.not_false, Bool.true_and]
  rw [hd]
  by_cases h2 : b0 / 32 = 6
  · have n1 : ∀ x, 224 ≤ x → b0 :: r ≠ [x] := fun x hx g => by have := (List.cons.inj g).1; omega
    match r, hb with
    | [], _ =>
     simp only [fits]
     rw [if_pos h2]
     refine fits_pair (n1 _ (by omega)) (n1 _ (by omega)) (n1 _ (by omega)) (n1 _ (by omega)) (filled2 h2 128 0).1 (filled2 h2 191 0).1 ?_ ?_ ?_
     all_goals unfold u2
     · intro hA hB
       omega
     · intro hA hB c hc
       omega
     · intro hAB c g1 g2
       omega
    | [b1], hb =>
     have hb1 := hb b1 (by simp)
     by_cases hc1 : b1 / 64 = 2
     · simp only [fits]
       rw [if_pos hc1, if_pos h2]
       refine fits_pair (by simp) (by simp) (by simp) (by simp) (filled2 h2 128 b1).2 (filled2 h2 191 b1).2 ?_ ?_ ?_
       all_goals unfold u2
       · intro hA hB
         omega
       · intro hA hB c hc
         omega
       · intro hAB c g1 g2
         omega
     · have : fits [b0, b1] = false := by simp only [fits]; rw [if_neg hc1]
       rw [this]
       exact fits_no (by simp) (by simp) (by rw [(filled2 h2 128 b1).2, if_neg fun g => hc1 g.1])
    | b1 :: b2 :: r, hb =>
     have hw := width2 h2
     rw [fits_no (by simp) (by simp) (filledL_long 128 6 b0 (b1 :: b2 :: r) (by rw [hw]; simp))]
     match r with
     | [] =>
      simp only [fits]
      split
      · rw [if_neg (by omega), if_neg (by omega)]
      · rfl
     | [b3] =>
      simp only [fits]
      split
      · rw [if_neg (by omega)]
      · rfl
     | _ :: _ :: _ => rfl
  by_cases h3 : b0 / 16 = 14
  · match r, hb with
    | [], _ =>
     simp only [fits]
     rw [if_neg h2, if_pos h3]
     by_cases e1 : b0 = 224
     · subst e1
       decide +kernel
     by_cases e2 : b0 = 237
     · subst e2
       rw [show ((endsL [237]).2.2 && meetsFrom ((endsL [237]).1 : Int) ((endsL [237]).2.1 : Int) 19 0) = mt 53248 55295 by decide +kernel]
       refine mt_eq fun c hc => ?_
       unfold MayC at hc
       omega
     refine fits_pair (by simp; omega) (by simp; omega) (by simp; omega) (by simp; omega) (filled3 h3 128 0 0).1 (filled3 h3 191 0 0).1 ?_ ?_ ?_
     all_goals unfold u3 MayR
     · intro hA hB
       omega
     · intro hA hB c hc
       omega
     · intro hAB c g1 g2
       omega
    | [b1], hb =>
     have hb1 := hb b1 (by simp)
     by_cases hc1 : b1 / 64 = 2
     · simp only [fits]
       rw [if_pos hc1, if_neg h2, if_pos h3]
       refine fits_pair (by simp) (by simp) (by simp) (by simp) (filled3 h3 128 b1 0).2.1 (filled3 h3 191 b1 0).2.1 ?_ ?_ ?_
       all_goals unfold u3 MayR
       · intro hA hB
         omega
       · intro hA hB c hc
         omega
       · intro hAB c g1 g2 hc
         unfold MayC at hc
         omega
     · have : fits [b0, b1] = false := by simp only [fits]; rw [if_neg hc1]
       rw [this]
       exact fits_no (by simp) (by simp) (by rw [(filled3 h3 128 b1 0).2.1, if_neg fun g => hc1 g.1])
    | [b1, b2], hb =>
     by_cases hc1 : b1 / 64 = 2 ∧ b2 / 64 = 2
     · simp only [fits]
       rw [if_pos hc1, if_pos h3]
       refine fits_pair (by simp) (by simp) (by simp) (by simp) (filled3 h3 128 b1 b2).2.2 (filled3 h3 191 b1 b2).2.2 ?_ ?_ ?_
       all_goals unfold u3 MayR
       · intro hA hB
         omega
       · intro hA hB c hc
         omega
       · intro hAB c g1 g2 hc
         unfold MayC at hc
         omega
     · have : fits [b0, b1, b2] = false := by simp only [fits]; rw [if_neg hc1]
       rw [this]
       exact fits_no (by simp) (by simp) (by rw [(filled3 h3 128 b1 b2).2.2, if_neg fun g => hc1 ⟨g.1, g.2.1⟩])
    | b1 :: b2 :: b3 :: r, hb =>
     have hw := width3 h3
     rw [fits_no (by simp) (by simp) (filledL_long 128 6 b0 (b1 :: b2 :: b3 :: r) (by rw [hw]; simp))]
     match r with
     | [] =>
      simp only [fits]
      split
      · rw [if_neg (by omega)]
      · rfl
     | _ :: _ => rfl
  by_cases h4 : b0 / 8 = 30
  · match r, hb with
    | [], _ =>
     simp only [fits]
     rw [if_neg h2, if_neg h3, if_pos h4]
     by_cases e1 : b0 = 240
     · subst e1
       decide +kernel
     by_cases e2 : b0 = 244
     · subst e2
       rw [show ((endsL [244]).2.2 && meetsFrom ((endsL [244]).1 : Int) ((endsL [244]).2.1 : Int) 19 0) = mt 1048576 1114111 by decide +kernel]
       refine mt_eq fun c hc => ?_
       unfold MayC at hc
       omega
     refine fits_pair (by simp; omega) (by simp; omega) (by simp; omega) (by simp; omega) (filled4 h4 128 0 0 0).1 (filled4 h4 191 0 0 0).1 ?_ ?_ ?_
     all_goals unfold u4 MayR
     · intro hA hB
       omega
     · intro hA hB c hc
       omega
     · intro hAB c g1 g2 hc
       unfold MayC at hc
       omega
    | [b1], hb =>
     have hb1 := hb b1 (by simp)
     by_cases hc1 : b1 / 64 = 2
     · simp only [fits]
       rw [if_pos hc1, if_neg h2, if_neg h3, if_pos h4]
       refine fits_pair (by simp) (by simp) (by simp) (by simp) (filled4 h4 128 b1 0 0).2.1 (filled4 h4 191 b1 0 0).2.1 ?_ ?_ ?_
       all_goals unfold u4 MayR
       · intro hA hB
         omega
       · intro hA hB c hc
         omega
       · intro hAB c g1 g2 hc
         unfold MayC at hc
         omega
     · have : fits [b0, b1] = false := by simp only [fits]; rw [if_neg hc1]
       rw [this]
       exact fits_no (by simp) (by simp) (by rw [(filled4 h4 128 b1 0 0).2.1, if_neg fun g => hc1 g.1])
    | [b1, b2], hb =>
     by_cases hc1 : b1 / 64 = 2 ∧ b2 / 64 = 2
     · simp only [fits]
       rw [if_pos hc1, if_neg h3, if_pos h4]
       refine fits_pair (by simp) (by simp) (by simp) (by simp) (filled4 h4 128 b1 b2 0).2.2.1 (filled4 h4 191 b1 b2 0).2.2.1 ?_ ?_ ?_
       all_goals unfold u4 MayR
       · intro hA hB
         omega
       · intro hA hB c hc
         omega
       · intro hAB c g1 g2 hc
         unfold MayC at hc
         omega
     · have : fits [b0, b1, b2] = false := by simp only [fits]; rw [if_neg hc1]
       rw [this]
       exact fits_no (by simp) (by simp) (by rw [(filled4 h4 128 b1 b2 0).2.2.1, if_neg fun g => hc1 ⟨g.1, g.2.1⟩])
    | [b1, b2, b3], hb =>
     by_cases hc1 : b1 / 64 = 2 ∧ b2 / 64 = 2 ∧ b3 / 64 = 2
     · simp only [fits]
       rw [if_pos hc1, if_pos h4]
       refine fits_pair (by simp) (by simp) (by simp) (by simp) (filled4 h4 128 b1 b2 b3).2.2.2 (filled4 h4 191 b1 b2 b3).2.2.2 ?_ ?_ ?_
       all_goals unfold u4 MayR
       · intro hA hB
         omega
       · intro hA hB c hc
         omega
       · intro hAB c g1 g2 hc
         unfold MayC at hc
         omega
     · have : fits [b0, b1, b2, b3] = false := by simp only [fits]; rw [if_neg hc1]
       rw [this]
       exact fits_no (by simp) (by simp) (by rw [(filled4 h4 128 b1 b2 b3).2.2.2, if_neg fun g => hc1 ⟨g.1, g.2.1, g.2.2.1⟩])
    | b1 :: b2 :: b3 :: b4 :: r, hb =>
     have hw := width4 h4
     rw [fits_no (by simp) (by simp) (filledL_long 128 6 b0 (b1 :: b2 :: b3 :: b4 :: r) (by rw [hw]; simp))]
     rfl
  · have hw : width b0 = 5 := by unfold width; rw [if_neg (by omega), if_neg h2, if_neg h3, if_neg h4]
    have hf : fits (b0 :: r) = false := by
     match r with
     | [] => simp only [fits]; rw [if_neg h2, if_neg h3, if_neg h4]
     | [c] => simp only [fits]; rw [if_neg h2, if_neg h3, if_neg h4]; split <;> rfl
     | [c, d] => simp only [fits]; rw [if_neg h3, if_neg h4]; split <;> rfl
     | [c, d, e] => simp only [fits]; rw [if_neg h4]; split <;> rfl
     | _ :: _ :: _ :: _ :: _ => rfl
    rw [hf]
    have n1 : ∀ x, x < 248 → b0 :: r ≠ [x] := fun x hx g => by have := (List.cons.inj g).1; omega
    refine fits_no (n1 _ (by omega)) (n1 _ (by omega)) ?_
    by_cases hlen : r.length + 1 ≤ 5
    · rw [filledL_at 128 6 (5 - (r.length + 1)) b0 r (by omega) (by omega) (by omega), if_neg fun g => by omega]
    · exact filledL_long 128 6 b0 r (by omega)
end Go.Proofs.YtkipkbggnfllkaaDoor.P
end
section
namespace Go.Proofs.YtkipkbggnfllkaaDoor.P
open Go.RowKit Go.Proofs.YtkipkbggnfllkaaDoorW.PrintWords Go.Proofs.YtkipkbggnfllkaaDoorW.PrintLast Go.Proofs.YtkipkbggnfllkaaDoorW.PrintMore
def figsFrom (s : ByteArray) : Nat → Int → Int
 | 0, n => n
 | d + 1, n => if isDigit (bt s n).toNat = true ∧ ¬ (n = 0 ∧ bt s n = 48) then figsFrom s d (n + 1) else n
theorem figsFrom_le (s : ByteArray) (d : Nat) (n : Int) : n ≤ figsFrom s d n ∧ figsFrom s d n ≤ n + d := by
 induction d generalizing n with
 | zero => exact ⟨Int.le_refl _, by simp [figsFrom]⟩
 | succ d ih =>
  rw [figsFrom]
  split
  · have := ih (n + 1)
    omega
  · omega
def spec_figures.f (s : ByteArray) : Option Int := if s.size ≤ 1099511627776 then some (figsFrom s (min s.size 4) 0) else none
structure Set1 (w wr : World) (f : Nat → Bool) (g : Nat) : Prop where
 s : Four wr g (wd f)
 b : Below w.heap.size w wr
theorem Set1.step {w wr w1 : World} {f : Nat → Bool} {g : Nat} (H : Set1 w wr f g) (hb : Below wr.heap.size wr w1) : Set1 w w1 f g :=
 ⟨H.s.kept (hb.block _ H.s.lt), below_then H.b H.b.size hb⟩
set_option maxRecDepth 100000 in
set_option maxHeartbeats 800000 in
theorem spec_figures.calls (s : ByteArray) (r : Int) (w : World) (h : spec_figures.f s = some r) :
 Calls Tryd.prog 96 #[.string s] w fun e w' => e = .returned (.int .i64 r) ∧ Below w.heap.size w w' := by
 unfold spec_figures.f at h
 split at h
 · rename_i hs
   injection h with h
   have HR := Lib.hid h
   clear h
   go_enter Tryd.func96, Tryd.ntmps96
   go_wp2_with fail
   refine (chars_Digit.calls _ _ rfl).mono ?_
   rintro e w1 ⟨rfl, hb⟩
   have HB := Lib.hid hb
   clear hb
   unfold setV
   go_wp2
   all_goals
    go_loopw [5, 11] (fun _ a wr => ∃ (d : Nat) (n : Int), a = .int .i64 n ∧ 0 ≤ n ∧ (d : Int) + n = min s.size 4 ∧ Hid (figsFrom s d n = r) ∧ Hid (Set1 w wr isDigit w1.heap.size)) (fun _ a _ => 4 - (intOf a).toNat)
    case atStart =>
     exact ⟨min s.size 4, 0, rfl, by omega, by omega, HR, Lib.hid ⟨Four.newP w1 isDigit _, HB.out.alloc HB.out.size _⟩⟩
    case round =>
     obtain ⟨d, n, rfl, hn0, hk, HE, HS⟩ := hrel
     cases d with
     | zero =>
      have hE := HE.out
      rw [figsFrom] at hE
      have HE1 := Lib.hid hE
      clear hE HE
      go_wp2
      go_ret
      refine ⟨?_, HS.out.b⟩
      show Ending.returned (.int .i64 _) = _
      rw [← HE1.out]
      congr 2
      omega
     | succ d =>
      have hE := HE.out
      rw [figsFrom] at hE
      have hnlt : n < s.size := by omega
      have hnt : n.toNat < s.size := by omega
      have hix := bt_at s n
      have hcr := bt_range s n
      obtain ⟨c, hc⟩ : ∃ c, c = bt s n := ⟨_, rfl⟩
      rw [← hc] at hE hcr hix
      obtain ⟨hc0, hc1⟩ := hcr
      have c0 := HS.out.s.cell 0 (by omega)
      have c1 := HS.out.s.cell 1 (by omega)
      have c2 := HS.out.s.cell 2 (by omega)
      have c3 := HS.out.s.cell 3 (by omega)
      have HE0 := Lib.hid hE
      clear hc hE HE
      cases hb : isDigit c.toNat with
      | false =>
       have HDB := Lib.hid hb
       have hE := HE0.out
       rw [if_neg (fun h => by rw [hb] at h; exact absurd h.1 (by simp))] at hE
       have HE1 := Lib.hid hE
       clear hE hb HE0
       go_wp2_with fail
       have k0 := cell_regrown c0
       have k1 := cell_regrown c1
       have k2 := cell_regrown c2
       have k3 := cell_regrown c3
       refine wp_region_quiet_below (by kernel_rfl) (by kernel_rfl) ?_
       repeat (go_big_quiet_step (exact Calls.regrown_of (chars_Set_Has.calls isDigit c false _ (by rw [chars_Set_Has.f, if_pos ⟨hc0, hc1⟩, HDB.out]))))
       refine wpQuiet_nil ?_
       rintro _ ⟨⟨dq, osq⟩, rfl⟩
       have HX5 := Lib.hid (HS.out.step (below_regrown wr dq osq))
       go_wp2
       go_ret
       exact ⟨by show Ending.returned (.int .i64 n) = _; rw [HE1.out], HX5.out.b⟩
      | true =>
       have HDB := Lib.hid hb
       have hq : ((n == 0) = true ∧ (c == 48) = true ∧ Hid (n = r)) ∨ ((n == 0) = true ∧ (c == 48) = false ∧ Hid (figsFrom s d (n + 1) = r)) ∨ ((n == 0) = false ∧ Hid (figsFrom s d (n + 1) = r)) := by
        have hE := HE0.out
        by_cases h1 : n = 0
        · by_cases h2 : c = 48
          · rw [if_neg (fun h => h.2 ⟨h1, h2⟩)] at hE
            exact .inl ⟨beq_iff_eq.2 (by omega), beq_iff_eq.2 h2, Lib.hid hE⟩
          · rw [if_pos ⟨hb, fun h => h2 h.2⟩] at hE
            exact .inr (.inl ⟨beq_iff_eq.2 (by omega), beq_eq_false_iff_ne.2 h2, Lib.hid hE⟩)
        · rw [if_pos ⟨hb, fun h => h1 h.1⟩] at hE
          exact .inr (.inr ⟨beq_eq_false_iff_ne.2 (by omega), Lib.hid hE⟩)
       clear hb HE0
       rcases hq with ⟨q1, q2, HE1⟩ | ⟨q1, q2, HE1⟩ | ⟨q1, HE1⟩
       · go_wp2_with fail
         have k0 := cell_regrown c0
         have k1 := cell_regrown c1
         have k2 := cell_regrown c2
         have k3 := cell_regrown c3
         refine wp_region_quiet_below (by kernel_rfl) (by kernel_rfl) ?_
         repeat (go_big_quiet_step (exact Calls.regrown_of (chars_Set_Has.calls isDigit c true _ (by rw [chars_Set_Has.f, if_pos ⟨hc0, hc1⟩, HDB.out]))))
         refine wpQuiet_nil ?_
         rintro _ ⟨⟨dq, osq⟩, rfl⟩
         have HX5 := Lib.hid (HS.out.step (below_regrown wr dq osq))
         go_wp2
         go_ret
         exact ⟨by show Ending.returned (.int .i64 n) = _; rw [HE1.out], HX5.out.b⟩
       all_goals
        go_wp2_with fail
        have k0 := cell_regrown c0
        have k1 := cell_regrown c1
        have k2 := cell_regrown c2
        have k3 := cell_regrown c3
        refine wp_region_quiet_below (by kernel_rfl) (by kernel_rfl) ?_
        repeat (go_big_quiet_step (exact Calls.regrown_of (chars_Set_Has.calls isDigit c true _ (by rw [chars_Set_Has.f, if_pos ⟨hc0, hc1⟩, HDB.out]))))
        refine wpQuiet_nil ?_
        rintro _ ⟨⟨dq, osq⟩, rfl⟩
        have HX5 := Lib.hid (HS.out.step (below_regrown wr dq osq))
        go_wp2
        go_roundw
        case rel => exact ⟨d, n + 1, by go_num, by omega, by omega, HE1, HX5⟩
        case measure => simp [intOf]; omega
 · cases h
end Go.Proofs.YtkipkbggnfllkaaDoor.P
end
section
namespace Go.Proofs.YtkipkbggnfllkaaDoor.P
open Go.RowKit Go.Proofs.YtkipkbggnfllkaaDoorW.PrintWords Go.Proofs.YtkipkbggnfllkaaDoorW.PrintLast Go.Proofs.YtkipkbggnfllkaaDoorW.PrintMore
attribute [local go_sem] max2_int min2_int max_two min_two max_three min_three max_four min_four
set_option linter.unusedVariables false
set_option linter.unusedSimpArgs false
def vname_Bad.f (a0 : ByteArray) : Option (Int) := (vname_ends.f a0).bind fun bt344 => (some bt344.1)
set_option maxHeartbeats 8000000 in
set_option maxRecDepth 100000 in
theorem vname_Bad.calls (a0 : ByteArray) (r : Int) (w : World) (h : vname_Bad.f a0 = some r) :
 Calls Tryd.prog 80 #[.string a0] w fun e w' => e = .returned (.int .i64 r) ∧ Below w.heap.size w w' := by
 have HB := Aside0.mk (Below.refl w.heap.size w)
 have H : ((vname_ends.f a0).bind fun bt344 => (some bt344.1)) = some r := h
 clear h
 replace H := Option.bind_eq_some_iff.mp H
 obtain ⟨⟨t344, t345⟩, A20, H⟩ := H
 replace H : (some t344) = some r := H
 have A2 := Aside0.mk A20
 clear A20
 obtain rfl := Option.some.inj H
 go_enter Tryd.func80, Tryd.ntmps80
 go_wp2_with (first | ((with_reducible refine gate_callee (f := 91) rfl ?_); refine goesL_ (some 7) rfl rfl Tryd.func91 (by kernel_rfl) rfl #[.string a0] rfl (by (try simp only [List.map_toArray, List.map_cons, List.map_nil]); first | done | rfl | (simp only [List.length_drop, List.length_take]; rfl)) ?_; (with_reducible refine (vname_ends.calls a0 t344 t345 _ A2.out).mono ?_); rintro e w3 ⟨rfl, hb⟩; refine ⟨_, rfl, ?_⟩; have n0_ := Aside0.mk (below_step (by repeat (first | (with_reducible first | exact HB.out | apply below_alloc | apply pw_below_drewN | apply below_drew1) | exact HB.out)) hb); clear HB; have HB := n0_; clear n0_; (try clear hb); (try clear hb2); (try clear hk); (try clear hi)))
 go_ret
 exact ⟨by first | rfl | (simp [errW_none, errW_some] <;> rfl) | (simp [*, errW_none, errW_some] <;> rfl), by repeat (first | (with_reducible first | exact HB.out | apply below_alloc | apply pw_below_drewN | apply below_drew1) | exact HB.out)⟩
end Go.Proofs.YtkipkbggnfllkaaDoor.P
end
section
namespace Go.Proofs.YtkipkbggnfllkaaDoor.P
open Go.RowKit Go.Proofs.YtkipkbggnfllkaaDoorW.PrintWords Go.Proofs.YtkipkbggnfllkaaDoorW.PrintLast Go.Proofs.YtkipkbggnfllkaaDoorW.PrintMore
theorem enters_fn {P : Program} {f : FuncId} {fn : Func} {c : Code} (hf : P.funcs[f]? = some fn) (hname : (fn.name == "runtime.NumGoroutine") = false) (hb : fn.body = some c) :
 ∀ (args : Array Value) (w : World), (callFunc f args).run P w = .ok (.enter f args) w := by
 intro args w
 have h1 : fn.name ≠ "runtime.NumGoroutine" := by simpa using hname
 simp [callFunc, hf, h1, hb, mark]
def badAt (s : ByteArray) (p : Nat) : Bool :=
 (Utf8.decode s p).1 == 65533 && (decide (s.size - p < 3) || (s.extract p (p + 3)).toList != (Utf8.encode 65533).toList)
def charsFrom (s : ByteArray) : Nat → Nat → List Int × Nat
 | 0, p => ([], p)
 | k + 1, p => if p < s.size ∧ badAt s p = false then (((Utf8.decode s p).1 : Int) :: (charsFrom s k (p + (Utf8.decode s p).2)).1, (charsFrom s k (p + (Utf8.decode s p).2)).2) else ([], p)
theorem decode_pos (s : ByteArray) (p : Nat) (h : p < s.size) : 1 ≤ (Utf8.decode s p).2 := by
 by_cases ha : (s[p]'h).toNat < 128
 · rw [decode_ascii s p h ha]
   exact Nat.le_refl _
 · exact (decode_high s p h (by omega)).2
theorem decode_fits (s : ByteArray) (p : Nat) (h : p < s.size) : p + (Utf8.decode s p).2 ≤ s.size := by
 unfold Utf8.decode
 repeat' (first | split | dsimp only [] at *)
 all_goals (try simp only [Bool.and_eq_true, decide_eq_true_eq] at *)
 all_goals omega
theorem charsFrom_step {s : ByteArray} {k p : Nat} (h : p < s.size) (hb : badAt s p = false) : charsFrom s (k + 1) p = (((Utf8.decode s p).1 : Int) :: (charsFrom s k (p + (Utf8.decode s p).2)).1, (charsFrom s k (p + (Utf8.decode s p).2)).2) := by
 rw [charsFrom, if_pos ⟨h, hb⟩]
theorem charsFrom_stop {s : ByteArray} {k p : Nat} (h : ¬ (p < s.size ∧ badAt s p = false)) : charsFrom s k p = ([], p) := by
 cases k with
 | zero => rfl
 | succ k => rw [charsFrom, if_neg h]
theorem badAt_eq (s : ByteArray) (p : Nat) (c : Int) (hc : c = ((Utf8.decode s p).1 : Int)) :
 badAt s p = (c == 65533 && (decide (s.size - p < 3) || (s.extract p (p + 3)).toList != (Utf8.encode c).toList)) := by
 unfold badAt
 by_cases h : c = 65533
 · have h1 : (Utf8.decode s p).1 = 65533 := by omega
   rw [h1, h]; simp
 · have h1 : ¬ (Utf8.decode s p).1 = 65533 := by omega
   rw [show ((Utf8.decode s p).1 == 65533) = false from beq_eq_false_iff_ne.2 h1, show (c == 65533) = false from beq_eq_false_iff_ne.2 h]; rfl
theorem utf_round {w w1 : World} {I : List Int → World → Prop} {s : ByteArray} {k p n : Nat} {c : Int} {l : List Int} (hn : n = (Utf8.decode s p).2) (hc : c = ((Utf8.decode s p).1 : Int)) (hlt : p < s.size) (hb : badAt s p = false)
 (HC : charsFrom s s.size 0 = (l ++ (charsFrom s k p).1, (charsFrom s k p).2)) (hk : s.size ≤ p + k) (hp : p + n ≤ s.size) (hlen : l.length ≤ p)
 (HK : Hid (w1.heap[w.heap.size]? = some (.stringIter s (p + n)))) (HI : Hid (I (l ++ [c]) w1)) :
 ∃ (k p : Nat) (l : List Int), Hid (w1.heap[w.heap.size]? = some (.stringIter s p)) ∧ Hid (charsFrom s s.size 0 = (l ++ (charsFrom s k p).1, (charsFrom s k p).2)) ∧ s.size ≤ p + k ∧ p ≤ s.size ∧ l.length ≤ p ∧ Hid (I l w1) := by
 cases k with
 | zero => omega
 | succ k =>
  have h1 := decode_pos s p hlt
  refine ⟨k, p + n, l ++ [c], HK, Lib.hid ?_, by omega, hp, by simp; omega, HI⟩
  rw [HC, charsFrom_step hlt hb, hn, hc]
  simp
theorem utf_measure {w wr w1 : World} {s : ByteArray} {p n : Nat} (h : wr.heap[w.heap.size]? = some (.stringIter s p)) (h1 : w1.heap[w.heap.size]? = some (.stringIter s (p + n))) (hlt : p < s.size) (hn : 1 ≤ n) :
 s.size - w1.iterPos w.heap.size < s.size - wr.iterPos w.heap.size := by
 simp only [World.iterPos, h, h1]
 omega
set_option maxRecDepth 100000 in
set_option maxHeartbeats 800000 in
theorem utf_each (G : Nat) (cap : Array Value) (hcf : ∀ (args : Array Value) (W : World), (callFunc G args).run Tryd.prog W = .ok (.enter G args) W) (s : ByteArray) (hs : s.size ≤ 9223372036854775807) (I : List Int → World → Prop) (w : World) (h0 : I [] (w.iter s 0))
 (hI : ∀ l W p q, W.heap[w.heap.size]? = some (.stringIter s q) → I l W → I l (W.iterAt w.heap.size s p))
 (hstep : ∀ l (c : Int) W, 0 ≤ c → c ≤ 2147483647 → l.length < s.size → I l W → Calls Tryd.prog G (#[.int .i64 c] ++ cap) W fun e W' => e = .returned (.tuple #[]) ∧ I (l ++ [c]) W' ∧ (∀ p, W.heap[w.heap.size]? = some (.stringIter s p) → W'.heap[w.heap.size]? = some (.stringIter s p))) :
 Calls Tryd.prog 99 #[.string s, .func (.func G) #[] cap] w fun e w' => e = .returned (.int .i64 (charsFrom s s.size 0).2) ∧ I (charsFrom s s.size 0).1 w' := by
 have H0 := Lib.hid h0
 have HI := Lib.hid hI
 have HS := Lib.hid hstep
 clear h0 hI hstep
 go_enter Tryd.func99, Tryd.ntmps99
 go_wp2
 go_loopw [5, 6] (fun _ _ wr => ∃ (k p : Nat) (l : List Int), Hid (wr.heap[w.heap.size]? = some (.stringIter s p)) ∧ Hid (charsFrom s s.size 0 = (l ++ (charsFrom s k p).1, (charsFrom s k p).2)) ∧ s.size ≤ p + k ∧ p ≤ s.size ∧ l.length ≤ p ∧ Hid (I l wr)) (fun _ _ wr => s.size - wr.iterPos w.heap.size)
 case atStart =>
  exact ⟨s.size, 0, [], Lib.hid (World.iter_heap w s 0), Lib.hid (by simp), by omega, by omega, by simp, H0⟩
 case round =>
  obtain ⟨k, p, l, HK, HC, hk, hp, hlen, HIl⟩ := hrel
  by_cases hlt : p < s.size
  · have hnx : ∀ ty, (Instr.next (.pointer (some ⟨w.heap.size, 0, none⟩)) true ty).run Tryd.prog wr = _ := fun ty => Lib.run_next_any_at wr w.heap.size s p ty HK.out hlt
    obtain ⟨c, hc⟩ : ∃ c : Int, c = ((Utf8.decode s p).1 : Int) := ⟨_, rfl⟩
    obtain ⟨n, hn⟩ : ∃ n, n = (Utf8.decode s p).2 := ⟨_, rfl⟩
    rw [← hc, ← hn] at hnx
    have hc0 : 0 ≤ c := by rw [hc]; exact Int.natCast_nonneg _
    have hc1 : c ≤ 2147483647 := by have := decode_le s p; rw [hc]; omega
    have hn1 : 1 ≤ n := by rw [hn]; exact decode_pos s p hlt
    have hnle : p + n ≤ s.size := by rw [hn]; exact decode_fits s p hlt
    have HCc := Lib.hid hc
    have HN := Lib.hid hn
    clear hc hn
    by_cases hc : c = 65533
    · have hcb : (c == 65533) = true := beq_iff_eq.2 hc
      have HCN := Lib.hid hc
      clear hc
      by_cases h3 : s.size - p < 3
      · have h3b : decide ((s.size : Int) - (p : Int) < 3) = true := decide_eq_true (by omega)
        have HBad : Hid (badAt s p = true) := Lib.hid (by rw [badAt_eq s p c HCc.out]; simp [HCN.out, h3])
        have HI1 := Lib.hid (HI.out l wr (p + n) p HK.out HIl.out)
        go_wp2
        go_ret
        rw [HC.out, charsFrom_stop (fun h => by rw [HBad.out] at h; exact absurd h.2 (by simp))]
        exact ⟨rfl, by simpa using HI1.out⟩
      · have h3b : decide ((s.size : Int) - (p : Int) < 3) = false := decide_eq_false (by omega)
        have h3n : decide (s.size - p < 3) = false := decide_eq_false h3
        have hsl : ∀ W, (Instr.slice 9 (.string s) (some (.int .i64 (p : Int))) (some (.int .i64 ((p : Int) + 3))) none).run Tryd.prog W = .ok (.string (s.extract p (p + 3))) W := fun W => by
         rw [run_slice_string (P := Tryd.prog) W 9 s .i64 .i64 (p : Int) ((p : Int) + 3) Tryd.underlying9 (by omega) (by omega) (by omega)]
         rw [Int.toNat_natCast, show ((p : Int) + 3).toNat = p + 3 by omega]
        by_cases h4 : (s.extract p (p + 3)).toList = (Utf8.encode c).toList
        · have h4b : ((s.extract p (p + 3)).toList == (Utf8.encode c).toList) = true := by simp [h4]
          clear h4
          have HBad : Hid (badAt s p = false) := Lib.hid (by rw [badAt_eq s p c HCc.out]; simp only [bne, h4b, h3n]; simp)
          go_wp2_with fail
          refine (HS.out l c (wr.iterAt w.heap.size s (p + n)) hc0 hc1 (by omega) (HI.out l wr (p + n) p HK.out HIl.out)).mono ?_
          rintro e w1 ⟨rfl, hi1, hi2⟩
          have HI1 := Lib.hid hi1
          have HK1 := Lib.hid (hi2 _ (Lib.iterAt_heap wr w.heap.size s p (p + n) HK.out))
          clear hi1 hi2
          go_wp2
          go_roundw
          case rel => exact utf_round HN.out HCc.out hlt HBad.out HC.out hk hnle hlen HK1 HI1
          case measure => exact utf_measure HK.out HK1.out hlt hn1
        · have h4b : ((s.extract p (p + 3)).toList == (Utf8.encode c).toList) = false := by simp [h4]
          clear h4
          have HBad : Hid (badAt s p = true) := Lib.hid (by rw [badAt_eq s p c HCc.out]; simp only [bne, h4b, hcb]; simp)
          have HI1 := Lib.hid (HI.out l wr (p + n) p HK.out HIl.out)
          go_wp2
          go_ret
          rw [HC.out, charsFrom_stop (fun h => by rw [HBad.out] at h; exact absurd h.2 (by simp))]
          exact ⟨rfl, by simpa using HI1.out⟩
    · have hcb : (c == 65533) = false := beq_eq_false_iff_ne.2 hc
      have HCN := Lib.hid hc
      clear hc
      have HBad : Hid (badAt s p = false) := Lib.hid (by rw [badAt_eq s p c HCc.out]; simp [HCN.out])
      go_wp2_with fail
      refine (HS.out l c (wr.iterAt w.heap.size s (p + n)) hc0 hc1 (by omega) (HI.out l wr (p + n) p HK.out HIl.out)).mono ?_
      rintro e w1 ⟨rfl, hi1, hi2⟩
      have HI1 := Lib.hid hi1
      have HK1 := Lib.hid (hi2 _ (Lib.iterAt_heap wr w.heap.size s p (p + n) HK.out))
      clear hi1 hi2
      go_wp2
      go_roundw
      case rel => exact utf_round HN.out HCc.out hlt HBad.out HC.out hk hnle hlen HK1 HI1
      case measure => exact utf_measure HK.out HK1.out hlt hn1
  · have hnx : ∀ ty, (Instr.next (.pointer (some ⟨w.heap.size, 0, none⟩)) true ty).run Tryd.prog wr = _ := fun ty => Lib.run_next_end_at wr w.heap.size s p ty HK.out hlt
    go_wp2
    go_ret
    rw [HC.out, charsFrom_stop (fun h => hlt h.1)]
    simp
    refine ⟨?_, HIl.out⟩
    omega
def utf_Bad.f (s : ByteArray) : Option Int := if s.size ≤ 1099511627776 then some ((charsFrom s s.size 0).2 : Int) else none
set_option maxHeartbeats 400000 in
theorem utf_Bad1.calls (c : Int) (w : World) : Calls Tryd.prog 110 (#[.int .i64 c] ++ #[]) w fun e w' => e = .returned (.tuple #[]) ∧ w = w' := by
 show Calls Tryd.prog 110 #[.int .i64 c] w _
 go_enter Tryd.func110, Tryd.ntmps110
 go_wp2
 go_end0
 exact ⟨rfl, rfl⟩
theorem utf_Bad.calls (s : ByteArray) (r : Int) (w : World) (h : utf_Bad.f s = some r) :
 Calls Tryd.prog 98 #[.string s] w fun e w' => e = .returned (.int .i64 r) ∧ Below w.heap.size w w' := by
 unfold utf_Bad.f at h
 split at h
 · rename_i hs
   injection h with h
   have HR := Lib.hid h
   clear h
   go_enter Tryd.func98, Tryd.ntmps98
   go_wp2_with fail
   refine (utf_each 110 #[] (enters_fn Tryd.func110 (by kernel_rfl) rfl) s (by omega) (fun _ W => Below w.heap.size w W) w ((Below.refl _ _).alloc (Nat.le_refl _) _) (fun l W p _ _ hb => Lib.below_iterAt hb (Nat.le_refl _) _ _) ?_).mono ?_
   · intro l c W _ _ _ hI
     refine (utf_Bad1.calls c W).mono ?_
     rintro e w' ⟨rfl, rfl⟩
     exact ⟨rfl, hI, fun p hp => hp⟩
   · rintro e w' ⟨rfl, hb⟩
     go_wp2
     go_ret
     rw [HR.out]
     exact ⟨rfl, hb⟩
 · cases h
def notB (B k : Nat) : Prop := k ≠ B
structure LBox (B : Nat) (w W : World) (l : List Int) (v : Value) : Prop where
 box : W.heap[B]? = some (.cells #[v] 102 (0, 0))
 row : (Kd.int .i64).R 3 W B (notB B) v l
 b : Below B w W
theorem infoInt : (Tryd.prog.info? 3).map (fun i => (i.zero, i.size, i.bytes)) = some (some (.int .i64 0), 1, 8) := by kernel_rfl
set_option maxRecDepth 100000 in
set_option maxHeartbeats 400000 in
theorem utf_Chars1.calls (B : Nat) (w W : World) (l : List Int) (v : Value) (c : Int) (hl : l.length < 1099511627776) (H : LBox B w W l v) :
 Calls Tryd.prog 100 (#[.int .i64 c] ++ #[.pointer (some ⟨B, 0, none⟩)]) W fun e W' => e = .returned (.tuple #[]) ∧ (∃ v', LBox B w W' (l ++ [c]) v') ∧ ∀ (D : Nat) (s : ByteArray) (p : Nat), W.heap[D]? = some (Obj.stringIter s p) → W'.heap[D]? = some (Obj.stringIter s p) := by
 have hc := cell_of_one H.box
 have hf := free_of_one H.box
 have HH := Lib.hid H
 clear H
 show Calls Tryd.prog 100 #[.int .i64 c, .pointer (some ⟨B, 0, none⟩)] W _
 go_enter Tryd.func100, Tryd.ntmps100
 go_wp2_with (at_builtin; go_must (refine Kd.R_append (Kd.int .i64) (w0 := w) B rfl _ _ 102 3 (.int .i64 0) 8 rfl Tryd.underlying102 infoInt rfl (by decide) (by decide) v l c [.int .i64 c] (notB B) (fun k => notB B k ∧ some k ≠ v.ownBlock) rfl rfl rfl (fun _ h => h) ?hfr HH.out.row HH.out.b (Nat.le_of_lt (lt_of_block HH.out.box)) (by omega) ?_))
 case hfr => exact fun k hk => by have := lt_of_block HH.out.box; unfold notB; omega
 intro v1 w1 HR HB hg hat
 have hbox : w1.heap[B]? = some (.cells #[v] 102 (0, 0)) := (hg.block B (lt_of_block HH.out.box) (fun e => HH.out.row.1 B e.symm rfl)).trans HH.out.box
 have HD := Lib.hid (show ∀ (D : Nat) (s : ByteArray) (p : Nat), W.heap[D]? = some (Obj.stringIter s p) → w1.heap[D]? = some (Obj.stringIter s p) from fun D s p h => (hg.block D (lt_of_block h) (fun e => by
  obtain ⟨cells, hcc⟩ := Kd.R_typed HH.out.row D e.symm
  rw [hcc] at h
  cases h)).trans h)
 have HX := Lib.hid hbox
 have hc1 := cell_of_one hbox
 have hf1 := free_of_one hbox
 obtain ⟨A1, c1, rfl⟩ := Kd.R_slice HR
 rw [List.length_append, List.length_singleton] at HR
 have HRR := Lib.hid HR
 have HBB := Lib.hid HB
 clear HR HB hg hat hc hf hbox
 go_wp2
 go_end0
 refine ⟨rfl, ⟨_, one_setCell HX.out, Kd.R_far (p := ⟨B, 0, none⟩) HRR.out (fun k hk => hk) _, HBB.out.setCell (Nat.le_refl _) _⟩, fun D s p h => ?_⟩
 rw [Below.heap_setCell _ _ _ _ (fun e => ?_)]
 · exact HD.out D s p h
 · have h1 := HH.out.box
   have h2 : D = B := e
   rw [← h2, h] at h1
   cases h1
def utf_Chars.f (s : ByteArray) : Option (List Int × Bool) :=
 if s.size ≤ 1099511627776 then some (if (charsFrom s s.size 0).2 < s.size then ([], false) else ((charsFrom s s.size 0).1, true)) else none
set_option maxRecDepth 100000 in
set_option maxHeartbeats 400000 in
theorem utf_Chars.calls (s : ByteArray) (r1 : List Int) (r2 : Bool) (w : World) (h : utf_Chars.f s = some (r1, r2)) :
 Calls Tryd.prog 82 #[.string s] w fun e w' => ∃ v0_ : Value, e = .returned (.tuple #[v0_, .bool r2]) ∧ (Kd.int .i64).R 3 w' w.heap.size (fun _ => True) v0_ r1 ∧ Below w.heap.size w w' := by
 unfold utf_Chars.f at h
 split at h
 · rename_i hs
   injection h with h
   have HR := Lib.hid h
   clear h
   go_enter Tryd.func82, Tryd.ntmps82
   go_wp2_with fail
   refine (utf_each 100 _ (enters_fn Tryd.func100 (by kernel_rfl) rfl) s (by omega) (fun l W => ∃ v, LBox w.heap.size w W l v) _ ?h0 ?hI ?hstep).mono ?_
   case h0 => exact ⟨_, (heap_alloc_old _ _ (by simp)).trans (heap_alloc_new w _), Kd.R_nil _ _ _ _ _, ((Below.refl _ _).alloc (Nat.le_refl _) _).alloc (by simp) _⟩
   case hI =>
    rintro l W p q hq ⟨v, h⟩
    refine ⟨v, (Lib.iterAt_other _ _ _ _ _ (by simp)).trans h.box, Kd.R_mono (Kd.R_move (Kd.R_bound h.row) (fun k hk => Lib.iterAt_other _ _ _ _ _ (fun e => ?_))) (fun k hk => hk.1), Lib.below_iterAt h.b (by simp) _ _⟩
    obtain ⟨_, _, _, _, _, cells, hcc⟩ := hk
    rw [e, hq] at hcc
    cases hcc
   case hstep =>
    rintro l c W _ _ hl ⟨v, h⟩
    refine (utf_Chars1.calls w.heap.size w W l v c (by omega) h).mono ?_
    rintro e W' ⟨rfl, hv, hk⟩
    exact ⟨rfl, hv, fun p hp => hk _ _ p hp⟩
   rintro e w1 ⟨rfl, v, hb⟩
   obtain ⟨n, hn⟩ : ∃ n, n = (charsFrom s s.size 0).2 := ⟨_, rfl⟩
   obtain ⟨l, hl⟩ : ∃ l, l = (charsFrom s s.size 0).1 := ⟨_, rfl⟩
   rw [← hl] at hb
   rw [← hn, ← hl] at HR
   rw [← hn]
   clear hn hl
   by_cases hlt : n < s.size
   · rw [if_pos hlt] at HR
     have hd : decide (n < s.size) = true := decide_eq_true hlt
     have HB := Lib.hid hb
     clear hb
     go_wp2
     go_ret2
     have := HR.out
     simp only [Prod.mk.injEq] at this
     obtain ⟨rfl, rfl⟩ := this
     exact ⟨_, rfl, Kd.R_nil _ _ _ _ _, HB.out.b⟩
   · rw [if_neg hlt] at HR
     have hd : decide (n < s.size) = false := decide_eq_false hlt
     have hc := cell_of_one hb.box
     have HB := Lib.hid hb
     clear hb
     go_wp2
     go_ret2
     have := HR.out
     simp only [Prod.mk.injEq] at this
     obtain ⟨rfl, rfl⟩ := this
     exact ⟨_, rfl, Kd.R_mono HB.out.row (fun _ _ => trivial), HB.out.b⟩
 · cases h
def prefPos (s : ByteArray) (most : Int) : Nat → Nat → Int → Nat
 | 0, p, _ => p
 | k + 1, p, n => if p < s.size then (if n ≥ most then p else prefPos s most k (p + (Utf8.decode s p).2) (n + 1)) else s.size
def utf_Prefix.f (s : ByteArray) (most : Int) : Option ByteArray :=
 if s.size ≤ 1099511627776 then some ((s.extract 0 (charsFrom s s.size 0).2).extract 0 (prefPos (s.extract 0 (charsFrom s s.size 0).2) most ((s.extract 0 (charsFrom s s.size 0).2).size + 1) 0 0)) else none
theorem charsFrom_le (s : ByteArray) : ∀ k p, p ≤ s.size → (charsFrom s k p).2 ≤ s.size
 | 0, p, h => h
 | k + 1, p, h => by
  by_cases hs : p < s.size ∧ badAt s p = false
  · rw [charsFrom_step hs.1 hs.2]
    exact charsFrom_le s k _ (decode_fits s p hs.1)
  · rw [charsFrom_stop hs]; exact h
set_option maxRecDepth 100000 in
set_option maxHeartbeats 400000 in
theorem utf_Prefix.calls (s : ByteArray) (most : Int) (r : ByteArray) (w : World) (h : utf_Prefix.f s most = some r) :
 Calls Tryd.prog 81 #[.string s, .int .i64 most] w fun e w' => e = .returned (.string r) ∧ Below w.heap.size w w' := by
 unfold utf_Prefix.f at h
 split at h
 · rename_i hs
   injection h with h
   obtain ⟨n, hn⟩ : ∃ n, n = (charsFrom s s.size 0).2 := ⟨_, rfl⟩
   have hns : n ≤ s.size := by rw [hn]; exact charsFrom_le s _ _ (Nat.zero_le _)
   have HB0 : utf_Bad.f s = some (n : Int) := by rw [utf_Bad.f, if_pos hs, hn]
   rw [← hn] at h
   obtain ⟨u, hu⟩ : ∃ u, u = s.extract 0 n := ⟨_, rfl⟩
   have husz : u.size ≤ 1099511627776 := by rw [hu]; simp; omega
   have HU := Lib.hid hu
   rw [← hu] at h
   have HR := Lib.hid h
   have HB1 := Lib.hid HB0
   clear h hn HB0 hu
   have hsl : ∀ W, (Instr.slice 9 (.string s) none (some (.int .i64 (n : Int))) none).run Tryd.prog W = .ok (.string u) W := fun W => by
    rw [run_slice_string_h (P := Tryd.prog) W 9 s Tryd.underlying9 .i64 (n : Int) (by omega) (by omega), HU.out]
    rfl
   go_enter Tryd.func81, Tryd.ntmps81
   go_wp2_with fail
   refine (utf_Bad.calls s _ _ HB1.out).mono ?_
   rintro e w1 ⟨rfl, hb⟩
   have HB := Lib.hid hb
   clear hb
   go_wp2
   go_loopw [5, 6] (fun c _ wr => ∃ (k p m : Nat), wr = w1.iter u p ∧ c = .int .i64 (m : Int) ∧ m ≤ p ∧ p ≤ u.size ∧ u.size < p + k ∧ Hid (prefPos u most k p (m : Int) = prefPos u most (u.size + 1) 0 0)) (fun _ _ wr => u.size - wr.iterPos w1.heap.size)
   case atStart => exact ⟨u.size + 1, 0, 0, rfl, rfl, by omega, by omega, by omega, Lib.hid rfl⟩
   case round =>
    obtain ⟨k, p, m, rfl, rfl, hm, hp, hk, HP⟩ := hrel
    by_cases hlt : p < u.size
    · have hnx : ∀ ty, (Instr.next (.pointer (some ⟨w1.heap.size, 0, none⟩)) true ty).run Tryd.prog (w1.iter u p) = _ := fun ty => run_next_any w1 u p ty hlt
      obtain ⟨q, hq⟩ : ∃ q, q = (Utf8.decode u p).2 := ⟨_, rfl⟩
      obtain ⟨c, hc⟩ : ∃ c : Int, c = ((Utf8.decode u p).1 : Int) := ⟨_, rfl⟩
      rw [← hc, ← hq] at hnx
      have hq1 : 1 ≤ q := by rw [hq]; exact decode_pos u p hlt
      have hqle : p + q ≤ u.size := by rw [hq]; exact decode_fits u p hlt
      have HQ := Lib.hid hq
      clear hc hq
      cases k with
      | zero => omega
      | succ k =>
       have HP1 := HP.out
       rw [prefPos, if_pos hlt] at HP1
       by_cases hge : (m : Int) ≥ most
       · rw [if_pos hge] at HP1
         have hgb : decide (most ≤ (m : Int)) = true := decide_eq_true hge
         have HPP := Lib.hid HP1
         clear HP1 hge HP
         have hsl2 : ∀ W, (Instr.slice 9 (.string u) none (some (.int .i64 (p : Int))) none).run Tryd.prog W = .ok (.string (u.extract 0 p)) W := fun W => by
          rw [run_slice_string_h (P := Tryd.prog) W 9 u Tryd.underlying9 .i64 (p : Int) (by omega) (by omega)]
          rfl
         go_wp2
         go_ret
         refine ⟨?_, ?_⟩
         · show Ending.returned (.string (u.extract 0 p)) = _; rw [← HR.out, ← HPP.out]
         · exact HB.out.alloc HB.out.size _
       · rw [if_neg hge] at HP1
         have hgb : decide (most ≤ (m : Int)) = false := decide_eq_false hge
         have HPP := Lib.hid HP1
         clear HP1 hge HP
         go_wp2
         go_roundw
         case rel => exact ⟨k, p + q, m + 1, rfl, by go_num, by omega, hqle, by omega, Lib.hid (by rw [← HPP.out, HQ.out]; rfl)⟩
         case measure => simp; omega
    · have hnx : ∀ ty, (Instr.next (.pointer (some ⟨w1.heap.size, 0, none⟩)) true ty).run Tryd.prog (w1.iter u p) = _ := fun ty => run_next_end w1 u p ty hlt
      cases k with
      | zero => omega
      | succ k =>
       have HP1 := HP.out
       rw [prefPos, if_neg hlt] at HP1
       have HPP := Lib.hid HP1
       clear HP1 HP
       go_wp2
       go_ret
       refine ⟨?_, ?_⟩
       · show Ending.returned (.string u) = _; rw [← HR.out, ← HPP.out, ByteArray.extract_zero_size]
       · exact HB.out.alloc HB.out.size _
 · cases h
def anyFrom (s : ByteArray) : Nat → Nat → Int
 | 0, _ => -1
 | k + 1, p => if p < s.size then (if ((Utf8.decode s p).1 : Int) = 44 ∨ ((Utf8.decode s p).1 : Int) = 125 then (p : Int) else anyFrom s k (p + (Utf8.decode s p).2)) else -1
def twoEnds : ByteArray := ⟨#[44, 125]⟩
def endAt (d : Nat) : Int := if d = 0 then 44 else 125
theorem twoEnds_decode (d : Nat) (h : d < 2) : (((Utf8.decode twoEnds d).1 : Int), (Utf8.decode twoEnds d).2) = (endAt d, 1) := by
 match d, h with
 | 0, _ => decide
 | 1, _ => decide
set_option maxRecDepth 100000 in
set_option maxHeartbeats 800000 in
theorem tmpl_anyAt.calls (s : ByteArray) (hs : s.size ≤ 1099511627776) (w : World) :
 Calls Tryd.prog 64 #[.string s, .string twoEnds] w fun e w' => e = .returned (.int .i64 (anyFrom s s.size 0)) ∧ Below w.heap.size w w' := by
 obtain ⟨r, hr⟩ : ∃ r, r = anyFrom s s.size 0 := ⟨_, rfl⟩
 rw [← hr]
 have HR := Lib.hid hr.symm
 have HD := Lib.hid twoEnds_decode
 have hsz : twoEnds.size = 2 := rfl
 obtain ⟨E, hE⟩ : ∃ E, E = twoEnds := ⟨_, rfl⟩
 rw [← hE] at hsz HD ⊢
 clear hr hE
 go_enter Tryd.func64, Tryd.ntmps64
 go_wp2
 go_loopw [5, 6, 8] (fun _ _ _ wr => ∃ (k p : Nat), Hid (wr.heap[w.heap.size]? = some (.stringIter s p)) ∧ Hid (anyFrom s k p = r) ∧ s.size ≤ p + k ∧ p ≤ s.size ∧ Hid (Below w.heap.size w wr)) (fun _ _ _ wr => s.size - wr.iterPos w.heap.size)
 case atStart =>
  exact ⟨s.size, 0, Lib.hid (World.iter_heap w s 0), HR, by omega, by omega, Lib.hid ((Below.refl _ _).alloc (Nat.le_refl _) _)⟩
 case round =>
  obtain ⟨k, p, HK, HC, hk, hp, HBw⟩ := hrel
  by_cases hlt : p < s.size
  · cases k with
    | zero => omega
    | succ k =>
    have hC := HC.out
    rw [anyFrom, if_pos hlt] at hC
    have hnx : ∀ ty, (Instr.next (.pointer (some ⟨w.heap.size, 0, none⟩)) true ty).run Tryd.prog wr = _ := fun ty => Lib.run_next_any_at wr w.heap.size s p ty HK.out hlt
    obtain ⟨c, hc⟩ : ∃ c : Int, c = ((Utf8.decode s p).1 : Int) := ⟨_, rfl⟩
    obtain ⟨n, hn⟩ : ∃ n, n = (Utf8.decode s p).2 := ⟨_, rfl⟩
    rw [← hc, ← hn] at hnx hC
    have hn1 : 1 ≤ n := by rw [hn]; exact decode_pos s p hlt
    have hnle : p + n ≤ s.size := by rw [hn]; exact decode_fits s p hlt
    have HK1 := Lib.hid (Lib.iterAt_heap wr w.heap.size s p (p + n) HK.out)
    have HB1 := Lib.hid (Lib.below_iterAt HBw.out (Nat.le_refl _) s (p + n))
    have HC1 := Lib.hid hC
    clear hc hn hC HC
    go_wp2_with fail
    obtain ⟨W1, hW1⟩ : ∃ W1, W1 = wr.iterAt w.heap.size s (p + n) := ⟨_, rfl⟩
    rw [← hW1] at HK1 HB1
    rw [← hW1]
    have HW1 := Lib.hid hW1
    clear hW1 hnx
    have hlt1 : w.heap.size < W1.heap.size := (Array.getElem?_eq_some_iff.1 HK1.out).1
    go_loopw [8] (fun _ W => ∃ d : Nat, d ≤ 2 ∧ (∀ j, j < d → c ≠ endAt j) ∧ Hid (W.heap[W1.heap.size]? = some (.stringIter E d)) ∧ Hid (W.heap[w.heap.size]? = some (.stringIter s (p + n))) ∧ Hid (Below w.heap.size w W)) (fun _ W => 2 - W.iterPos W1.heap.size)
    case atStart =>
     exact ⟨0, by omega, fun j hj => by omega, Lib.hid (World.iter_heap W1 E 0), Lib.hid ((heap_alloc_old W1 _ hlt1).trans HK1.out), Lib.hid (HB1.out.alloc (Nat.le_of_lt hlt1) _)⟩
    case round =>
     obtain ⟨d, hd, hne, HI, HO, HBi⟩ := hrel
     by_cases hd2 : d < 2
     · have hnx := fun ty => Lib.run_next_any_at (P := Tryd.prog) _ W1.heap.size E d ty HI.out (by rw [hsz]; exact hd2)
       have hdec := HD.out d hd2
       simp only [Prod.mk.injEq] at hdec
       rw [hdec.1, hdec.2] at hnx
       have hE2 : endAt d = 44 ∨ endAt d = 125 := by unfold endAt; split <;> simp
       obtain ⟨x, hx⟩ : ∃ x, x = endAt d := ⟨_, rfl⟩
       rw [← hx] at hnx hE2
       have HX := Lib.hid hx
       clear hdec hx
       have HI1 := Lib.hid (Lib.iterAt_heap _ W1.heap.size E d (d + 1) HI.out)
       have HB2 := Lib.hid (Lib.below_iterAt HBi.out (Nat.le_of_lt hlt1) E (d + 1))
       have HO2 := Lib.hid ((Lib.iterAt_other _ W1.heap.size w.heap.size E (d + 1) (by omega)).trans HO.out)
       by_cases hcx : c = x
       · have q1 : (c == x) = true := beq_iff_eq.2 hcx
         have hC := HC1.out
         rw [if_pos (by rw [hcx]; exact hE2)] at hC
         have HCC := Lib.hid hC
         clear hC hcx hE2
         go_wp2
         go_ret
         exact ⟨by show Ending.returned (.int .i64 (p : Int)) = _; rw [HCC.out], HB2.out⟩
       · have q1 : (c == x) = false := beq_eq_false_iff_ne.2 hcx
         have HN := Lib.hid (show ∀ j, j < d + 1 → c ≠ endAt j from fun j hj => by
          rcases Nat.lt_succ_iff_lt_or_eq.1 hj with h | h
          · exact hne j h
          · rw [h, ← HX.out]; exact hcx)
         clear hne hcx hE2
         go_wp2
         go_roundw
         case rel => exact ⟨d + 1, by omega, HN.out, HI1, HO2, HB2⟩
         case measure =>
          have h1 := HI.out
          have h2 := HI1.out
          simp only [World.iterPos, h1, h2]
          omega
     · have hnx := fun ty => Lib.run_next_end_at (P := Tryd.prog) _ W1.heap.size E d ty HI.out (by rw [hsz]; exact hd2)
       have hC := HC1.out
       have hd3 : d = 2 := by omega
       rw [if_neg (fun h => by
        rcases h with h | h
        · exact hne 0 (by omega) h
        · exact hne 1 (by omega) h)] at hC
       have HCC := Lib.hid hC
       clear hC hne hd3
       go_wp2
       go_roundw
       case rel => exact ⟨k, p + n, HO, HCC, by omega, by omega, HBi⟩
       case measure =>
        have h1 := HK.out
        have h2 := HO.out
        simp only [World.iterPos, h1, h2]
        omega
  · have hnx : ∀ ty, (Instr.next (.pointer (some ⟨w.heap.size, 0, none⟩)) true ty).run Tryd.prog wr = _ := fun ty => Lib.run_next_end_at wr w.heap.size s p ty HK.out hlt
    have hC := HC.out
    have hstop : anyFrom s k p = -1 := by
     cases k with
     | zero => rfl
     | succ k => rw [anyFrom, if_neg hlt]
    rw [hstop] at hC
    have HC1 := Lib.hid hC
    clear hC HC hstop
    go_wp2
    go_ret
    exact ⟨by show Ending.returned (.int .i64 (-1)) = _; rw [HC1.out], HBw.out⟩
end Go.Proofs.YtkipkbggnfllkaaDoor.P
end
section
namespace Go.Proofs.YtkipkbggnfllkaaDoor.P
open Go.RowKit
theorem storeCells_mark (P : Program) (g o : Nat) (t : TypeId) (fz : Nat × Nat) : ∀ (vs : List Value) (i : Nat) (cur : Array Value) (w : World), w.heap[g]? = some (.cells cur t fz) → (fz.2 ≤ o + i ∨ cur.size ≤ fz.1) → o + i + vs.length ≤ cur.size → (∀ v ∈ vs, v.oneCell' = true) →
 (storeCells ⟨g, o, none⟩ vs i).run P w = .ok () (w.setRow g (cur.toList.take (o + i) ++ vs ++ cur.toList.drop (o + i + vs.length)).toArray)
 | [], i, cur, w, hg, _, _, _ => by
  simp only [storeCells, List.append_nil, List.length_nil, Nat.add_zero, List.take_append_drop, Array.toArray_toList]
  rw [setRow_self w g cur t fz hg]
  rfl
 | v :: rest, i, cur, w, hg, hfz, hl, h1 => by
  have hi : o + i < cur.size := by simp at hl; omega
  have hadd : (⟨g, o, none⟩ : Addr).add i = ⟨g, o + i, none⟩ := by unfold Addr.add; split <;> simp_all
  have hcell : w.cell? ⟨g, o + i, none⟩ = some cur[o + i] := by simp [World.cell?, hg, hi]
  have hfro : w.frozen? ⟨g, o + i, none⟩ = false := by
   obtain ⟨lo, hi'⟩ := fz
   simp only [World.frozen?, hg, Bool.and_eq_false_iff, decide_eq_false_iff_not]
   simp only at hfz
   omega
  have hst : (store ((⟨g, o, none⟩ : Addr).add i) v).run P w = .ok () (w.setRow g (cur.setIfInBounds (o + i) v)) := by
   rw [hadd, run_store P w _ v _ (h1 v (by simp)), hcell]
   simp [hfro, setCell_eq_setRow w g (o + i) cur t fz v hg]
  have ih := storeCells_mark P g o t fz rest (i + 1) (cur.setIfInBounds (o + i) v) (w.setRow g (cur.setIfInBounds (o + i) v)) (setRow_heap w g cur _ t _ hg) (by simp; omega) (by simp at hl ⊢; omega) (fun x hx => h1 x (by simp [hx]))
  simp only [storeCells, Sem.run_bind, hst, Result.andThen_ok, ih, setRow_setRow]
  congr 3
  have e := list_seg_step cur.toList (o + i) v rest (by simp at hl ⊢; omega)
  simpa [Array.toList_setIfInBounds, Nat.add_assoc] using e
def RowM (w : World) (base : Nat) (e : TypeId) (v : Value) (xs : List Value) : Prop :=
 ∃ g cap cur fz, v = .slice (some ⟨g, 0, none⟩) xs.length cap ∧ base ≤ g ∧ w.heap[g]? = some (.cells cur e fz) ∧ (fz.2 ≤ xs.length ∨ cur.size ≤ fz.1) ∧ xs.length ≤ cap ∧ cap ≤ maxLen ∧ cur.size = cap ∧ cur.toList.take xs.length = xs
section
variable {P : Program} (w : World)
theorem RowM.cells {w : World} {base : Nat} {e : TypeId} {v : Value} {xs : List Value} (h : RowM w base e v xs) : ∃ g cap, v = .slice (some ⟨g, 0, none⟩) xs.length cap ∧ ∀ j u, xs[j]? = some u → w.cell? ⟨g, j, none⟩ = some u := by
 obtain ⟨g, cap, cur, fz, rfl, _, hgg, _, _, _, _, ht⟩ := h
 refine ⟨g, cap, rfl, fun j u hu => ?_⟩
 rw [cell_of_row w g j cur e fz hgg]
 rw [← ht, List.getElem?_take] at hu
 split at hu
 · simpa using hu
 · cases hu
theorem RowM.below {w w1 : World} {base : Nat} {e : TypeId} {v : Value} {xs : List Value} (h : RowM w base e v xs) (hb : Below w.heap.size w w1) : RowM w1 base e v xs := by
 obtain ⟨g, cap, cur, fz, rfl, hg, hgg, r⟩ := h
 exact ⟨g, cap, cur, fz, rfl, hg, (hb.block g (Array.getElem?_eq_some_iff.1 hgg).1).trans hgg, r⟩
theorem run_append_mark (base : Nat) (t ty e : TypeId) (i : TypeInfo) (z : Value) (bytes : Nat) (ht : P.underlying t = some (.slice e)) (hi : P.info? e = some i) (hz : i.zero = some z)
 (hsize : i.size = 1) (hby : i.bytes = bytes) (hzs : z.cells.size = 1)
 (v : Value) (xs : List Value) (hown : RowM w base e v xs) (a : Addr) (u : Value) (hu : w.cell? (a.add 0) = some u) (h1 : u.oneCell' = true)
 (h63 : xs.length + 1 ≤ maxLen) (hbytes : (xs.length + 1) * bytes ≤ 140737488355328) (hbase : base ≤ w.heap.size) :
 ∃ v' w', (Builtin.append_ #[t, t] ty #[v, .slice (some a) 1 1]).run P w = .ok v' w' ∧ RowM w' base e v' (xs ++ [u]) ∧ w.grownBy w' v.ownBlock := by
 have hcells := hown.cells
 obtain ⟨g, cap, cur, fz, rfl, hbg, hg, hfz, hnc, hcm, hcs, htake⟩ := hown
 subst hby
 have hnews : ∀ j x, [u][j]? = some x → w.cell? (a.add j) = some x := by
  intro j x hx
  cases j with
  | zero => simp at hx; rw [← hx]; exact hu
  | succ j => simp at hx
 have h1s : ∀ x ∈ [u], x.oneCell' = true := by simp [h1]
 have hlen : (xs ++ [u]).length = xs.length + 1 := by simp
 by_cases hroom : xs.length + 1 ≤ cap
 · have hf := run_firstCells_some (P := P) w i.size 1 a 1 1 [u] (by simp [hsize]) hnews
   have hst := storeCells_mark P g xs.length e fz [u] 0 cur w hg (by simpa using hfz) (by simp; omega) h1s
   simp only [Nat.add_zero] at hst
   have hr : (Builtin.append_ #[t, t] ty #[.slice (some ⟨g, 0, none⟩) xs.length cap, .slice (some a) 1 1]).run P w = .ok (.slice (some ⟨g, 0, none⟩) (xs.length + 1) cap) (w.setRow g (cur.toList.take xs.length ++ [u] ++ cur.toList.drop (xs.length + [u].length)).toArray) := by
    simp only [hsize] at hf
    simp [Builtin.append_, run_underlying ht, sizeOf, typeInfo, hi, hsize, Builtin.lenOf, hroom, hf, Addr.add_lit, hst]
   refine ⟨_, _, hr, ⟨g, cap, _, fz, by rw [hlen], hbg, setRow_heap w g cur _ e _ hg, ?_, by rw [hlen]; exact hroom, hcm, ?_, ?_⟩, ⟨rfl, rfl, rfl, by simp, fun k _ hk => setRow_other w g k _ (fun e => hk (by simp [Value.ownBlock, e]))⟩⟩
   · rw [hlen]
     rcases hfz with h | h
     · left; omega
     · right
       simp only [List.size_toArray, List.length_append, List.length_take, List.length_drop, Array.length_toList, List.length_cons, List.length_nil]
       omega
   · simp only [List.size_toArray, List.length_append, List.length_take, List.length_drop, Array.length_toList, List.length_cons, List.length_nil]
     omega
   · rw [htake]
     exact List.take_left
 · have holds : ∀ j x, xs[j]? = some x → w.cell? ((⟨g, 0, none⟩ : Addr).add j) = some x := by
    obtain ⟨g', cap', he, hc⟩ := hcells
    injection he with he1 _ _
    injection he1 with he1
    injection he1 with he1 _ _
    subst he1
    intro j x hx
    have hadd : (⟨g, 0, none⟩ : Addr).add j = ⟨g, j, none⟩ := by unfold Addr.add; split <;> simp_all
    rw [hadd]; exact hc j x hx
   have hsmall : xs.length + 1 ≤ 9223372036854775807 := by simp only [maxLen] at h63; omega
   have hr := run_append_grow (P := P) w t ty e i z ht hi hz ⟨g, 0, none⟩ xs.length cap xs (by rw [hsize, Nat.mul_one]) holds a 1 1 [u] (by rw [hsize]; rfl) hnews (by omega) (by omega) (growslice_fits (by omega) hbytes)
   have hge := grownCap_ge w (xs.length + 1) cap e
   have hcm2 : grownCap w (xs.length + 1) cap e ≤ maxLen := grownCap_le_maxLen w (xs.length + 1) cap e h63
   refine ⟨_, _, hr, ⟨w.heap.size, _, _, (0, 0), by rw [hlen], hbase, heap_alloc_new w.drew _, .inl (Nat.zero_le _), by rw [hlen]; exact hge, hcm2, ?_, ?_⟩, ⟨rfl, rfl, rfl, by simp, fun k hk _ => by first | exact heap_alloc_old w.drew _ k hk | exact heap_alloc_old w.drew _ hk⟩⟩
   · simp only [Array.size_append, List.size_toArray, size_zeroCells, hzs, List.length_cons, List.length_nil]
     omega
   · simp only [Array.toList_append, List.append_assoc]
     rw [← List.append_assoc]
     exact List.take_left
theorem wpList_append_mark {ops : Array Oper} {rest : List Oper} {o : Oper} {a : Act} {Q : Exit → Act → World → Prop} (hgd : o.guard = none) (s x : Operand) (t : TypeId)
 (ho : o.op = .call { callee := .builtin .append, args := #[s, x], argTypes := #[t, t] })
 (base : Nat) (e : TypeId) (i : TypeInfo) (z : Value) (bytes : Nat) (ht : P.underlying t = some (.slice e)) (hi : P.info? e = some i) (hz : i.zero = some z)
 (hsize : i.size = 1) (hby : i.bytes = bytes) (hzs : z.cells.size = 1)
 (v : Value) (xs : List Value) (hs : a.eval s = v) (hown : RowM w base e v xs) (ad : Addr) (u : Value) (hx : a.eval x = .slice (some ad) 1 1) (hu : w.cell? (ad.add 0) = some u) (h1 : u.oneCell' = true)
 (h63 : xs.length + 1 ≤ maxLen) (hbytes : (xs.length + 1) * bytes ≤ 140737488355328) (hbase : base ≤ w.heap.size)
 (h : ∀ v' w', RowM w' base e v' (xs ++ [u]) → w.grownBy w' v.ownBlock → wpList P ops Q rest (a.put o.dst v') w') : wpList P ops Q (o :: rest) a w := by
 refine wpList_plain hgd fun K hK => ?_
 obtain ⟨v', w', hr, h2, h3⟩ := run_append_mark (P := P) w base t o.type e i z bytes ht hi hz hsize hby hzs v xs hown ad u hu h1 h63 hbytes hbase
 unfold Oper.wp execOp
 simp only [ho, resolve, invoke, builtin, Sem.run_bind, Sem.run_pure, Result.andThen_ok, List.map_toArray, List.map_cons, List.map_nil, hs, hx, hr]
 exact hK _ _ (h v' w' h2 h3)
end
def byteVals (s : ByteArray) : List Value := s.data.toList.map fun b => Value.int .u8 b.toNat
theorem RowM.made (w : World) (e : TypeId) (s : ByteArray) (hs : s.size ≤ maxLen) : RowM (Lib.bytesWorld w e s) w.heap.size e (.slice (some ⟨w.heap.size, 0, none⟩) s.size (grownCap w s.size 0 e)) (byteVals s) := by
 have hl : (byteVals s).length = s.size := by simp [byteVals]
 have hge := grownCap_ge w s.size 0 e
 refine ⟨_, _, _, _, by rw [hl], Nat.le_refl _, Lib.bytesWorld_at_new w e s, .inr (Nat.le_refl _), by rw [hl]; exact hge, grownCap_le_maxLen w s.size 0 e hs, ?_, ?_⟩
 · simp only [Lib.bytesCells, Array.size_append, Array.size_map, Array.size_replicate]
   have : s.data.size = s.size := rfl
   omega
 · rw [hl]
   have : s.data.size = s.size := rfl
   simp only [Lib.bytesCells, Array.toList_append, Array.toList_map, byteVals]
   rw [List.take_append_of_le_length (by simp), List.take_of_length_le (by simp)]
theorem RowM.below_made (w : World) (e : TypeId) (s : ByteArray) : Below w.heap.size w (Lib.bytesWorld w e s) :=
 ⟨by simp [Lib.bytesWorld, World.freeze, World.alloc, World.drew, -World.alloc_eq, -World.drew_eq], by simp [Lib.bytesWorld, World.freeze, World.alloc, World.drew, -World.alloc_eq, -World.drew_eq], by simp [Lib.bytesWorld, World.freeze, World.alloc, World.drew, -World.alloc_eq, -World.drew_eq], by rw [Lib.bytesWorld_size]; omega, fun k hk => Lib.bytesWorld_at_old w e s k hk⟩
end Go.Proofs.YtkipkbggnfllkaaDoor.P
end
section
namespace Go.Proofs.YtkipkbggnfllkaaDoor.P
open Go.RowKit Go.Proofs.YtkipkbggnfllkaaDoorW.PrintWords Go.Proofs.YtkipkbggnfllkaaDoorW.PrintLast Go.Proofs.YtkipkbggnfllkaaDoorW.PrintMore
def filledFrom (c : Int) : Nat → List Int → Int × Bool
 | 0, _ => (0, false)
 | d + 1, x =>
  if x.length ≤ 4 then
   (if (charsFrom (strOfNums x) (strOfNums x).size 0).2 < (strOfNums x).size then filledFrom c d (x ++ [c])
    else match (charsFrom (strOfNums x) (strOfNums x).size 0).1 with
     | [n] => (n, true)
     | _ => filledFrom c d (x ++ [c]))
  else (0, false)
def ucs_filled.f (b : ByteArray) (c : Int) : Option (Int × Bool) := if b.size ≤ 1099511627776 then some (filledFrom c 6 (bytesOf b)) else none
theorem filled_step (c : Int) (d : Nat) (x : List Int) (s : ByteArray) (hs : s = strOfNums x) (hx : x.length ≤ 4) :
 ∃ l ok, utf_Chars.f s = some (l, ok) ∧ filledFrom c (d + 1) x = if ok = true ∧ l.length = 1 then (l.getD 0 0, true) else filledFrom c d (x ++ [c]) := by
 have hsz : s.size ≤ 4 := by rw [hs, strOfNums_size]; exact hx
 rw [filledFrom, if_pos hx, ← hs]
 by_cases hb : (charsFrom s s.size 0).2 < s.size
 · refine ⟨[], false, by rw [utf_Chars.f, if_pos (by omega), if_pos hb], ?_⟩
   rw [if_pos hb, if_neg (by simp)]
 · refine ⟨(charsFrom s s.size 0).1, true, by rw [utf_Chars.f, if_pos (by omega), if_neg hb], ?_⟩
   rw [if_neg hb]
   generalize (charsFrom s s.size 0).1 = l
   cases l with
   | nil => simp
   | cons a l =>
    cases l with
    | nil => simp
    | cons b l => simp
theorem heapcell_new (W : World) (u : Value) (t : TypeId) : (W.alloc (.cells #[u] t)).cell? ((⟨W.heap.size, 0, none⟩ : Addr).add 0) = some u := by
 rw [show ((⟨W.heap.size, 0, none⟩ : Addr).add 0) = ⟨W.heap.size, 0, none⟩ from rfl]
 simp
theorem bytes_nums (s : ByteArray) : byteVals s = nums .u8 (bytesOf s) := by simp [byteVals, nums, bytesOf]
theorem RowM.base {w : World} {base : Nat} {e : TypeId} {v : Value} {xs : List Value} (h : RowM w base e v xs) (k : Nat) (hk : v.ownBlock = some k) : base ≤ k := by
 obtain ⟨g, cap, cur, fz, rfl, hg, _⟩ := h
 have : g = k := by simpa [Value.ownBlock] using hk
 omega
theorem RowM.reads {w : World} {base : Nat} {e : TypeId} {v : Value} {xs : List Int} (h : RowM w base e v (nums .u8 xs)) (hl : xs.length ≤ 9223372036854775807) : ∃ g cap, v = .slice (some ⟨g, 0, none⟩) xs.length cap ∧ ReadsInt w .u8 (some ⟨g, 0, none⟩) xs.length xs := by
 obtain ⟨g, cap, hv, hc⟩ := h.cells
 rw [nums_length] at hv
 refine ⟨g, cap, hv, rfl, hl, fun _ => ⟨_, rfl, fun j hj => ?_⟩⟩
 have hadd : (⟨g, 0, none⟩ : Addr).add j = ⟨g, j, none⟩ := by unfold Addr.add; split <;> simp_all
 rw [hadd]
 refine hc j _ ?_
 simp [nums, List.getElem?_eq_getElem hj, List.getD_eq_getElem?_getD]
def sliceLen : Value → Nat
 | .slice _ n _ => n
 | _ => 0
theorem infoByte : (Tryd.prog.info? 5).map (fun i => (i.zero, i.size, i.bytes)) = some (some (.int .u8 0), 1, 1) := by kernel_rfl
set_option maxRecDepth 100000 in
set_option maxHeartbeats 800000 in
theorem ucs_filled.calls (b : ByteArray) (c : Int) (r1 : Int) (r2 : Bool) (w : World) (h : ucs_filled.f b c = some (r1, r2)) :
 Calls Tryd.prog 88 #[.string b, .int .u8 c] w fun e w' => e = .returned (.tuple #[.int .i64 r1, .bool r2]) ∧ Below w.heap.size w w' := by
 unfold ucs_filled.f at h
 split at h
 · rename_i hs
   injection h with h
   have hcv : ∀ W : World, (convert 9 29 (.string b)).run Tryd.prog W = .ok (.slice (some ⟨W.heap.size, 0, none⟩) b.size (grownCap W b.size 0 5)) (Lib.bytesWorld W 5 b) := fun W => Lib.run_convert_string_bytes W _ _ _ b Tryd.underlying9 Tryd.underlying29 Tryd.underlying5
   have hrow := RowM.made w 5 b (by simp only [maxLen]; omega)
   rw [bytes_nums] at hrow
   have HRow := Lib.hid hrow
   have HB := Lib.hid (RowM.below_made w 5 b)
   have hbl := bytesOf_length b
   obtain ⟨x, hx⟩ : ∃ x, x = bytesOf b := ⟨_, rfl⟩
   rw [← hx] at HRow h hbl
   have HR := Lib.hid h
   have hxl : x.length ≤ 1099511627776 := by omega
   have HL := Lib.hid hbl
   clear h hrow hx hbl
   obtain ⟨i0, hi0, hzz⟩ := Option.map_eq_some_iff.1 infoByte
   simp only [Prod.mk.injEq] at hzz
   obtain ⟨hz0, hz1, hz2⟩ := hzz
   go_enter Tryd.func88, Tryd.ntmps88
   go_wp2
   go_loopw [6, 7, 8] (fun v _ _ wr => ∃ (d : Nat) (x : List Int), Hid (RowM wr w.heap.size 5 v (nums .u8 x)) ∧ Hid (filledFrom c d x = (r1, r2)) ∧ 6 ≤ x.length + d ∧ x.length ≤ 1099511627777 ∧ Hid (Below w.heap.size w wr) ∧ sliceLen v = x.length) (fun v _ _ _ => 5 - sliceLen v)
   case atStart => exact ⟨6, x, HRow, HR, by omega, by omega, HB, HL.out.symm⟩
   case round =>
    obtain ⟨d, x, HW, HF, hd, hx, HBw, hv⟩ := hrel
    obtain ⟨g, cap, rfl, hreads⟩ := HW.out.reads (by omega)
    have hcs : (convert 29 9 (.slice (some ⟨g, 0, none⟩) x.length cap)).run Tryd.prog wr = .ok (.string (strOfNums x)) wr := string_of_reads Tryd.underlying29 Tryd.underlying5 Tryd.underlying9 hreads
    clear hreads hv
    by_cases hle : x.length ≤ 4
    · cases d with
      | zero => omega
      | succ d =>
       obtain ⟨s, hs'⟩ : ∃ s, s = strOfNums x := ⟨_, rfl⟩
       have hssz : s.size ≤ 4 := by rw [hs', strOfNums_size]; exact hle
       obtain ⟨l, ok, hch, hst⟩ := filled_step c d x s hs' hle
       rw [← hs'] at hcs
       have HF1 := hst.symm.trans HF.out
       have HCH := Lib.hid hch
       have hleb : decide (x.length ≤ 4) = true := decide_eq_true hle
       clear hs' hst hch
       go_wp2_with fail
       refine (utf_Chars.calls s _ _ _ HCH.out).mono ?_
       rintro e w2 ⟨v0, rfl, hrow2, hb2⟩
       obtain ⟨A0, c0, rfl, hl0, hr0⟩ := Kd.R_reads hrow2
       have HR2 := Lib.hid hr0
       have HW2 := Lib.hid (HW.out.below hb2)
       have HB2 := Lib.hid (below_then HBw.out HBw.out.size hb2)
       have hsz2 := hb2.size
       clear hrow2 hb2 hr0 hcs HW HBw
       cases ok with
       | false =>
        rw [if_neg (by simp)] at HF1
        have HFF := Lib.hid HF1
        clear HF1 HF
        go_wp2_with (at_builtin; go_must (refine wpList_append_mark _ rfl _ _ 29 rfl w.heap.size 5 i0 (.int .u8 0) 1 Tryd.underlying29 hi0 hz0 hz1 hz2 rfl _ (nums .u8 x) rfl (HW2.out.below ((Below.refl _ _).alloc (Nat.le_refl _) _)) ⟨w2.heap.size, 0, none⟩ (.int .u8 c) rfl ?hu rfl ?h63 ?hby ?hbase ?_))
        case hu => exact heapcell_new w2 _ _
        case h63 => rw [nums_length]; simp only [maxLen]; omega
        case hby => rw [nums_length]; omega
        case hbase => simp; have := HB2.out.size; omega
        intro v' w3 hrow3 hg3
        rw [show nums .u8 x ++ [Value.int .u8 c] = nums .u8 (x ++ [c]) by rw [nums_append]; rfl] at hrow3
        have HR3 := Lib.hid hrow3
        have HB3 := Lib.hid ((HB2.out.alloc HB2.out.size _).grown hg3 (by simp; have := HB2.out.size; omega) (fun k hk => HW2.out.base k hk))
        obtain ⟨g3, cap3, rfl, _⟩ := hrow3.reads (by simp; omega)
        rw [List.length_append, List.length_singleton] at *
        clear hrow3 hg3
        go_wp2
        go_roundw
        case rel => exact ⟨d, x ++ [c], HR3, HFF, by simp; omega, by simp; omega, HB3, by simp [sliceLen]⟩
        case measure => simp [sliceLen]; omega
       | true =>
        by_cases h1 : l.length = 1
        · have h1b : (l.length == 1) = true := beq_iff_eq.2 h1
          rw [if_pos ⟨rfl, h1⟩] at HF1
          have HFF := Lib.hid HF1
          clear HF1 HF
          obtain ⟨n, rfl⟩ : ∃ n, l = [n] := by
           cases l with
           | nil => simp at h1
           | cons a l => cases l with
            | nil => exact ⟨a, rfl⟩
            | cons b l => simp at h1
          obtain ⟨ad, rfl, hca⟩ := Kd.at_int HR2.out 0 (by omega) (by simp)
          have hca2 : w2.cell? ad = some (.int .i64 n) := by
           have : ad.add (0 : Int).toNat = ad := by unfold Addr.add; split <;> simp_all
           rw [this] at hca
           exact hca
          clear hca
          go_wp2
          go_ret2
          have := HFF.out
          simp only [Prod.mk.injEq] at this
          obtain ⟨rfl, rfl⟩ := this
          exact ⟨rfl, HB2.out⟩
        · have h1b : (l.length == 1) = false := beq_eq_false_iff_ne.2 h1
          rw [if_neg (fun h => h1 h.2)] at HF1
          have HFF := Lib.hid HF1
          clear HF1 HF
          go_wp2_with (at_builtin; go_must (refine wpList_append_mark _ rfl _ _ 29 rfl w.heap.size 5 i0 (.int .u8 0) 1 Tryd.underlying29 hi0 hz0 hz1 hz2 rfl _ (nums .u8 x) rfl (HW2.out.below ((Below.refl _ _).alloc (Nat.le_refl _) _)) ⟨w2.heap.size, 0, none⟩ (.int .u8 c) rfl ?hu rfl ?h63 ?hby ?hbase ?_))
          case hu => exact heapcell_new w2 _ _
          case h63 => rw [nums_length]; simp only [maxLen]; omega
          case hby => rw [nums_length]; omega
          case hbase => simp; have := HB2.out.size; omega
          intro v' w3 hrow3 hg3
          rw [show nums .u8 x ++ [Value.int .u8 c] = nums .u8 (x ++ [c]) by rw [nums_append]; rfl] at hrow3
          have HR3 := Lib.hid hrow3
          have HB3 := Lib.hid ((HB2.out.alloc HB2.out.size _).grown hg3 (by simp; have := HB2.out.size; omega) (fun k hk => HW2.out.base k hk))
          obtain ⟨g3, cap3, rfl, _⟩ := hrow3.reads (by simp; omega)
          rw [List.length_append, List.length_singleton] at *
          clear hrow3 hg3
          go_wp2
          go_roundw
          case rel => exact ⟨d, x ++ [c], HR3, HFF, by simp; omega, by simp; omega, HB3, by simp [sliceLen]⟩
          case measure => simp [sliceLen]; omega
    · have hleb : decide (x.length ≤ 4) = false := decide_eq_false hle
      have hz : (0, false) = (r1, r2) := by
       rw [← HF.out]
       cases d with
       | zero => rfl
       | succ d => rw [filledFrom, if_neg hle]
      have HZ := Lib.hid hz
      clear hz
      go_wp2
      go_ret2
      have := HZ.out
      simp only [Prod.mk.injEq] at this
      obtain ⟨rfl, rfl⟩ := this
      exact ⟨rfl, HBw.out⟩
 · cases h
end Go.Proofs.YtkipkbggnfllkaaDoor.P
end
