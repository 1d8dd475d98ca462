/- What is proved here is used by the law's card: Pk0, Set, Num, Chars, Figures, FpctDigit, Fpctvalue, FpctTriplet, Vname, FvnameEnd, FvnameBad, Utf, AnyAt, RowM, Filled, Fucsends, Ucs, FucsFits, FucsMay, FucsTake, PctOne, Ftmplpiece, Ftmplpieces, Q4. -/
import Derived.Test.YtkipkbggnfllkaaGreatDoorCa0
import Derived.Test.YtkipkbggnfllkaaGreatDoorProg
import Derived.Below
import Derived.Deep.Draws
import Derived.Deep.AppendLies
import Derived.Maps.AppendAt
import Derived.OwnWalk
import Derived.Laws.BytesArg
import Derived.Laws.MakeOwn
import Derived.Laws.OwnMore
import Derived.Deep.OwnRows
import Derived.Tactics
import Derived.Lib.ConvBytes
import Derived.Laws.Slices
import Derived.WalkKit
import Derived.KernelRfl
import Derived.RowKit3
import Derived.Deep.LoopGhost
import Derived.Deep.QuietTactic
import Derived.BigQuiet
import Derived.WideLaws
import Derived.Deep.DeepCutAuto
import Derived.Deep.CutBlock
import Derived.Deep.RegionHeld3
import Derived.Laws.Rows
import Derived.Lib.AppendStr
import Derived.ArgAppend
import Derived.Laws.IdiomCopy
import Derived.OrdersHeld
import Derived.Laws.BitsLemmas
import Derived.RowKit
import Derived.Laws.BitsAllLaws
import Derived.RegionTactic
import Derived.ChangeAlike
import Derived.BigRegion
import Derived.Laws.NewBlocks
import Derived.Lib.Hide
import Derived.Outline
import Derived.WalkMore
import Derived.Lib.QuietBelow
import Derived.Lib.OthersKept
import Derived.WalkLawsBesides
import Derived.OneCell
import Derived.Deep.DeepMust
import Derived.Lib.FrozenHead2
section
namespace Go.Proofs.YtkipkbggnfllkaaGreatDoor.P
open Go.RowKit Go.Proofs.YtkipkbggnfllkaaGreatDoorW.PrintWords Go.Proofs.YtkipkbggnfllkaaGreatDoorW.PrintLast Go.Proofs.YtkipkbggnfllkaaGreatDoorW.PrintMore
attribute [local go_sem] max2_int min2_int max_two min_two max_three min_three max_four min_four
set_option linter.unusedVariables false
set_option linter.unusedSimpArgs false
theorem info41 : (Tryz.prog.info? 41).map (fun i => (i.zero, i.size, i.bytes)) = some (some (.agg #[(.string ⟨#[]⟩), (.int .u8 0), (.slice none 0 0)]), 3, 48) := by kernel_rfl
theorem info43 : (Tryz.prog.info? 43).map (fun i => (i.zero, i.size, i.bytes)) = some (some (.agg #[(.string ⟨#[]⟩), (.int .i64 0), (.bool false)]), 3, 32) := by kernel_rfl
structure S43 where
 f0 : ByteArray
 f1 : Int
 f2 : Bool
def z43 : S43 := ⟨(⟨#[]⟩ : ByteArray), (0 : Int), false⟩
def k43 : Kd S43 := Kd.iso (Kd.pair Kd.string (Kd.pair (Kd.int .i64) Kd.bool)) (fun x : S43 => (x.f0, x.f1, x.f2))
theorem k43_open {w : World} {x : S43} {cs : List Value} (h : k43.K w x cs) : cs = [.string x.f0, .int .i64 x.f1, .bool x.f2] := by
 obtain ⟨_, _, rfl, rfl, ⟨_, _, rfl, rfl, rfl⟩⟩ := h
 exact rfl
theorem k43_mkM (w : World) (base : Nat) (ok : Nat → Prop) (x : S43)  : k43.M w base ok x [.string x.f0, .int .i64 x.f1, .bool x.f2] := ⟨[.string x.f0], [.int .i64 x.f1, .bool x.f2], rfl, rfl, ⟨[.int .i64 x.f1], [.bool x.f2], rfl, rfl, rfl⟩⟩
def rd_T43 (xs : List S43) (i : Int) : S43 := xs.getD i.toNat z43
theorem at_T43 {w : World} {A : Option Addr} {n : Nat} {xs : List S43} (h : Kd.C k43 w A n xs) (i : Int) (h0 : 0 ≤ i) (h1 : i < n) : ∃ ad , A = some ad ∧ w.cell? (ad.add (i.toNat * 3)) = some (.string (rd_T43 xs i).f0) ∧ w.cell? ⟨(ad.add (i.toNat * 3)).block, (ad.add (i.toNat * 3)).off + 1, none⟩ = some (.int .i64 (rd_T43 xs i).f1) ∧ w.cell? ⟨(ad.add (i.toNat * 3)).block, (ad.add (i.toNat * 3)).off + 2, none⟩ = some (.bool (rd_T43 xs i).f2) := by
 obtain ⟨ad, c, e, _, hK, hc0⟩ := Kd.C_get h z43 i h0 h1
 have hc : ∀ j u, c[j]? = some u → w.cell? (ad.add (i.toNat * 3 + j)) = some u := hc0
 obtain rfl := k43_open hK
 exact ⟨ad, e, hc 0 _ rfl, by rw [← add_field _ _ 1 (by omega)]; exact hc 1 _ rfl, by rw [← add_field _ _ 2 (by omega)]; exact hc 2 _ rfl⟩
structure S41 where
 f0 : ByteArray
 f1 : Int
 f2 : (List S43)
def z41 : S41 := ⟨(⟨#[]⟩ : ByteArray), (0 : Int), ([] : List S43)⟩
def k41 : Kd S41 := Kd.iso (Kd.pair Kd.string (Kd.pair (Kd.int .u8) (Kd.slice 43 k43))) (fun x : S41 => (x.f0, x.f1, x.f2))
theorem k41_open {w : World} {x : S41} {cs : List Value} (h : k41.K w x cs) : ∃ A2 c2, cs = [.string x.f0, .int .u8 x.f1, .slice A2 x.f2.length c2] ∧ x.f2.length ≤ c2 ∧ k43.C w A2 x.f2.length x.f2 := by
 obtain ⟨_, _, rfl, rfl, ⟨_, _, rfl, rfl, ⟨A2, c2, rfl, l2, g2⟩⟩⟩ := h
 exact ⟨A2, c2, rfl, l2, g2⟩
theorem k41_openM {w : World} {base : Nat} {ok : Nat → Prop} {x : S41} {cs : List Value} (h : k41.M w base ok x cs) : ∃ v2, cs = [.string x.f0, .int .u8 x.f1, v2] ∧ k43.R 43 w base ok v2 x.f2 := by
 obtain ⟨_, _, rfl, rfl, ⟨_, _, rfl, rfl, ⟨v2, rfl, g2⟩⟩⟩ := h
 exact ⟨v2, rfl, g2⟩
theorem k41_mkM (w : World) (base : Nat) (ok : Nat → Prop) (x : S41) {v2 : Value} (g2 : k43.R 43 w base ok v2 x.f2) : k41.M w base ok x [.string x.f0, .int .u8 x.f1, v2] := ⟨[.string x.f0], [.int .u8 x.f1, v2], rfl, rfl, ⟨[.int .u8 x.f1], [v2], rfl, rfl, ⟨v2, rfl, g2⟩⟩⟩
def rd_T41 (xs : List S41) (i : Int) : S41 := xs.getD i.toNat z41
theorem at_T41 {w : World} {A : Option Addr} {n : Nat} {xs : List S41} (h : Kd.C k41 w A n xs) (i : Int) (h0 : 0 ≤ i) (h1 : i < n) : ∃ ad A2 c2, A = some ad ∧ w.cell? (ad.add (i.toNat * 3)) = some (.string (rd_T41 xs i).f0) ∧ w.cell? ⟨(ad.add (i.toNat * 3)).block, (ad.add (i.toNat * 3)).off + 1, none⟩ = some (.int .u8 (rd_T41 xs i).f1) ∧ w.cell? ⟨(ad.add (i.toNat * 3)).block, (ad.add (i.toNat * 3)).off + 2, none⟩ = some (.slice A2 (rd_T41 xs i).f2.length c2) ∧ (rd_T41 xs i).f2.length ≤ c2 ∧ k43.C w A2 (rd_T41 xs i).f2.length (rd_T41 xs i).f2 := by
 obtain ⟨ad, c, e, _, hK, hc0⟩ := Kd.C_get h z41 i h0 h1
 have hc : ∀ j u, c[j]? = some u → w.cell? (ad.add (i.toNat * 3 + j)) = some u := hc0
 obtain ⟨A2, c2, rfl, l2, g2⟩ := k41_open hK
 exact ⟨ad, A2, c2, e, hc 0 _ rfl, by rw [← add_field _ _ 1 (by omega)]; exact hc 1 _ rfl, by rw [← add_field _ _ 2 (by omega)]; exact hc 2 _ rfl, l2, g2⟩
end Go.Proofs.YtkipkbggnfllkaaGreatDoor.P
end
section
namespace Go.Proofs.YtkipkbggnfllkaaGreatDoor.P
open Go.RowKit
def wordN (P : Nat → Bool) : Nat → Nat
 | 0 => 0
 | n + 1 => wordN P n ||| if P n then 2 ^ n else 0
theorem wordN_lt (P : Nat → Bool) (n : Nat) : wordN P n < 2 ^ n := by
 induction n with
 | zero => simp [wordN]
 | succ n ih =>
  simp only [wordN]
  refine Nat.or_lt_two_pow (by omega) ?_
  split
  · exact Nat.pow_lt_pow_right (by omega) (by omega)
  · exact Nat.two_pow_pos _
theorem testBit_wordN (P : Nat → Bool) (n j : Nat) : (wordN P n).testBit j = (decide (j < n) && P j) := by
 induction n with
 | zero => simp [wordN]
 | succ n ih =>
  simp only [wordN, Nat.testBit_or, ih]
  by_cases hp : P n
  · rw [if_pos hp, Nat.testBit_two_pow]
    by_cases e : n = j
    · subst e; simp [hp]
    · by_cases h : j < n
      · simp [h, show j < n + 1 by omega, e]
      · simp [h, show ¬ j < n + 1 by omega, e]
  · rw [if_neg hp, Nat.zero_testBit]
    by_cases e : n = j
    · subst e; simp [hp]
    · by_cases h : j < n
      · simp [h, show j < n + 1 by omega]
      · simp [h, show ¬ j < n + 1 by omega]
theorem wordN_ext {P Q : Nat → Bool} (n : Nat) (h : ∀ j, j < n → P j = Q j) : wordN P n = wordN Q n := by
 apply Nat.eq_of_testBit_eq
 intro j
 rw [testBit_wordN, testBit_wordN]
 by_cases hj : j < n
 · rw [h j hj]
 · simp [hj]
def wd (P : Nat → Bool) (i : Nat) : Int := (wordN (fun j => P (64 * i + j)) 64 : Nat)
theorem wd_lo (P : Nat → Bool) (i : Nat) : 0 ≤ wd P i := by unfold wd; omega
theorem wd_hi (P : Nat → Bool) (i : Nat) : wd P i < 18446744073709551616 := by
 have := wordN_lt (fun j => P (64 * i + j)) 64
 unfold wd; omega
theorem wd_ext {P Q : Nat → Bool} (i : Nat) (h : ∀ j, j < 64 → P (64 * i + j) = Q (64 * i + j)) : wd P i = wd Q i := by
 unfold wd; rw [wordN_ext 64 h]
theorem wd_or (P Q : Nat → Bool) (i : Nat) : Go.bits .or .u64 (wd P i) (wd Q i) = wd (fun j => P j || Q j) i := by
 rw [u64_or _ _ (wd_lo P i) (wd_hi P i) (wd_lo Q i) (wd_hi Q i)]
 unfold wd
 simp only [Int.toNat_natCast]
 congr 1
 apply Nat.eq_of_testBit_eq
 intro j
 rw [Nat.testBit_or, testBit_wordN, testBit_wordN, testBit_wordN]
 cases decide (j < 64) <;> simp
theorem testBit_compl (n j : Nat) (h : n < 2 ^ 64) : (18446744073709551615 - n).testBit j = (decide (j < 64) && !n.testBit j) := by
 have := @Nat.testBit_two_pow_sub_succ n 64 h j
 rw [← this, show 2 ^ 64 - (n + 1) = 18446744073709551615 - n by omega]
theorem wd_andNot (P Q : Nat → Bool) (i : Nat) : Go.bits .andNot .u64 (wd P i) (wd Q i) = wd (fun j => P j && !Q j) i := by
 rw [u64_andNot _ _ (wd_lo P i) (wd_hi P i) (wd_lo Q i) (wd_hi Q i)]
 unfold wd
 simp only [Int.toNat_natCast]
 congr 1
 apply Nat.eq_of_testBit_eq
 intro j
 rw [Nat.testBit_and, testBit_compl _ _ (wordN_lt _ _), testBit_wordN, testBit_wordN, testBit_wordN]
 cases decide (j < 64) <;> simp
theorem wd_add (P : Nat → Bool) (c : Int) (h0 : 0 ≤ c) : Go.bits .or .u64 (wd P (c / 64).toNat) (IntKind.u64.wrap (2 ^ (c % 64).toNat)) = wd (fun j => P j || j == c.toNat) (c / 64).toNat := by
 have hk : (c % 64).toNat < 64 := by omega
 have e : IntKind.u64.wrap (2 ^ (c % 64).toNat) = wd (fun j => j == c.toNat) (c / 64).toNat := by
  have e1 : wordN (fun j => 64 * (c / 64).toNat + j == c.toNat) 64 = 2 ^ (c % 64).toNat := by
   apply Nat.eq_of_testBit_eq
   intro j
   rw [testBit_wordN, Nat.testBit_two_pow]
   by_cases e : (c % 64).toNat = j
   · subst e; simp [hk]; omega
   · by_cases h : j < 64
     · simp [h, e]; omega
     · simp [h, e]
  unfold wd
  rw [e1]
  have hl : (2 : Nat) ^ (c % 64).toNat < 2 ^ 64 := Nat.pow_lt_pow_right (by omega) hk
  generalize (c % 64).toNat = k at hl ⊢
  have : ((2 : Int) ^ k) = ((2 ^ k : Nat) : Int) := by simp
  rw [this]
  generalize 2 ^ k = q at hl ⊢
  simp [IntKind.wrap, IntKind.bits, IntKind.signed]
  omega
 rw [e, wd_or]
theorem wd_has (P : Nat → Bool) (c : Int) (h0 : 0 ≤ c) : (Go.bits .and .u64 (wd P (c / 64).toNat / 2 ^ (c % 64).toNat) 1 == 1) = P c.toNat := by
 have hk : (c % 64).toNat < 64 := by omega
 have hl := wd_lo P (c / 64).toNat
 have hh := wd_hi P (c / 64).toNat
 have e2 : wd P (c / 64).toNat / 2 ^ (c % 64).toNat = ((wordN (fun j => P (64 * (c / 64).toNat + j)) 64 / 2 ^ (c % 64).toNat : Nat) : Int) := by
  unfold wd; simp
 have hb := wordN_lt (fun j => P (64 * (c / 64).toNat + j)) 64
 have hd := Nat.div_le_self (wordN (fun j => P (64 * (c / 64).toNat + j)) 64) (2 ^ (c % 64).toNat)
 have ht := testBit_wordN (fun j => P (64 * (c / 64).toNat + j)) 64 (c % 64).toNat
 rw [show 64 * (c / 64).toNat + (c % 64).toNat = c.toNat by omega, Nat.testBit_eq_decide_div_mod_eq] at ht
 rw [e2]
 clear e2 hl hh
 generalize wordN (fun j => P (64 * (c / 64).toNat + j)) 64 / 2 ^ (c % 64).toNat = q at *
 rw [u64_and _ _ (by omega) (by omega) (by omega) (by omega)]
 simp only [Int.toNat_natCast]
 rw [show (1 : Int).toNat = 1 from rfl, nat_mask1]
 simp only [hk, decide_true, Bool.true_and] at ht
 rw [← ht]
 by_cases hq : q % 2 = 1
 · simp [hq]
 · have : q % 2 = 0 := by omega
   simp [this]
def setV (P : Nat → Bool) : Value := .agg #[.int .u64 (wd P 0), .int .u64 (wd P 1), .int .u64 (wd P 2), .int .u64 (wd P 3)]
theorem setV_ext {P Q : Nat → Bool} (h : ∀ j, j < 256 → P j = Q j) : setV P = setV Q := by
 unfold setV
 rw [wd_ext 0 (fun j hj => h _ (by omega)), wd_ext 1 (fun j hj => h _ (by omega)), wd_ext 2 (fun j hj => h _ (by omega)), wd_ext 3 (fun j hj => h _ (by omega))]
theorem wd_empty (i : Nat) : wd (fun _ => false) i = 0 := by
 have : ∀ n, wordN (fun _ => false) n = 0 := by
  intro n
  induction n with
  | zero => rfl
  | succ n ih => simp [wordN, ih]
 unfold wd; rw [this]; rfl
end Go.Proofs.YtkipkbggnfllkaaGreatDoor.P
end
section
namespace Go.Proofs.YtkipkbggnfllkaaGreatDoor.P
def inText (s : ByteArray) (j : Nat) : Bool := s.data.toList.any fun b => b.toNat == j
def isDigit (j : Nat) : Bool := decide (48 ≤ (j : Int)) && decide ((j : Int) ≤ 57)
def isUpper (j : Nat) : Bool := decide (65 ≤ (j : Int)) && decide ((j : Int) ≤ 90)
def isLower (j : Nat) : Bool := decide (97 ≤ (j : Int)) && decide ((j : Int) ≤ 122)
def isAF (j : Nat) : Bool := decide (65 ≤ (j : Int)) && decide ((j : Int) ≤ 70)
def isaf (j : Nat) : Bool := decide (97 ≤ (j : Int)) && decide ((j : Int) ≤ 102)
def isAlpha (j : Nat) : Bool := isUpper j || isLower j
def isHex (j : Nat) : Bool := isDigit j || isAF j || isaf j
def isWord (j : Nat) : Bool := isAlpha j || isDigit j || 95 == j
def isLit (j : Nat) : Bool := (decide (33 ≤ (j : Int)) && decide ((j : Int) ≤ 126)) && !inText ⟨#[34, 39, 37, 60, 62, 92, 94, 96, 123, 124, 125]⟩ j
def spanLo (k : Nat) : Int := if k = 0 then 160 else if k = 1 then 57344 else if k = 2 then 65008 else if k = 16 then 921600 else ((k - 2 : Nat) : Int) * 65536
def spanHi (k : Nat) : Int := if k = 0 then 55295 else if k = 1 then 64975 else if k = 2 then 65519 else ((k - 2 : Nat) : Int) * 65536 + 65533
def meetsFrom (low high : Int) : Nat → Nat → Bool
 | 0, _ => false
 | d + 1, k => (decide (low ≤ spanHi k) && decide (high ≥ spanLo k)) || meetsFrom low high d (k + 1)
end Go.Proofs.YtkipkbggnfllkaaGreatDoor.P
end
section
namespace Go.Proofs.YtkipkbggnfllkaaGreatDoor.P
open Go.RowKit Go.Proofs.YtkipkbggnfllkaaGreatDoorW.PrintWords Go.Proofs.YtkipkbggnfllkaaGreatDoorW.PrintLast Go.Proofs.YtkipkbggnfllkaaGreatDoorW.PrintMore
structure SetAt (w : World) (g : Nat) (P : Nat → Bool) : Prop where
 cell : ∀ i, i < 4 → w.cell? ⟨g, i, none⟩ = some (.int .u64 (wd P i))
 free : ∀ i, i < 4 → w.frozen? ⟨g, i, none⟩ = false
set_option maxHeartbeats 400000 in
theorem Set_add.calls (P : Nat → Bool) (c : Int) (h0 : 0 ≤ c) (h1 : c ≤ 255) (g : Nat) (w : World) (hs : SetAt w g P) :
 Calls Tryz.prog 97 #[.pointer (some ⟨g, 0, none⟩), .int .u8 c] w fun e w' => e = .returned (.tuple #[]) ∧ SetAt w' g (fun j => P j || j == c.toNat) ∧ w.grownBy w' (some g) ∧ w'.heap.size = w.heap.size := by
 have hc := hs.cell (c / 64).toNat (by omega)
 have hf := hs.free (c / 64).toNat (by omega)
 have h2 : 0 ≤ c / 64 := by omega
 have h3 : c / 64 < 4 := by omega
 have h4 : 0 ≤ c % 64 := by omega
 have h5 : c % 64 < 64 := by omega
 have K := Lib.hid hs
 clear hs
 go_enter Tryz.func97, Tryz.ntmps97
 go_wp2
 go_region
 go_end0
 rw [wd_add P c h0]
 have hs := K.out
 refine ⟨rfl, ⟨fun i hi => ?_, fun i hi => ?_⟩, ⟨rfl, rfl, rfl, by simp [World.drew], fun k _ hk => ?_⟩, by simp [World.drew]⟩
 · show (w.setCell _ _).cell? _ = _
   by_cases e : i = (c / 64).toNat
   · subst e
     rw [World.cell?_setCell_same _ _ _ hc]
   · rw [World.cell?_setCell_other _ _ _ _ (fun h => e (by injection h with _ h2 _; exact h2.symm)), hs.cell i hi]
     rw [wd_ext i fun j hj => ?_]
     have : ¬ (64 * i + j = c.toNat) := by omega
     simp [this]
 · show (w.setCell _ _).frozen? _ = _
   rw [World.frozen?_setCell, hs.free i hi]
 · show (w.setCell _ _).heap[k]? = _
   exact heap_setCell_other w _ k _ (fun e => hk (by rw [e]))
theorem SetAt.new (W : World) : SetAt (W.alloc (.cells #[.int .u64 0, .int .u64 0, .int .u64 0, .int .u64 0] 84)) W.heap.size (fun _ => false) := by
 refine ⟨fun i hi => ?_, fun i hi => ?_⟩
 · rw [wd_empty]
   have : i = 0 ∨ i = 1 ∨ i = 2 ∨ i = 3 := by omega
   rcases this with rfl | rfl | rfl | rfl <;> simp [go_sem]
 · have : i = 0 ∨ i = 1 ∨ i = 2 ∨ i = 3 := by omega
   rcases this with rfl | rfl | rfl | rfl <;> simp [go_sem]
theorem SetAt.lt {w : World} {g : Nat} {P : Nat → Bool} (h : SetAt w g P) : g < w.heap.size := World.block_lt_of_cell? w _ (h.cell 0 (by omega))
theorem SetAt.kept {w w' : World} {g : Nat} {P : Nat → Bool} (h : SetAt w g P) (hb : w'.heap[g]? = w.heap[g]?) : SetAt w' g P :=
 ⟨fun i hi => by have := h.cell i hi; unfold World.cell? at this ⊢; rw [hb]; exact this, fun i hi => by have := h.free i hi; unfold World.frozen? at this ⊢; rw [hb]; exact this⟩
theorem SetAt.alloc {w : World} {g : Nat} {P : Nat → Bool} (h : SetAt w g P) (o : Obj) : SetAt (w.alloc o) g P :=
 h.kept (heap_alloc_old w o h.lt)
structure Two (w wr : World) (P : Nat → Bool) : Prop where
 s : SetAt wr (w.heap.size + 1) P
 r : SetAt wr w.heap.size (fun _ => false)
 b : Below w.heap.size w wr
 z : wr.heap.size = w.heap.size + 2
theorem Two.add {w wr w1 : World} {P Q : Nat → Bool} (h : Two w wr P) (hs : SetAt w1 (w.heap.size + 1) Q) (hg : wr.grownBy w1 (some (w.heap.size + 1))) (hz : w1.heap.size = wr.heap.size) : Two w w1 Q :=
 ⟨hs, h.r.kept (hg.block _ h.r.lt (by simp)), h.b.grown hg h.b.size (fun k e => by cases e; omega), by rw [hz, h.z]⟩
theorem Two.new (w : World) : Two w ((w.alloc (.cells #[.int .u64 0, .int .u64 0, .int .u64 0, .int .u64 0] 84)).alloc (.cells #[.int .u64 0, .int .u64 0, .int .u64 0, .int .u64 0] 84)) (fun _ => false) :=
 ⟨by have := SetAt.new (w.alloc (.cells #[.int .u64 0, .int .u64 0, .int .u64 0, .int .u64 0] 84)); simpa using this, (SetAt.new w).alloc _, ((Below.refl _ _).alloc (Nat.le_refl _) _).alloc (by simp) _, by simp⟩
theorem Two.done {w wr : World} {P : Nat → Bool} (h : Two w wr P) : ∀ a b c d : Value, Below w.heap.size w ((((wr.setCell ⟨w.heap.size, 0, none⟩ a).setCell ⟨w.heap.size, 1, none⟩ b).setCell ⟨w.heap.size, 2, none⟩ c).setCell ⟨w.heap.size, 3, none⟩ d) := fun a b c d =>
 (((h.b.setCell (Nat.le_refl _) a).setCell (Nat.le_refl _) b).setCell (Nat.le_refl _) c).setCell (Nat.le_refl _) d
set_option maxHeartbeats 400000 in
theorem chars_Range.calls (lo hi : Int) (h0 : 0 ≤ lo) (h1 : lo ≤ 255) (h2 : 0 ≤ hi) (h3 : hi ≤ 255) (w : World) :
 Calls Tryz.prog 79 #[.int .u8 lo, .int .u8 hi] w fun e w' => e = .returned (setV fun j => decide (lo ≤ j) && decide ((j : Int) ≤ hi)) ∧ Below w.heap.size w w' := by
 go_enter Tryz.func79, Tryz.ntmps79
 go_wp2
 go_loopw [6] (fun i wr => ∃ k : Int, lo ≤ k ∧ k ≤ 256 ∧ (k ≤ hi + 1 ∨ k = lo) ∧ i = .int .i64 k ∧ Hid (Two w wr (fun j => decide (lo ≤ j) && decide ((j : Int) < k)))) (fun i _ => (256 - intOf i).toNat)
 case atStart =>
  refine ⟨lo, by omega, by omega, .inr rfl, rfl, Lib.hid ?_⟩
  have e : (fun j : Nat => decide (lo ≤ j) && decide ((j : Int) < lo)) = fun _ => false := by funext j; by_cases h : lo ≤ (j : Int) <;> simp [h]
  rw [e]
  exact Two.new w
 case round =>
  obtain ⟨k, hk0, hk1, hk2, rfl, HT⟩ := hrel
  by_cases hlt : k ≤ hi
  · go_wp2_with fail
    refine (Set_add.calls _ k (by omega) (by omega) _ _ HT.out.s).mono ?_
    rintro e w' ⟨rfl, hs, hg, hz⟩
    have HT1 := Lib.hid (HT.out.add hs hg hz)
    clear hs hg hz HT
    go_wp2
    go_roundw
    case rel =>
     refine ⟨k + 1, by omega, by omega, by omega, by go_num, Lib.hid ?_⟩
     have e : (fun j : Nat => (decide (lo ≤ j) && decide ((j : Int) < k)) || j == k.toNat) = fun j : Nat => decide (lo ≤ j) && decide ((j : Int) < k + 1) := by
      funext j
      by_cases e : j = k.toNat
      · subst e; simp; omega
      · by_cases h : (j : Int) < k
        · simp [h, e, show (j : Int) < k + 1 by omega]
        · simp [h, e, show ¬ (j : Int) < k + 1 by omega]
     have h := HT1.out
     rw [e] at h
     exact h
    case measure => simp [intOf]; omega
  · have e : setV (fun j => decide (lo ≤ j) && decide ((j : Int) < k)) = setV fun j => decide (lo ≤ j) && decide ((j : Int) ≤ hi) := by
     apply setV_ext
     intro j hj
     by_cases h1 : lo ≤ (j : Int) <;> by_cases h2 : (j : Int) < k <;> by_cases h3 : (j : Int) ≤ hi <;> simp [h1, h2, h3] <;> omega
    have E := Lib.hid e
    clear e
    obtain ⟨P, hP⟩ : ∃ P : Nat → Bool, P = fun j : Nat => decide (lo ≤ j) && decide ((j : Int) < k) := ⟨_, rfl⟩
    rw [← hP] at HT E
    clear hP
    have c0 := HT.out.s.cell 0 (by omega)
    have c1 := HT.out.s.cell 1 (by omega)
    have c2 := HT.out.s.cell 2 (by omega)
    have c3 := HT.out.s.cell 3 (by omega)
    have r0 := HT.out.r.cell 0 (by omega)
    have r1 := HT.out.r.cell 1 (by omega)
    have r2 := HT.out.r.cell 2 (by omega)
    have r3 := HT.out.r.cell 3 (by omega)
    have f0 := HT.out.r.free 0 (by omega)
    have f1 := HT.out.r.free 1 (by omega)
    have f2 := HT.out.r.free 2 (by omega)
    have f3 := HT.out.r.free 3 (by omega)
    go_wp2
    refine bodyPost_ret (v := setV P) ?_ rfl ⟨by rw [E.out], HT.out.done _ _ _ _⟩
    simp [results, Tryz.results79, go_sem, setV, r0, r1, r2, r3]
set_option maxHeartbeats 400000 in
theorem chars_Of.calls (s : ByteArray) (hs : s.size ≤ 9223372036854775807) (w : World) :
 Calls Tryz.prog 95 #[.string s] w fun e w' => e = .returned (setV (inText s)) ∧ Below w.heap.size w w' := by
 go_enter Tryz.func95, Tryz.ntmps95
 go_wp2
 go_loopw [4, 7] (fun _ i wr => ∃ k : Nat, k ≤ s.size ∧ i = .int .i64 k ∧ Hid (Two w wr (fun j => (s.data.toList.take k).any fun b => b.toNat == j))) (fun _ i _ => s.size - (intOf i).toNat)
 case atStart => exact ⟨0, Nat.zero_le _, rfl, Lib.hid (Two.new w)⟩
 case round =>
  obtain ⟨k, hk, rfl, HT⟩ := hrel
  by_cases hlt : k < s.size
  · have hb : ((s[k]'hlt).toNat : Int) ≤ 255 := by have := (s[k]'hlt).toNat_lt; omega
    have hb0 : (0 : Int) ≤ ((s[k]'hlt).toNat : Int) := by omega
    go_wp2_with fail
    refine (Set_add.calls _ _ hb0 hb _ _ HT.out.s).mono ?_
    rintro e w' ⟨rfl, hs1, hg, hz⟩
    have HT1 := Lib.hid (HT.out.add hs1 hg hz)
    clear hs1 hg hz HT
    go_wp2
    go_roundw
    case rel =>
     refine ⟨k + 1, by omega, by go_num, Lib.hid ?_⟩
     have e : (fun j : Nat => ((s.data.toList.take k).any fun b => b.toNat == j) || j == ((s[k]'hlt).toNat : Int).toNat) = fun j : Nat => (s.data.toList.take (k + 1)).any fun b => b.toNat == j := by
      funext j
      have hl : k < s.data.toList.length := by simpa using hlt
      have e2 : s.data.toList[k] = s[k]'hlt := rfl
      rw [List.take_succ_eq_append_getElem hl, List.any_append, e2]
      simp only [List.any_cons, List.any_nil, Bool.or_false, Int.toNat_natCast]
      congr 1
      rw [Bool.eq_iff_iff]; simp; omega
     have h := HT1.out
     rw [e] at h
     exact h
    case measure => simp [intOf]; omega
  · have e : setV (fun j => (s.data.toList.take k).any fun b => b.toNat == j) = setV (inText s) := by
     have : s.data.toList.take k = s.data.toList := List.take_of_length_le (by simp; have : s.data.size = s.size := rfl; omega)
     rw [this]; rfl
    have E := Lib.hid e
    clear e
    obtain ⟨P, hP⟩ : ∃ P : Nat → Bool, P = fun j : Nat => (s.data.toList.take k).any fun b => b.toNat == j := ⟨_, rfl⟩
    rw [← hP] at HT E
    clear hP
    have c0 := HT.out.s.cell 0 (by omega)
    have c1 := HT.out.s.cell 1 (by omega)
    have c2 := HT.out.s.cell 2 (by omega)
    have c3 := HT.out.s.cell 3 (by omega)
    have r0 := HT.out.r.cell 0 (by omega)
    have r1 := HT.out.r.cell 1 (by omega)
    have r2 := HT.out.r.cell 2 (by omega)
    have r3 := HT.out.r.cell 3 (by omega)
    have f0 := HT.out.r.free 0 (by omega)
    have f1 := HT.out.r.free 1 (by omega)
    have f2 := HT.out.r.free 2 (by omega)
    have f3 := HT.out.r.free 3 (by omega)
    go_wp2
    refine bodyPost_ret (v := setV P) ?_ rfl ⟨by rw [E.out], HT.out.done _ _ _ _⟩
    simp [results, Tryz.results95, go_sem, setV, r0, r1, r2, r3]
structure Four (w : World) (g : Nat) (x : Nat → Int) : Prop where
 cell : ∀ i, i < 4 → w.cell? ⟨g, i, none⟩ = some (.int .u64 (x i))
 free : ∀ i, i < 4 → w.frozen? ⟨g, i, none⟩ = false
theorem Four.set {w : World} {g : Nat} {x : Nat → Int} (h : Four w g x) (k : Nat) (y : Int) : Four (w.setCell ⟨g, k, none⟩ (.int .u64 y)) g (fun i => if i = k then y else x i) := by
 refine ⟨fun i hi => ?_, fun i hi => by rw [World.frozen?_setCell]; exact h.free i hi⟩
 by_cases e : i = k
 · subst e
   rw [World.cell?_setCell_same _ _ _ (h.cell i hi), if_pos rfl]
 · rw [World.cell?_setCell_other _ _ _ _ (fun q => e (by injection q with _ h2 _; exact h2.symm)), h.cell i hi, if_neg e]
theorem Four.congr {w : World} {g : Nat} {x y : Nat → Int} (h : Four w g x) (e : ∀ i, i < 4 → x i = y i) : Four w g y :=
 ⟨fun i hi => by rw [h.cell i hi, e i hi], h.free⟩
theorem Four.lt {w : World} {g : Nat} {x : Nat → Int} (h : Four w g x) : g < w.heap.size := World.block_lt_of_cell? w _ (h.cell 0 (by omega))
theorem Four.kept {w w' : World} {g : Nat} {x : Nat → Int} (h : Four w g x) (hb : w'.heap[g]? = w.heap[g]?) : Four w' g x :=
 ⟨fun i hi => by have := h.cell i hi; unfold World.cell? at this ⊢; rw [hb]; exact this, fun i hi => by have := h.free i hi; unfold World.frozen? at this ⊢; rw [hb]; exact this⟩
theorem Four.alloc {w : World} {g : Nat} {x : Nat → Int} (h : Four w g x) (o : Obj) : Four (w.alloc o) g x := h.kept (heap_alloc_old w o h.lt)
theorem Four.other {w : World} {g g' : Nat} {x : Nat → Int} (h : Four w g x) (k : Nat) (v : Value) (hne : g ≠ g') : Four (w.setCell ⟨g', k, none⟩ v) g x := h.kept (heap_setCell_other w _ g v hne)
theorem Four.new (W : World) (a b c d : Int) (t : TypeId) : Four (W.alloc (.cells #[.int .u64 a, .int .u64 b, .int .u64 c, .int .u64 d] t)) W.heap.size (fun i => if i = 0 then a else if i = 1 then b else if i = 2 then c else d) := by
 refine ⟨fun i hi => ?_, fun i hi => ?_⟩
 · have : i = 0 ∨ i = 1 ∨ i = 2 ∨ i = 3 := by omega
   rcases this with rfl | rfl | rfl | rfl <;> simp [go_sem]
 · have : i = 0 ∨ i = 1 ∨ i = 2 ∨ i = 3 := by omega
   rcases this with rfl | rfl | rfl | rfl <;> simp [go_sem]
theorem Four.newP (W : World) (P : Nat → Bool) (t : TypeId) : Four (W.alloc (.cells #[.int .u64 (wd P 0), .int .u64 (wd P 1), .int .u64 (wd P 2), .int .u64 (wd P 3)] t)) W.heap.size (wd P) :=
 (Four.new W _ _ _ _ t).congr fun i hi => by
  have : i = 0 ∨ i = 1 ∨ i = 2 ∨ i = 3 := by omega
  rcases this with rfl | rfl | rfl | rfl <;> simp
def mixed (k : Nat) (P Q : Nat → Bool) (i : Nat) : Int := if i < k then wd P i else wd Q i
theorem index_word (Q : Nat → Bool) (k : Nat) (hk : k < 4) (W : World) :
 (Instr.index 84 (.agg #[.int .u64 (wd Q 0), .int .u64 (wd Q 1), .int .u64 (wd Q 2), .int .u64 (wd Q 3)]) (.int .i64 (k : Int))).run Tryz.prog W = .ok (.int .u64 (wd Q k)) W := by
 have i0 : ∀ (a b c d : Value) (W : World), (Instr.index 84 (.agg #[a, b, c, d]) (.int .i64 0)).run Tryz.prog W = .ok a W := fun a b c d W => by kernel_rfl
 have i1 : ∀ (a b c d : Value) (W : World), (Instr.index 84 (.agg #[a, b, c, d]) (.int .i64 1)).run Tryz.prog W = .ok b W := fun a b c d W => by kernel_rfl
 have i2 : ∀ (a b c d : Value) (W : World), (Instr.index 84 (.agg #[a, b, c, d]) (.int .i64 2)).run Tryz.prog W = .ok c W := fun a b c d W => by kernel_rfl
 have i3 : ∀ (a b c d : Value) (W : World), (Instr.index 84 (.agg #[a, b, c, d]) (.int .i64 3)).run Tryz.prog W = .ok d W := fun a b c d W => by kernel_rfl
 have : k = 0 ∨ k = 1 ∨ k = 2 ∨ k = 3 := by omega
 rcases this with rfl | rfl | rfl | rfl
 · exact i0 _ _ _ _ W
 · exact i1 _ _ _ _ W
 · exact i2 _ _ _ _ W
 · exact i3 _ _ _ _ W
structure Sub (w wr : World) (x : Nat → Int) : Prop where
 s : Four wr w.heap.size x
 r : Four wr (w.heap.size + 2) (fun _ => 0)
 b : Below w.heap.size w wr
theorem Sub.set {w wr : World} {x : Nat → Int} (h : Sub w wr x) (k : Nat) (y : Int) : Sub w (wr.setCell ⟨w.heap.size, k, none⟩ (.int .u64 y)) (fun i => if i = k then y else x i) :=
 ⟨h.s.set k y, h.r.other k _ (by omega), h.b.setCell (Nat.le_refl _) _⟩
set_option maxHeartbeats 800000 in
theorem chars_Minus.calls (P Q : Nat → Bool) (w : World) :
 Calls Tryz.prog 94 #[setV P, setV Q] w fun e w' => e = .returned (setV fun j => P j && !Q j) ∧ Below w.heap.size w w' := by
 unfold setV
 go_enter Tryz.func94, Tryz.ntmps94
 go_wp2
 go_loopw [5, 6, 8] (fun _ _ i wr => ∃ k : Nat, k ≤ 4 ∧ i = .int .i64 k ∧ Hid (Sub w wr (mixed k (fun j => P j && !Q j) P))) (fun _ _ i _ => 4 - (intOf i).toNat)
 case atStart =>
  refine ⟨0, Nat.zero_le _, rfl, Lib.hid ⟨?_, ?_, ?_⟩⟩
  · exact (((Four.newP w P _).alloc _).alloc _).congr fun i hi => by simp [mixed]
  · have := Four.new ((w.alloc (.cells #[.int .u64 (wd P 0), .int .u64 (wd P 1), .int .u64 (wd P 2), .int .u64 (wd P 3)] 84)).alloc (.cells #[.int .u64 (wd Q 0), .int .u64 (wd Q 1), .int .u64 (wd Q 2), .int .u64 (wd Q 3)] 84)) 0 0 0 0 84
    simp only [World.size_alloc] at this
    exact this.congr fun i hi => by simp
  · exact (((Below.refl _ _).alloc (Nat.le_refl _) _).alloc (by simp) _).alloc (by simp; omega) _
 case round =>
  obtain ⟨k, hk, rfl, HT⟩ := hrel
  by_cases hlt : k < 4
  · have hidx := index_word Q k hlt
    have c := HT.out.s.cell k hlt
    have f := HT.out.s.free k hlt
    rw [show mixed k (fun j => P j && !Q j) P k = wd P k by simp [mixed]] at c
    have hw := Lib.hid (wd_andNot P Q k)
    go_wp2
    rw [hw.out]
    go_roundw
    case rel =>
     refine ⟨k + 1, by omega, by go_num, Lib.hid ?_⟩
     have h := HT.out.set k (wd (fun j => P j && !Q j) k)
     refine ⟨h.s.congr fun i hi => ?_, h.r, h.b⟩
     unfold mixed
     by_cases e : i = k
     · subst e; simp
     · by_cases e2 : i < k
       · simp [e, e2, show i < k + 1 by omega]
       · simp [e, e2, show ¬ i < k + 1 by omega]
    case measure => simp [intOf]; omega
  · obtain rfl : k = 4 := by omega
    have c0 := HT.out.s.cell 0 (by omega)
    have c1 := HT.out.s.cell 1 (by omega)
    have c2 := HT.out.s.cell 2 (by omega)
    have c3 := HT.out.s.cell 3 (by omega)
    have r0 := HT.out.r.cell 0 (by omega)
    have r1 := HT.out.r.cell 1 (by omega)
    have r2 := HT.out.r.cell 2 (by omega)
    have r3 := HT.out.r.cell 3 (by omega)
    have f0 := HT.out.r.free 0 (by omega)
    have f1 := HT.out.r.free 1 (by omega)
    have f2 := HT.out.r.free 2 (by omega)
    have f3 := HT.out.r.free 3 (by omega)
    simp only [mixed] at c0 c1 c2 c3
    go_wp2
    refine bodyPost_ret (v := setV fun j => P j && !Q j) ?_ rfl ⟨rfl, (((HT.out.b.setCell (by simp; omega) _).setCell (by simp; omega) _).setCell (by simp; omega) _).setCell (by simp; omega) _⟩
    simp [results, Tryz.results94, go_sem, setV, r0, r1, r2, r3]
def SetsAt (w : World) (b : Nat) (Ps : List (Nat → Bool)) : Prop := ∀ i, i < Ps.length → ∀ j, j < 4 → w.cell? ⟨b, i * 4 + j, none⟩ = some (.int .u64 (wd (Ps.getD i fun _ => false) j))
def anyOf (Ps : List (Nat → Bool)) (j : Nat) : Bool := Ps.any fun P => P j
structure Uni (w wr : World) (x : Nat → Int) : Prop where
 s : Four wr (w.heap.size + 1) x
 r : Four wr w.heap.size (fun _ => 0)
 b : Below w.heap.size w wr
set_option maxHeartbeats 800000 in
theorem chars_Union.calls (b c : Nat) (Ps : List (Nat → Bool)) (hn : Ps.length ≤ 100) (w : World) (hp : SetsAt w b Ps) (hb : b < w.heap.size) :
 Calls Tryz.prog 77 #[.slice (some ⟨b, 0, none⟩) Ps.length c] w fun e w' => e = .returned (setV (anyOf Ps)) ∧ Below w.heap.size w w' := by
 have HP := Lib.hid hp
 clear hp
 go_enter Tryz.func77, Tryz.ntmps77
 go_wp2
 go_loopw [5, 6, 7, 10] (fun _ _ _ i wr => ∃ k : Nat, k ≤ Ps.length ∧ i = .int .i64 k ∧ Hid (Uni w wr (wd (anyOf (Ps.take k))))) (fun _ _ _ i _ => Ps.length - (intOf i).toNat)
 case atStart =>
  refine ⟨0, Nat.zero_le _, rfl, Lib.hid ⟨?_, ?_, ((Below.refl _ _).alloc (Nat.le_refl _) _).alloc (by simp) _⟩⟩
  · have := Four.new (w.alloc (.cells #[.int .u64 0, .int .u64 0, .int .u64 0, .int .u64 0] 84)) 0 0 0 0 84
    simp only [World.size_alloc] at this
    exact this.congr fun i hi => by rw [show (anyOf (Ps.take 0)) = fun _ => false from rfl, wd_empty]; simp
  · exact ((Four.new w 0 0 0 0 _).alloc _).congr fun i hi => by simp
 case round =>
  obtain ⟨k, hk, rfl, HT⟩ := hrel
  by_cases hlt : k < Ps.length
  · have c0 := (HT.out.b.cell (p := ⟨b, k * 4 + 0, none⟩) hb).trans (HP.out k hlt 0 (by omega))
    have c1 := (HT.out.b.cell (p := ⟨b, k * 4 + 1, none⟩) hb).trans (HP.out k hlt 1 (by omega))
    have c2 := (HT.out.b.cell (p := ⟨b, k * 4 + 2, none⟩) hb).trans (HP.out k hlt 2 (by omega))
    have c3 := (HT.out.b.cell (p := ⟨b, k * 4 + 3, none⟩) hb).trans (HP.out k hlt 3 (by omega))
    simp only [Nat.add_zero] at c0
    obtain ⟨R, hR⟩ : ∃ R, R = Ps.getD k fun _ => false := ⟨_, rfl⟩
    rw [← hR] at c0 c1 c2 c3
    have HR : Hid (anyOf (Ps.take (k + 1)) = fun j => anyOf (Ps.take k) j || R j) := Lib.hid (by
     funext j
     rw [hR, List.take_succ_eq_append_getElem hlt, List.getD_eq_getElem?_getD, List.getElem?_eq_getElem hlt]
     simp only [anyOf, List.any_append, List.any_cons, List.any_nil, Bool.or_false, Option.getD_some])
    clear hR
    obtain ⟨O, hO⟩ : ∃ O, O = anyOf (Ps.take k) := ⟨_, rfl⟩
    rw [← hO] at HT HR
    clear hO
    obtain ⟨wo, rfl⟩ : ∃ wo : World, wo = wr := ⟨_, rfl⟩
    go_wp2
    go_loopw [6, 7, 15] (fun _ _ i wr => ∃ q : Nat, q ≤ 4 ∧ i = .int .i64 q ∧ Hid (Uni w wr (mixed q (fun j => O j || R j) O))) (fun _ _ i _ => 4 - (intOf i).toNat)
    case atStart =>
     refine ⟨0, Nat.zero_le _, rfl, Lib.hid ⟨?_, HT.out.r.alloc _, HT.out.b.alloc HT.out.b.size _⟩⟩
     exact (HT.out.s.alloc _).congr fun i hi => by simp [mixed]
    case round =>
     obtain ⟨q, hq, rfl, HU⟩ := hrel
     by_cases hq4 : q < 4
     · have hidx := index_word R q hq4
       have c := HU.out.s.cell q hq4
       have f := HU.out.s.free q hq4
       rw [show mixed q (fun j => O j || R j) O q = wd O q by simp [mixed]] at c
       have hw := Lib.hid (wd_or O R q)
       go_wp2
       rw [hw.out]
       go_roundw
       case rel =>
        refine ⟨q + 1, by omega, by go_num, Lib.hid ⟨(HU.out.s.set q (wd (fun j => O j || R j) q)).congr fun i hi => ?_, HU.out.r.other q _ (by omega), HU.out.b.setCell (by simp) _⟩⟩
        unfold mixed
        by_cases e : i = q
        · subst e; simp
        · by_cases e2 : i < q
          · simp [e, e2, show i < q + 1 by omega]
          · simp [e, e2, show ¬ i < q + 1 by omega]
       case measure => simp [intOf]; omega
     · obtain rfl : q = 4 := by omega
       go_wp2
       go_roundw
       case rel =>
        refine ⟨k + 1, by omega, by go_num, Lib.hid ⟨?_, HU.out.r, HU.out.b⟩⟩
        rw [HR.out]
        exact HU.out.s.congr fun i hi => by simp [mixed, hi]
       case measure => simp [intOf]; omega
  · have E := Lib.hid (show Ps.take k = Ps from List.take_of_length_le (by omega))
    obtain ⟨O, hO⟩ : ∃ O, O = anyOf (Ps.take k) := ⟨_, rfl⟩
    rw [← hO] at HT
    have EO := Lib.hid (show O = anyOf Ps by rw [hO, E.out])
    clear hO E
    have c0 := HT.out.s.cell 0 (by omega)
    have c1 := HT.out.s.cell 1 (by omega)
    have c2 := HT.out.s.cell 2 (by omega)
    have c3 := HT.out.s.cell 3 (by omega)
    have r0 := HT.out.r.cell 0 (by omega)
    have r1 := HT.out.r.cell 1 (by omega)
    have r2 := HT.out.r.cell 2 (by omega)
    have r3 := HT.out.r.cell 3 (by omega)
    have f0 := HT.out.r.free 0 (by omega)
    have f1 := HT.out.r.free 1 (by omega)
    have f2 := HT.out.r.free 2 (by omega)
    have f3 := HT.out.r.free 3 (by omega)
    go_wp2
    refine bodyPost_ret (v := setV O) ?_ rfl ⟨by rw [EO.out], (((HT.out.b.setCell (Nat.le_refl _) _).setCell (Nat.le_refl _) _).setCell (Nat.le_refl _) _).setCell (Nat.le_refl _) _⟩
    simp [results, Tryz.results77, go_sem, setV, r0, r1, r2, r3]
def chars_Set_Has.f (P : Nat → Bool) (c : Int) : Option Bool := if 0 ≤ c ∧ c ≤ 255 then some (P c.toNat) else none
set_option maxHeartbeats 400000 in
theorem chars_Set_Has.calls (P : Nat → Bool) (c : Int) (r : Bool) (w : World) (h : chars_Set_Has.f P c = some r) :
 Calls Tryz.prog 56 #[setV P, .int .u8 c] w fun e w' => e = .returned (.bool r) ∧ Below w.heap.size w w' := by
 unfold chars_Set_Has.f at h
 split at h
 · rename_i hc
   obtain ⟨h0, h1⟩ := hc
   injection h with h
   have hw := wd_has P c h0
   rw [h] at hw
   have HW := Lib.hid hw
   clear h hw
   have h2 : 0 ≤ c / 64 := by omega
   have h3 : c / 64 < 4 := by omega
   have h4 : 0 ≤ c % 64 := by omega
   have h5 : c % 64 < 64 := by omega
   have cc := ((Four.newP w P 84).cell (c / 64).toNat (by omega))
   unfold setV
   go_enter Tryz.func56, Tryz.ntmps56
   go_wp2
   rw [HW.out]
   go_ret
   exact ⟨rfl, (Below.refl _ _).alloc (Nat.le_refl _) _⟩
 · cases h
def chars_Digit.f : Option (Nat → Bool) := some isDigit
def chars_Alpha.f : Option (Nat → Bool) := some isAlpha
def chars_Hex.f : Option (Nat → Bool) := some isHex
def chars_Word.f : Option (Nat → Bool) := some isWord
def chars_Literal.f : Option (Nat → Bool) := some isLit
structure Res (w wr : World) : Prop where
 r : Four wr w.heap.size (fun _ => 0)
 b : Below w.heap.size w wr
theorem Res.new (w : World) : Res w (w.alloc (.cells #[.int .u64 0, .int .u64 0, .int .u64 0, .int .u64 0] 84)) :=
 ⟨(Four.new w 0 0 0 0 _).congr fun i hi => by simp, (Below.refl _ _).alloc (Nat.le_refl _) _⟩
theorem Res.step {w wr w1 : World} (h : Res w wr) (hb : Below wr.heap.size wr w1) : Res w w1 :=
 ⟨h.r.kept (hb.block _ h.r.lt), below_then h.b h.b.size hb⟩
theorem Res.alloc {w wr : World} (h : Res w wr) (o : Obj) : Res w (wr.alloc o) := ⟨h.r.alloc o, h.b.alloc h.b.size o⟩
theorem Res.done {w wr : World} (h : Res w wr) (a b c d : Value) : Below w.heap.size w ((((wr.setCell ⟨w.heap.size, 0, none⟩ a).setCell ⟨w.heap.size, 1, none⟩ b).setCell ⟨w.heap.size, 2, none⟩ c).setCell ⟨w.heap.size, 3, none⟩ d) :=
 (((h.b.setCell (Nat.le_refl _) _).setCell (Nat.le_refl _) _).setCell (Nat.le_refl _) _).setCell (Nat.le_refl _) _
theorem SetsAt.two (W : World) (P Q : Nat → Bool) (t : TypeId) : SetsAt (W.alloc (.cells #[.int .u64 (wd P 0), .int .u64 (wd P 1), .int .u64 (wd P 2), .int .u64 (wd P 3), .int .u64 (wd Q 0), .int .u64 (wd Q 1), .int .u64 (wd Q 2), .int .u64 (wd Q 3)] t)) W.heap.size [P, Q] := by
 intro i hi j hj
 have : i = 0 ∨ i = 1 := by simp at hi; omega
 have h2 : j = 0 ∨ j = 1 ∨ j = 2 ∨ j = 3 := by omega
 rcases this with rfl | rfl <;> rcases h2 with rfl | rfl | rfl | rfl <;> simp [go_sem]
theorem SetsAt.three (W : World) (P Q R : Nat → Bool) (t : TypeId) : SetsAt (W.alloc (.cells #[.int .u64 (wd P 0), .int .u64 (wd P 1), .int .u64 (wd P 2), .int .u64 (wd P 3), .int .u64 (wd Q 0), .int .u64 (wd Q 1), .int .u64 (wd Q 2), .int .u64 (wd Q 3), .int .u64 (wd R 0), .int .u64 (wd R 1), .int .u64 (wd R 2), .int .u64 (wd R 3)] t)) W.heap.size [P, Q, R] := by
 intro i hi j hj
 have : i = 0 ∨ i = 1 ∨ i = 2 := by simp at hi; omega
 have h2 : j = 0 ∨ j = 1 ∨ j = 2 ∨ j = 3 := by omega
 rcases this with rfl | rfl | rfl <;> rcases h2 with rfl | rfl | rfl | rfl <;> simp [go_sem]
set_option maxHeartbeats 400000 in
theorem chars_Digit.calls (r : Nat → Bool) (w : World) (h : chars_Digit.f = some r) :
 Calls Tryz.prog 78 #[] w fun e w' => e = .returned (setV r) ∧ Below w.heap.size w w' := by
 injection h with h
 have HR := Lib.hid (show (fun j : Nat => decide ((48 : Int) ≤ j) && decide ((j : Int) ≤ 57)) = r from h)
 clear h
 go_enter Tryz.func78, Tryz.ntmps78
 go_wp2_with fail
 refine (chars_Range.calls 48 57 (by omega) (by omega) (by omega) (by omega) _).mono ?_
 rintro e w1 ⟨rfl, hb⟩
 rw [HR.out]
 have S := Lib.hid ((Res.new w).step hb)
 clear hb
 unfold setV
 have r0 := S.out.r.cell 0 (by omega)
 have r1 := S.out.r.cell 1 (by omega)
 have r2 := S.out.r.cell 2 (by omega)
 have r3 := S.out.r.cell 3 (by omega)
 have f0 := S.out.r.free 0 (by omega)
 have f1 := S.out.r.free 1 (by omega)
 have f2 := S.out.r.free 2 (by omega)
 have f3 := S.out.r.free 3 (by omega)
 go_wp2
 refine bodyPost_ret (v := setV r) ?_ rfl ⟨rfl, S.out.done _ _ _ _⟩
 simp [results, Tryz.results78, go_sem, setV, r0, r1, r2, r3]
set_option maxHeartbeats 800000 in
theorem chars_Alpha.calls (r : Nat → Bool) (w : World) (h : chars_Alpha.f = some r) :
 Calls Tryz.prog 125 #[] w fun e w' => e = .returned (setV r) ∧ Below w.heap.size w w' := by
 injection h with h
 subst h
 go_enter Tryz.func125, Tryz.ntmps125
 have S0 := Lib.hid (Res.new w)
 go_wp2_with fail
 refine (chars_Range.calls 65 90 (by omega) (by omega) (by omega) (by omega) _).mono ?_
 rintro e w1 ⟨rfl, hb⟩
 have S1 := Lib.hid (S0.out.step hb)
 clear hb S0
 go_wp2_with fail
 refine (chars_Range.calls 97 122 (by omega) (by omega) (by omega) (by omega) _).mono ?_
 rintro e w2 ⟨rfl, hb⟩
 have S2 := Lib.hid (S1.out.step hb)
 clear hb S1
 unfold setV
 go_wp2_with fail
 refine (chars_Union.calls _ _ [isUpper, isLower] (by simp) _ (SetsAt.two _ _ _ _) (by simp)).mono ?_
 rintro e w9 ⟨rfl, hb⟩
 have S9 := Lib.hid ((S2.out.alloc _).step hb)
 clear hb S2
 rw [show setV (anyOf [isUpper, isLower]) = setV isAlpha from setV_ext fun j _ => by simp [anyOf, isAlpha]]
 unfold setV
 have r0 := S9.out.r.cell 0 (by omega)
 have r1 := S9.out.r.cell 1 (by omega)
 have r2 := S9.out.r.cell 2 (by omega)
 have r3 := S9.out.r.cell 3 (by omega)
 have f0 := S9.out.r.free 0 (by omega)
 have f1 := S9.out.r.free 1 (by omega)
 have f2 := S9.out.r.free 2 (by omega)
 have f3 := S9.out.r.free 3 (by omega)
 go_wp2
 refine bodyPost_ret (v := setV isAlpha) ?_ rfl ⟨rfl, S9.out.done _ _ _ _⟩
 simp [results, Tryz.results125, go_sem, setV, r0, r1, r2, r3]
set_option maxHeartbeats 800000 in
theorem chars_Hex.calls (r : Nat → Bool) (w : World) (h : chars_Hex.f = some r) :
 Calls Tryz.prog 55 #[] w fun e w' => e = .returned (setV r) ∧ Below w.heap.size w w' := by
 injection h with h
 subst h
 go_enter Tryz.func55, Tryz.ntmps55
 have S0 := Lib.hid (Res.new w)
 go_wp2_with fail
 refine (chars_Digit.calls _ _ rfl).mono ?_
 rintro e w1 ⟨rfl, hb⟩
 have S1 := Lib.hid (S0.out.step hb)
 clear hb S0
 go_wp2_with fail
 refine (chars_Range.calls 65 70 (by omega) (by omega) (by omega) (by omega) _).mono ?_
 rintro e w2 ⟨rfl, hb⟩
 have S2 := Lib.hid (S1.out.step hb)
 clear hb S1
 go_wp2_with fail
 refine (chars_Range.calls 97 102 (by omega) (by omega) (by omega) (by omega) _).mono ?_
 rintro e w3 ⟨rfl, hb⟩
 have S3 := Lib.hid (S2.out.step hb)
 clear hb S2
 unfold setV
 go_wp2_with fail
 refine (chars_Union.calls _ _ [isDigit, isAF, isaf] (by simp) _ (SetsAt.three _ _ _ _ _) (by simp)).mono ?_
 rintro e w9 ⟨rfl, hb⟩
 have S9 := Lib.hid ((S3.out.alloc _).step hb)
 clear hb S3
 rw [show setV (anyOf [isDigit, isAF, isaf]) = setV isHex from setV_ext fun j _ => by simp [anyOf, isHex, Bool.or_assoc]]
 unfold setV
 have r0 := S9.out.r.cell 0 (by omega)
 have r1 := S9.out.r.cell 1 (by omega)
 have r2 := S9.out.r.cell 2 (by omega)
 have r3 := S9.out.r.cell 3 (by omega)
 have f0 := S9.out.r.free 0 (by omega)
 have f1 := S9.out.r.free 1 (by omega)
 have f2 := S9.out.r.free 2 (by omega)
 have f3 := S9.out.r.free 3 (by omega)
 go_wp2
 refine bodyPost_ret (v := setV isHex) ?_ rfl ⟨rfl, S9.out.done _ _ _ _⟩
 simp [results, Tryz.results55, go_sem, setV, r0, r1, r2, r3]
set_option maxHeartbeats 800000 in
theorem chars_Word.calls (r : Nat → Bool) (w : World) (h : chars_Word.f = some r) :
 Calls Tryz.prog 116 #[] w fun e w' => e = .returned (setV r) ∧ Below w.heap.size w w' := by
 injection h with h
 subst h
 go_enter Tryz.func116, Tryz.ntmps116
 have S0 := Lib.hid (Res.new w)
 go_wp2_with fail
 refine (chars_Alpha.calls _ _ rfl).mono ?_
 rintro e w1 ⟨rfl, hb⟩
 have S1 := Lib.hid (S0.out.step hb)
 clear hb S0
 go_wp2_with fail
 refine (chars_Digit.calls _ _ rfl).mono ?_
 rintro e w2 ⟨rfl, hb⟩
 have S2 := Lib.hid (S1.out.step hb)
 clear hb S1
 go_wp2_with fail
 refine (chars_Of.calls ⟨#[95]⟩ (by decide) _).mono ?_
 rintro e w3 ⟨rfl, hb⟩
 have S3 := Lib.hid (S2.out.step hb)
 clear hb S2
 unfold setV
 go_wp2_with fail
 refine (chars_Union.calls _ _ [isAlpha, isDigit, inText ⟨#[95]⟩] (by simp) _ (SetsAt.three _ _ _ _ _) (by simp)).mono ?_
 rintro e w9 ⟨rfl, hb⟩
 have S9 := Lib.hid ((S3.out.alloc _).step hb)
 clear hb S3
 rw [show setV (anyOf [isAlpha, isDigit, inText ⟨#[95]⟩]) = setV isWord from setV_ext fun j _ => by simp [anyOf, isWord, Bool.or_assoc, inText]]
 unfold setV
 have r0 := S9.out.r.cell 0 (by omega)
 have r1 := S9.out.r.cell 1 (by omega)
 have r2 := S9.out.r.cell 2 (by omega)
 have r3 := S9.out.r.cell 3 (by omega)
 have f0 := S9.out.r.free 0 (by omega)
 have f1 := S9.out.r.free 1 (by omega)
 have f2 := S9.out.r.free 2 (by omega)
 have f3 := S9.out.r.free 3 (by omega)
 go_wp2
 refine bodyPost_ret (v := setV isWord) ?_ rfl ⟨rfl, S9.out.done _ _ _ _⟩
 simp [results, Tryz.results116, go_sem, setV, r0, r1, r2, r3]
set_option maxHeartbeats 800000 in
theorem chars_Literal.calls (r : Nat → Bool) (w : World) (h : chars_Literal.f = some r) :
 Calls Tryz.prog 74 #[] w fun e w' => e = .returned (setV r) ∧ Below w.heap.size w w' := by
 injection h with h
 subst h
 go_enter Tryz.func74, Tryz.ntmps74
 have S0 := Lib.hid (Res.new w)
 go_wp2_with fail
 refine (chars_Range.calls 33 126 (by omega) (by omega) (by omega) (by omega) _).mono ?_
 rintro e w1 ⟨rfl, hb⟩
 have S1 := Lib.hid (S0.out.step hb)
 clear hb S0
 go_wp2_with fail
 refine (chars_Of.calls ⟨#[34, 39, 37, 60, 62, 92, 94, 96, 123, 124, 125]⟩ (by decide) _).mono ?_
 rintro e w2 ⟨rfl, hb⟩
 have S2 := Lib.hid (S1.out.step hb)
 clear hb S1
 go_wp2_with fail
 refine (chars_Minus.calls _ _ _).mono ?_
 rintro e w3 ⟨rfl, hb⟩
 have S9 := Lib.hid (S2.out.step hb)
 clear hb S2
 rw [show (setV fun j => (decide ((33 : Int) ≤ (j : Int)) && decide ((j : Int) ≤ 126)) && !inText ⟨#[34, 39, 37, 60, 62, 92, 94, 96, 123, 124, 125]⟩ j) = setV isLit from rfl]
 unfold setV
 have r0 := S9.out.r.cell 0 (by omega)
 have r1 := S9.out.r.cell 1 (by omega)
 have r2 := S9.out.r.cell 2 (by omega)
 have r3 := S9.out.r.cell 3 (by omega)
 have f0 := S9.out.r.free 0 (by omega)
 have f1 := S9.out.r.free 1 (by omega)
 have f2 := S9.out.r.free 2 (by omega)
 have f3 := S9.out.r.free 3 (by omega)
 go_wp2
 refine bodyPost_ret (v := setV isLit) ?_ rfl ⟨rfl, S9.out.done _ _ _ _⟩
 simp [results, Tryz.results74, go_sem, setV, r0, r1, r2, r3]
def figsFrom (s : ByteArray) : Nat → Int → Int
 | 0, n => n
 | d + 1, n => if isDigit (bt s n).toNat = true ∧ ¬ (n = 0 ∧ bt s n = 48) then figsFrom s d (n + 1) else n
theorem figsFrom_le (s : ByteArray) (d : Nat) (n : Int) : n ≤ figsFrom s d n ∧ figsFrom s d n ≤ n + d := by
 induction d generalizing n with
 | zero => exact ⟨Int.le_refl _, by simp [figsFrom]⟩
 | succ d ih =>
  rw [figsFrom]
  split
  · have := ih (n + 1)
    omega
  · omega
def spec_figures.f (s : ByteArray) : Option Int := if s.size ≤ 1099511627776 then some (figsFrom s (min s.size 4) 0) else none
structure Set1 (w wr : World) (f : Nat → Bool) (g : Nat) : Prop where
 s : Four wr g (wd f)
 b : Below w.heap.size w wr
theorem Set1.step {w wr w1 : World} {f : Nat → Bool} {g : Nat} (H : Set1 w wr f g) (hb : Below wr.heap.size wr w1) : Set1 w w1 f g :=
 ⟨H.s.kept (hb.block _ H.s.lt), below_then H.b H.b.size hb⟩
set_option maxRecDepth 100000 in
set_option maxHeartbeats 800000 in
theorem spec_figures.calls (s : ByteArray) (r : Int) (w : World) (h : spec_figures.f s = some r) :
 Calls Tryz.prog 109 #[.string s] w fun e w' => e = .returned (.int .i64 r) ∧ Below w.heap.size w w' := by
 unfold spec_figures.f at h
 split at h
 · rename_i hs
   injection h with h
   have HR := Lib.hid h
   clear h
   go_enter Tryz.func109, Tryz.ntmps109
   go_wp2_with fail
   refine (chars_Digit.calls _ _ rfl).mono ?_
   rintro e w1 ⟨rfl, hb⟩
   have HB := Lib.hid hb
   clear hb
   unfold setV
   go_wp2
   all_goals
    go_loopw [5, 11] (fun _ a wr => ∃ (d : Nat) (n : Int), a = .int .i64 n ∧ 0 ≤ n ∧ (d : Int) + n = min s.size 4 ∧ Hid (figsFrom s d n = r) ∧ Hid (Set1 w wr isDigit w1.heap.size)) (fun _ a _ => 4 - (intOf a).toNat)
    case atStart =>
     exact ⟨min s.size 4, 0, rfl, by omega, by omega, HR, Lib.hid ⟨Four.newP w1 isDigit _, HB.out.alloc HB.out.size _⟩⟩
    case round =>
     obtain ⟨d, n, rfl, hn0, hk, HE, HS⟩ := hrel
     cases d with
     | zero =>
      have hE := HE.out
      rw [figsFrom] at hE
      have HE1 := Lib.hid hE
      clear hE HE
      go_wp2
      go_ret
      refine ⟨?_, HS.out.b⟩
      show Ending.returned (.int .i64 _) = _
      rw [← HE1.out]
      congr 2
      omega
     | succ d =>
      have hE := HE.out
      rw [figsFrom] at hE
      have hnlt : n < s.size := by omega
      have hnt : n.toNat < s.size := by omega
      have hix := bt_at s n
      have hcr := bt_range s n
      obtain ⟨c, hc⟩ : ∃ c, c = bt s n := ⟨_, rfl⟩
      rw [← hc] at hE hcr hix
      obtain ⟨hc0, hc1⟩ := hcr
      have c0 := HS.out.s.cell 0 (by omega)
      have c1 := HS.out.s.cell 1 (by omega)
      have c2 := HS.out.s.cell 2 (by omega)
      have c3 := HS.out.s.cell 3 (by omega)
      have HE0 := Lib.hid hE
      clear hc hE HE
      cases hb : isDigit c.toNat with
      | false =>
       have HDB := Lib.hid hb
       have hE := HE0.out
       rw [if_neg (fun h => by rw [hb] at h; exact absurd h.1 (by simp))] at hE
       have HE1 := Lib.hid hE
       clear hE hb HE0
       go_wp2_with fail
       have k0 := cell_regrown c0
       have k1 := cell_regrown c1
       have k2 := cell_regrown c2
       have k3 := cell_regrown c3
       refine wp_region_quiet_below (by kernel_rfl) (by kernel_rfl) ?_
       repeat (go_big_quiet_step (exact Calls.regrown_of (chars_Set_Has.calls isDigit c false _ (by rw [chars_Set_Has.f, if_pos ⟨hc0, hc1⟩, HDB.out]))))
       refine wpQuiet_nil ?_
       rintro _ ⟨⟨dq, osq⟩, rfl⟩
       have HX5 := Lib.hid (HS.out.step (below_regrown wr dq osq))
       go_wp2
       go_ret
       exact ⟨by show Ending.returned (.int .i64 n) = _; rw [HE1.out], HX5.out.b⟩
      | true =>
       have HDB := Lib.hid hb
       have hq : ((n == 0) = true ∧ (c == 48) = true ∧ Hid (n = r)) ∨ ((n == 0) = true ∧ (c == 48) = false ∧ Hid (figsFrom s d (n + 1) = r)) ∨ ((n == 0) = false ∧ Hid (figsFrom s d (n + 1) = r)) := by
        have hE := HE0.out
        by_cases h1 : n = 0
        · by_cases h2 : c = 48
          · rw [if_neg (fun h => h.2 ⟨h1, h2⟩)] at hE
            exact .inl ⟨beq_iff_eq.2 (by omega), beq_iff_eq.2 h2, Lib.hid hE⟩
          · rw [if_pos ⟨hb, fun h => h2 h.2⟩] at hE
            exact .inr (.inl ⟨beq_iff_eq.2 (by omega), beq_eq_false_iff_ne.2 h2, Lib.hid hE⟩)
        · rw [if_pos ⟨hb, fun h => h1 h.1⟩] at hE
          exact .inr (.inr ⟨beq_eq_false_iff_ne.2 (by omega), Lib.hid hE⟩)
       clear hb HE0
       rcases hq with ⟨q1, q2, HE1⟩ | ⟨q1, q2, HE1⟩ | ⟨q1, HE1⟩
       · go_wp2_with fail
         have k0 := cell_regrown c0
         have k1 := cell_regrown c1
         have k2 := cell_regrown c2
         have k3 := cell_regrown c3
         refine wp_region_quiet_below (by kernel_rfl) (by kernel_rfl) ?_
         repeat (go_big_quiet_step (exact Calls.regrown_of (chars_Set_Has.calls isDigit c true _ (by rw [chars_Set_Has.f, if_pos ⟨hc0, hc1⟩, HDB.out]))))
         refine wpQuiet_nil ?_
         rintro _ ⟨⟨dq, osq⟩, rfl⟩
         have HX5 := Lib.hid (HS.out.step (below_regrown wr dq osq))
         go_wp2
         go_ret
         exact ⟨by show Ending.returned (.int .i64 n) = _; rw [HE1.out], HX5.out.b⟩
       all_goals
        go_wp2_with fail
        have k0 := cell_regrown c0
        have k1 := cell_regrown c1
        have k2 := cell_regrown c2
        have k3 := cell_regrown c3
        refine wp_region_quiet_below (by kernel_rfl) (by kernel_rfl) ?_
        repeat (go_big_quiet_step (exact Calls.regrown_of (chars_Set_Has.calls isDigit c true _ (by rw [chars_Set_Has.f, if_pos ⟨hc0, hc1⟩, HDB.out]))))
        refine wpQuiet_nil ?_
        rintro _ ⟨⟨dq, osq⟩, rfl⟩
        have HX5 := Lib.hid (HS.out.step (below_regrown wr dq osq))
        go_wp2
        go_roundw
        case rel => exact ⟨d, n + 1, by go_num, by omega, by omega, HE1, HX5⟩
        case measure => simp [intOf]; omega
 · cases h
end Go.Proofs.YtkipkbggnfllkaaGreatDoor.P
end
section
namespace Go.Proofs.YtkipkbggnfllkaaGreatDoor.P
open Go.RowKit Go.Proofs.YtkipkbggnfllkaaGreatDoorW.PrintWords Go.Proofs.YtkipkbggnfllkaaGreatDoorW.PrintLast Go.Proofs.YtkipkbggnfllkaaGreatDoorW.PrintMore
attribute [local go_sem] max2_int min2_int max_two min_two max_three min_three max_four min_four
set_option linter.unusedVariables false
set_option linter.unusedSimpArgs false
mutual
def pct_Digit.j0 : Nat → Int → Bool → Option (Int × Bool)
 | 0, _, _ => none
 | k + 1, x0, x4 => if x4 = true then (some ((x0 - 48) % 256, true)) else (if x0 ≥ 65 then (pct_Digit.j1 k x0 (decide (x0 ≤ 70))) else (pct_Digit.j1 k x0 false))
def pct_Digit.j1 : Nat → Int → Bool → Option (Int × Bool)
 | 0, _, _ => none
 | k + 1, x0, x14 => if x14 = true then (some (((x0 - 65) % 256) + 10, true)) else (if x0 ≥ 97 then (if x0 ≤ 102 then (some (((x0 - 97) % 256) + 10, true)) else (some (0, false))) else (some (0, false)))
end
def pct_Digit.f (k : Nat) (a0 : Int) : Option (Int × Bool) := if a0 ≥ 48 then (pct_Digit.j0 k a0 (decide (a0 ≤ 57))) else (pct_Digit.j0 k a0 false)
theorem pct_Digit.mono_l : ∀ k, (∀ y0 y1, LeO (pct_Digit.j0 k y0 y1) (pct_Digit.j0 (k + 1) y0 y1)) ∧ (∀ y0 y1, LeO (pct_Digit.j1 k y0 y1) (pct_Digit.j1 (k + 1) y0 y1))
 | 0 => ⟨fun _ _ r h => by simp [pct_Digit.j0] at h, fun _ _ r h => by simp [pct_Digit.j1] at h⟩
 | k + 1 => by
  obtain ⟨ih0, ih1⟩ := pct_Digit.mono_l k
  refine ⟨?_, ?_⟩
  · intro y0 y1
    unfold pct_Digit.j0
    repeat' first
    | (with_reducible exact ih0 _ _)
    | (with_reducible exact ih1 _ _)
    | (with_reducible exact LeO.refl _)
    | (with_reducible exact LeO.none _)
    | (with_reducible refine LeO.ite ?_ ?_)
    | (with_reducible refine LeO.bind ?_ (fun _ => ?_))
    | exact ih0 _ _
    | exact ih1 _ _
    | exact LeO.none _
    | refine LeO.ite ?_ ?_
    | refine LeO.bind ?_ (fun _ => ?_)
  · intro y0 y1
    unfold pct_Digit.j1
    repeat' first
    | (with_reducible exact ih0 _ _)
    | (with_reducible exact ih1 _ _)
    | (with_reducible exact LeO.refl _)
    | (with_reducible exact LeO.none _)
    | (with_reducible refine LeO.ite ?_ ?_)
    | (with_reducible refine LeO.bind ?_ (fun _ => ?_))
    | exact ih0 _ _
    | exact ih1 _ _
    | exact LeO.none _
    | refine LeO.ite ?_ ?_
    | refine LeO.bind ?_ (fun _ => ?_)
theorem pct_Digit.mono : ∀ a0 k, LeO (pct_Digit.f k a0) (pct_Digit.f (k + 1) a0) := by
 intro a0 k
 obtain ⟨ih0, ih1⟩ := pct_Digit.mono_l k
 unfold pct_Digit.f
 repeat' first
  | (with_reducible exact ih0 _ _)
  | (with_reducible exact ih1 _ _)
  | (with_reducible exact LeO.refl _)
  | (with_reducible exact LeO.none _)
  | (with_reducible refine LeO.ite ?_ ?_)
  | (with_reducible refine LeO.bind ?_ (fun _ => ?_))
  | exact ih0 _ _
  | exact ih1 _ _
  | exact LeO.none _
  | refine LeO.ite ?_ ?_
  | refine LeO.bind ?_ (fun _ => ?_)
set_option maxHeartbeats 8000000 in
set_option maxRecDepth 100000 in
theorem pct_Digit.calls (k : Nat) (a0 : Int) (r1 : Int) (r2 : Bool) (w : World) (h : pct_Digit.f k a0 = some (r1, r2)) :
 Calls Tryz.prog 114 #[.int .u8 a0] w fun e w' => e = .returned (.tuple #[.int .i64 r1, .bool r2]) ∧ Drawn0 w w' := by
 have H : (if a0 ≥ 48 then (pct_Digit.j0 k a0 (decide (a0 ≤ 57))) else (pct_Digit.j0 k a0 false)) = some (r1, r2) := h
 clear h
 have HC2 := Aside0.mk H
 clear H
 go_enter Tryz.func114, Tryz.ntmps114
 go_upto_region 1 with (fail)
 go_cut [4] (fun v4 wc => ∃ (kq : Nat) (x4_1 : Bool), v4 = .bool x4_1 ∧ Aside0 (pct_Digit.j0 kq a0 x4_1 = some (r1, r2)) ∧ Aside0 (kq ≤ k) ∧ Drawn0 w wc)
 case first =>
  have H := HC2.out
  clear HC2
  by_cases c3 : a0 ≥ 48
  · rw [if_pos c3] at H
    have c3b0 : decide (48 ≤ a0) = true := decide_eq_true c3
    clear c3
    (first | rw [c3b0] | (simp only [i64_w, i32_w]; rw [c3b0]) | skip)
    have H' := Aside0.mk H
    clear H
    go_wp2
    go_meet
    case rel => exact ⟨_, (decide (a0 ≤ 57)), (by first | rfl | (simp; done) | (simp [*]; done)), H', ⟨by first | omega | exact Nat.le_refl _⟩, by repeat (first | exact Drawn0.refl _ | apply Drawn0.step)⟩
  · rw [if_neg c3] at H
    have c3b0 : decide (48 ≤ a0) = false := decide_eq_false c3
    clear c3
    (first | rw [c3b0] | (simp only [i64_w, i32_w]; rw [c3b0]) | skip)
    have H' := Aside0.mk H
    clear H
    go_wp2
    go_meet
    case rel => exact ⟨_, (false), (by first | rfl | (simp; done) | (simp [*]; done)), H', ⟨by first | omega | exact Nat.le_refl _⟩, by repeat (first | exact Drawn0.refl _ | apply Drawn0.step)⟩
 case rest =>
  clear HC2
  try clear c1
  try clear p2
  try clear c3
  try clear c3b0
  obtain ⟨kq, x4_1, rfl, HA, HJ1, ⟨mc1, rfl⟩⟩ := hcut
  cases kq with
  | zero => exact absurd HA.out (by simp [pct_Digit.j0])
  | succ kj1 =>
   have H := HA.out
   clear HA
   simp only [pct_Digit.j0] at H
   by_cases c4 : x4_1 = true
   · subst c4
     have H1 : (some ((a0 - 48) % 256, true)) = some (r1, r2) := by rw [if_pos rfl] at H; exact H
     clear H
     have H := H1
     clear H1
     simp only [Option.some.injEq, Prod.mk.injEq] at H
     obtain ⟨rfl, rfl⟩ := H
     go_wp2
     go_ret2
     exact ⟨by first | rfl | (simp; done) | (simp [*]; done), by repeat (first | exact Drawn0.refl _ | apply Drawn0.step)⟩
   · replace c4 := Bool.eq_false_iff.mpr c4
     subst c4
     have H1 : (if a0 ≥ 65 then (pct_Digit.j1 kj1 a0 (decide (a0 ≤ 70))) else (pct_Digit.j1 kj1 a0 false)) = some (r1, r2) := by rw [if_neg (show ¬ (false = true) by decide)] at H; exact H
     clear H
     have H := H1
     clear H1
     have HC5 := Aside0.mk H
     clear H
     go_upto_region 3 with (fail)
     go_cut [14] (fun v14 wc => ∃ (kq : Nat) (x14_4 : Bool), v14 = .bool x14_4 ∧ Aside0 (pct_Digit.j1 kq a0 x14_4 = some (r1, r2)) ∧ Aside0 (kq ≤ kj1) ∧ Drawn0 w wc)
     case first =>
      have H := HC5.out
      clear HC5
      by_cases c6 : a0 ≥ 65
      · rw [if_pos c6] at H
        have c6b0 : decide (65 ≤ a0) = true := decide_eq_true c6
        clear c6
        (first | rw [c6b0] | (simp only [i64_w, i32_w]; rw [c6b0]) | skip)
        have H' := Aside0.mk H
        clear H
        go_wp2
        go_meet
        case rel => exact ⟨_, (decide (a0 ≤ 70)), (by first | rfl | (simp; done) | (simp [*]; done)), H', ⟨by have := HJ1.out; first | omega | exact Nat.le_refl _⟩, by repeat (first | exact Drawn0.refl _ | apply Drawn0.step)⟩
      · rw [if_neg c6] at H
        have c6b0 : decide (65 ≤ a0) = false := decide_eq_false c6
        clear c6
        (first | rw [c6b0] | (simp only [i64_w, i32_w]; rw [c6b0]) | skip)
        have H' := Aside0.mk H
        clear H
        go_wp2
        go_meet
        case rel => exact ⟨_, (false), (by first | rfl | (simp; done) | (simp [*]; done)), H', ⟨by have := HJ1.out; first | omega | exact Nat.le_refl _⟩, by repeat (first | exact Drawn0.refl _ | apply Drawn0.step)⟩
     case rest =>
      clear HC5
      try clear c1
      try clear p2
      try clear c3
      try clear c3b0
      try clear c4
      try clear c6
      try clear c6b0
      try clear p2
      obtain ⟨kq, x14_4, rfl, HA, HJ4, ⟨mc4, rfl⟩⟩ := hcut
      cases kq with
      | zero => exact absurd HA.out (by simp [pct_Digit.j1])
      | succ kj4 =>
       have H := HA.out
       clear HA
       simp only [pct_Digit.j1] at H
       by_cases c7 : x14_4 = true
       · subst c7
         have H1 : (some (((a0 - 65) % 256) + 10, true)) = some (r1, r2) := by rw [if_pos rfl] at H; exact H
         clear H
         have H := H1
         clear H1
         simp only [Option.some.injEq, Prod.mk.injEq] at H
         obtain ⟨rfl, rfl⟩ := H
         go_wp2
         go_ret2
         exact ⟨by first | rfl | (simp; done) | (simp [*]; done), by repeat (first | exact Drawn0.refl _ | apply Drawn0.step)⟩
       · replace c7 := Bool.eq_false_iff.mpr c7
         subst c7
         have H1 : (if a0 ≥ 97 then (if a0 ≤ 102 then (some (((a0 - 97) % 256) + 10, true)) else (some (0, false))) else (some (0, false))) = some (r1, r2) := by rw [if_neg (show ¬ (false = true) by decide)] at H; exact H
         clear H
         have H := H1
         clear H1
         by_cases c8 : a0 ≥ 97
         · rw [if_pos c8] at H
           have c8b0 : decide (97 ≤ a0) = true := decide_eq_true c8
           clear c8
           by_cases c9 : a0 ≤ 102
           · rw [if_pos c9] at H
             have c9b0 : decide (a0 ≤ 102) = true := decide_eq_true c9
             clear c9
             simp only [Option.some.injEq, Prod.mk.injEq] at H
             obtain ⟨rfl, rfl⟩ := H
             go_wp2
             go_ret2
             exact ⟨by first | rfl | (simp; done) | (simp [*]; done), by repeat (first | exact Drawn0.refl _ | apply Drawn0.step)⟩
           · rw [if_neg c9] at H
             have c9b0 : decide (a0 ≤ 102) = false := decide_eq_false c9
             clear c9
             simp only [Option.some.injEq, Prod.mk.injEq] at H
             obtain ⟨rfl, rfl⟩ := H
             go_wp2
             go_ret2
             exact ⟨by first | rfl | (simp; done) | (simp [*]; done), by repeat (first | exact Drawn0.refl _ | apply Drawn0.step)⟩
         · rw [if_neg c8] at H
           have c8b0 : decide (97 ≤ a0) = false := decide_eq_false c8
           clear c8
           simp only [Option.some.injEq, Prod.mk.injEq] at H
           obtain ⟨rfl, rfl⟩ := H
           go_wp2
           go_ret2
           exact ⟨by first | rfl | (simp; done) | (simp [*]; done), by repeat (first | exact Drawn0.refl _ | apply Drawn0.step)⟩
def pct_value.j0 : Nat → ByteArray → Bool → Option (Int × Bool)
 | 0, _, _ => none
 | k + 1, x0, x15 => if x15 = true then (some (0, false)) else (if 1 < (x0.size : Int) then ((pct_Digit.f k (bt x0 1)).bind fun bt349 => (if 2 < (x0.size : Int) then ((pct_Digit.f k (bt x0 2)).bind fun bt351 => (if bt349.2 = true then (some ((wrap64 ((wrap64 (16 * bt349.1)) + bt351.1)) % 256, bt351.2)) else (some ((wrap64 ((wrap64 (16 * bt349.1)) + bt351.1)) % 256, false)))) else (none))) else (none))
def pct_value.f (k : Nat) (a0 : ByteArray) : Option (Int × Bool) := if (a0.size : Int) < 3 then (pct_value.j0 k a0 true) else (if 0 < (a0.size : Int) then (pct_value.j0 k a0 ((bt a0 0) != 37)) else (none))
theorem pct_value.mono_l : ∀ k, (∀ y0 y1, LeO (pct_value.j0 k y0 y1) (pct_value.j0 (k + 1) y0 y1))
 | 0 => fun _ _ r h => by simp [pct_value.j0] at h
 | k + 1 => by
  have ih0 := pct_value.mono_l k
  · intro y0 y1
    unfold pct_value.j0
    repeat' first
    | (with_reducible exact ih0 _ _)
    | (with_reducible exact pct_Digit.mono _ _)
    | (with_reducible exact LeO.refl _)
    | (with_reducible exact LeO.none _)
    | (with_reducible refine LeO.ite ?_ ?_)
    | (with_reducible refine LeO.bind ?_ (fun _ => ?_))
    | exact ih0 _ _
    | exact pct_Digit.mono _ _
    | exact LeO.none _
    | refine LeO.ite ?_ ?_
    | refine LeO.bind ?_ (fun _ => ?_)
theorem pct_value.mono : ∀ a0 k, LeO (pct_value.f k a0) (pct_value.f (k + 1) a0) := by
 intro a0 k
 have ih0 := pct_value.mono_l k
 unfold pct_value.f
 repeat' first
  | (with_reducible exact ih0 _ _)
  | (with_reducible exact pct_Digit.mono _ _)
  | (with_reducible exact LeO.refl _)
  | (with_reducible exact LeO.none _)
  | (with_reducible refine LeO.ite ?_ ?_)
  | (with_reducible refine LeO.bind ?_ (fun _ => ?_))
  | exact ih0 _ _
  | exact pct_Digit.mono _ _
  | exact LeO.none _
  | refine LeO.ite ?_ ?_
  | refine LeO.bind ?_ (fun _ => ?_)
set_option maxHeartbeats 8000000 in
set_option maxRecDepth 100000 in
theorem pct_value.calls (k : Nat) (a0 : ByteArray) (r1 : Int) (r2 : Bool) (w : World) (h : pct_value.f k a0 = some (r1, r2)) :
 Calls Tryz.prog 96 #[.string a0] w fun e w' => e = .returned (.tuple #[.int .u8 r1, .bool r2]) ∧ Drawn0 w w' := by
 have H : (if (a0.size : Int) < 3 then (pct_value.j0 k a0 true) else (if 0 < (a0.size : Int) then (pct_value.j0 k a0 ((bt a0 0) != 37)) else (none))) = some (r1, r2) := h
 clear h
 have HC2 := Aside0.mk H
 clear H
 go_enter Tryz.func96, Tryz.ntmps96
 go_upto_region 1 with (fail)
 go_cut [15] (fun v15 wc => ∃ (kq : Nat) (x15_1 : Bool), v15 = .bool x15_1 ∧ Aside0 (pct_value.j0 kq a0 x15_1 = some (r1, r2)) ∧ Aside0 (kq ≤ k) ∧ Drawn0 w wc)
 case first =>
  have H := HC2.out
  clear HC2
  by_cases c3 : (a0.size : Int) < 3
  · rw [if_pos c3] at H
    have c3b0 : decide ((a0.size : Int) < 3) = true := decide_eq_true c3
    have c3b1 : decide (a0.size < 3) = true := decide_eq_true (by omega)
    clear c3
    (first | rw [c3b0] | (simp only [i64_w, i32_w]; rw [c3b0]) | skip)
    have H' := Aside0.mk H
    clear H
    go_wp2
    go_meet
    case rel => exact ⟨_, (true), (by first | rfl | (simp; done) | (simp [*]; done)), H', ⟨by first | omega | exact Nat.le_refl _⟩, by repeat (first | exact Drawn0.refl _ | apply Drawn0.step)⟩
  · rw [if_neg c3] at H
    have c3b0 : decide ((a0.size : Int) < 3) = false := decide_eq_false c3
    have c3b1 : decide (a0.size < 3) = false := decide_eq_false (by omega)
    clear c3
    (first | rw [c3b0] | (simp only [i64_w, i32_w]; rw [c3b0]) | skip)
    by_cases c4 : 0 < (a0.size : Int)
    · rw [if_pos c4] at H
      have c4b0 : decide (0 < (a0.size : Int)) = true := decide_eq_true c4
      have c4b1 : decide (0 < a0.size) = true := decide_eq_true (by omega)
      clear c4
      have H' := Aside0.mk H
      clear H
      have p5 : 0 ≤ (0 : Int) := (by omega)
      have q5 : 0 < a0.size := (by have : (0 : Int) < (a0.size : Int) := of_decide_eq_true (by first | (with_reducible assumption) | assumption); omega)
      have hx5 : ∀ h : 0 < a0.size, ((a0[0]'h).toNat : Int) = bt a0 0 := bt_at a0 0
      clear p5
      have qi5 : (0 < (a0.size : Int)) = True := eq_true (of_decide_eq_true (by first | (with_reducible assumption) | assumption))
      replace q5 := eq_true q5
      go_wp2
      go_meet
      case rel => exact ⟨_, (((bt a0 0) != 37)), (by first | rfl | (simp; done) | (simp [*]; done)), H', ⟨by first | omega | exact Nat.le_refl _⟩, by repeat (first | exact Drawn0.refl _ | apply Drawn0.step)⟩
    · rw [if_neg c4] at H
      exact absurd H (by simp)
 case rest =>
  clear HC2
  try clear p2
  try clear c3
  try clear c3b0
  try clear c3b1
  try clear c4
  try clear c4b0
  try clear c4b1
  try clear p5
  try clear q5
  try clear hx5
  try clear qi5
  try clear p5
  try clear q5
  obtain ⟨kq, x15_1, rfl, HA, HJ1, ⟨mc1, rfl⟩⟩ := hcut
  cases kq with
  | zero => exact absurd HA.out (by simp [pct_value.j0])
  | succ kj1 =>
   have H := HA.out
   clear HA
   simp only [pct_value.j0] at H
   by_cases c6 : x15_1 = true
   · subst c6
     have H1 : (some (0, false)) = some (r1, r2) := by rw [if_pos rfl] at H; exact H
     clear H
     have H := H1
     clear H1
     simp only [Option.some.injEq, Prod.mk.injEq] at H
     obtain ⟨rfl, rfl⟩ := H
     go_wp2
     go_ret2
     exact ⟨by first | rfl | (simp; done) | (simp [*]; done), by repeat (first | exact Drawn0.refl _ | apply Drawn0.step)⟩
   · replace c6 := Bool.eq_false_iff.mpr c6
     subst c6
     have H1 : (if 1 < (a0.size : Int) then ((pct_Digit.f kj1 (bt a0 1)).bind fun bt349 => (if 2 < (a0.size : Int) then ((pct_Digit.f kj1 (bt a0 2)).bind fun bt351 => (if bt349.2 = true then (some ((wrap64 ((wrap64 (16 * bt349.1)) + bt351.1)) % 256, bt351.2)) else (some ((wrap64 ((wrap64 (16 * bt349.1)) + bt351.1)) % 256, false)))) else (none))) else (none)) = some (r1, r2) := by rw [if_neg (show ¬ (false = true) by decide)] at H; exact H
     clear H
     have H := H1
     clear H1
     by_cases c7 : 1 < (a0.size : Int)
     · rw [if_pos c7] at H
       have c7b0 : decide (1 < (a0.size : Int)) = true := decide_eq_true c7
       have c7b1 : decide (1 < a0.size) = true := decide_eq_true (by omega)
       clear c7
       replace H := Option.bind_eq_some_iff.mp H
       obtain ⟨⟨t349, t350⟩, A90, H⟩ := H
       replace H : (if 2 < (a0.size : Int) then ((pct_Digit.f kj1 (bt a0 2)).bind fun bt351 => (if t350 = true then (some ((wrap64 ((wrap64 (16 * t349)) + bt351.1)) % 256, bt351.2)) else (some ((wrap64 ((wrap64 (16 * t349)) + bt351.1)) % 256, false)))) else (none)) = some (r1, r2) := H
       have A9 := Aside0.mk A90
       clear A90
       by_cases c10 : 2 < (a0.size : Int)
       · rw [if_pos c10] at H
         have c10b0 : decide (2 < (a0.size : Int)) = true := decide_eq_true c10
         have c10b1 : decide (2 < a0.size) = true := decide_eq_true (by omega)
         clear c10
         replace H := Option.bind_eq_some_iff.mp H
         obtain ⟨⟨t351, t352⟩, A120, H⟩ := H
         replace H : (if t350 = true then (some ((wrap64 ((wrap64 (16 * t349)) + t351)) % 256, t352)) else (some ((wrap64 ((wrap64 (16 * t349)) + t351)) % 256, false))) = some (r1, r2) := H
         have A12 := Aside0.mk A120
         clear A120
         by_cases c13 : t350 = true
         · subst c13
           have H1 : (some ((wrap64 ((wrap64 (16 * t349)) + t351)) % 256, t352)) = some (r1, r2) := by rw [if_pos rfl] at H; exact H
           clear H
           have H := H1
           clear H1
           simp only [Option.some.injEq, Prod.mk.injEq] at H
           obtain ⟨rfl, rfl⟩ := H
           have p8 : 0 ≤ (1 : Int) := (by omega)
           have q8 : 1 < a0.size := (by have : (1 : Int) < (a0.size : Int) := of_decide_eq_true (by first | (with_reducible assumption) | assumption); omega)
           have hx8 : ∀ h : 1 < a0.size, ((a0[1]'h).toNat : Int) = bt a0 1 := bt_at a0 1
           clear p8
           have qi8 : (1 < (a0.size : Int)) = True := eq_true (of_decide_eq_true (by first | (with_reducible assumption) | assumption))
           replace q8 := eq_true q8
           go_wp2_with (first | ((with_reducible refine gate_callee (f := 114) rfl ?_); refine goesL_ (some 19) rfl rfl Tryz.func114 (by kernel_rfl) rfl #[.int .u8 (bt a0 1)] rfl (by (try simp only [List.map_toArray, List.map_cons, List.map_nil]); first | done | rfl | (simp only [List.length_drop, List.length_take]; rfl)) ?_; (with_reducible refine (pct_Digit.calls kj1 (bt a0 1) t349 true _ A9.out).mono ?_); rintro e w' ⟨rfl, ⟨nd, rfl⟩⟩; refine ⟨_, rfl, ?_⟩; have p11 : 0 ≤ (2 : Int) := (by omega); have q11 : 2 < a0.size := (by have : (2 : Int) < (a0.size : Int) := of_decide_eq_true (by first | (with_reducible assumption) | assumption); omega); have hx11 : ∀ h : 2 < a0.size, ((a0[2]'h).toNat : Int) = bt a0 2 := bt_at a0 2; clear p11; have qi11 : (2 < (a0.size : Int)) = True := eq_true (of_decide_eq_true (by first | (with_reducible assumption) | assumption)); replace q11 := eq_true q11) | ((with_reducible refine gate_callee (f := 114) rfl ?_); refine goesL_ (some 25) rfl rfl Tryz.func114 (by kernel_rfl) rfl #[.int .u8 (bt a0 2)] rfl (by (try simp only [List.map_toArray, List.map_cons, List.map_nil]); first | done | rfl | (simp only [List.length_drop, List.length_take]; rfl)) ?_; (with_reducible refine (pct_Digit.calls kj1 (bt a0 2) t351 t352 _ A12.out).mono ?_); rintro e w' ⟨rfl, ⟨nd, rfl⟩⟩; refine ⟨_, rfl, ?_⟩))
           go_ret2
           exact ⟨by first | rfl | (simp; done) | (simp [*]; done), by repeat (first | exact Drawn0.refl _ | apply Drawn0.step)⟩
         · replace c13 := Bool.eq_false_iff.mpr c13
           subst c13
           have H1 : (some ((wrap64 ((wrap64 (16 * t349)) + t351)) % 256, false)) = some (r1, r2) := by rw [if_neg (show ¬ (false = true) by decide)] at H; exact H
           clear H
           have H := H1
           clear H1
           simp only [Option.some.injEq, Prod.mk.injEq] at H
           obtain ⟨rfl, rfl⟩ := H
           have p8 : 0 ≤ (1 : Int) := (by omega)
           have q8 : 1 < a0.size := (by have : (1 : Int) < (a0.size : Int) := of_decide_eq_true (by first | (with_reducible assumption) | assumption); omega)
           have hx8 : ∀ h : 1 < a0.size, ((a0[1]'h).toNat : Int) = bt a0 1 := bt_at a0 1
           clear p8
           have qi8 : (1 < (a0.size : Int)) = True := eq_true (of_decide_eq_true (by first | (with_reducible assumption) | assumption))
           replace q8 := eq_true q8
           go_wp2_with (first | ((with_reducible refine gate_callee (f := 114) rfl ?_); refine goesL_ (some 19) rfl rfl Tryz.func114 (by kernel_rfl) rfl #[.int .u8 (bt a0 1)] rfl (by (try simp only [List.map_toArray, List.map_cons, List.map_nil]); first | done | rfl | (simp only [List.length_drop, List.length_take]; rfl)) ?_; (with_reducible refine (pct_Digit.calls kj1 (bt a0 1) t349 false _ A9.out).mono ?_); rintro e w' ⟨rfl, ⟨nd, rfl⟩⟩; refine ⟨_, rfl, ?_⟩; have p11 : 0 ≤ (2 : Int) := (by omega); have q11 : 2 < a0.size := (by have : (2 : Int) < (a0.size : Int) := of_decide_eq_true (by first | (with_reducible assumption) | assumption); omega); have hx11 : ∀ h : 2 < a0.size, ((a0[2]'h).toNat : Int) = bt a0 2 := bt_at a0 2; clear p11; have qi11 : (2 < (a0.size : Int)) = True := eq_true (of_decide_eq_true (by first | (with_reducible assumption) | assumption)); replace q11 := eq_true q11) | ((with_reducible refine gate_callee (f := 114) rfl ?_); refine goesL_ (some 25) rfl rfl Tryz.func114 (by kernel_rfl) rfl #[.int .u8 (bt a0 2)] rfl (by (try simp only [List.map_toArray, List.map_cons, List.map_nil]); first | done | rfl | (simp only [List.length_drop, List.length_take]; rfl)) ?_; (with_reducible refine (pct_Digit.calls kj1 (bt a0 2) t351 t352 _ A12.out).mono ?_); rintro e w' ⟨rfl, ⟨nd, rfl⟩⟩; refine ⟨_, rfl, ?_⟩))
           go_ret2
           exact ⟨by first | rfl | (simp; done) | (simp [*]; done), by repeat (first | exact Drawn0.refl _ | apply Drawn0.step)⟩
       · rw [if_neg c10] at H
         exact absurd H (by simp)
     · rw [if_neg c7] at H
       exact absurd H (by simp)
def pct_Triplet.f (k : Nat) (a0 : ByteArray) : Option (Bool) := (pct_value.f k a0).bind fun bt353 => (some bt353.2)
theorem pct_Triplet.mono : ∀ a0 k, LeO (pct_Triplet.f k a0) (pct_Triplet.f (k + 1) a0) := by
 intro a0 k
 unfold pct_Triplet.f
 repeat' first
  | (with_reducible exact pct_value.mono _ _)
  | (with_reducible exact LeO.refl _)
  | (with_reducible exact LeO.none _)
  | (with_reducible refine LeO.ite ?_ ?_)
  | (with_reducible refine LeO.bind ?_ (fun _ => ?_))
  | exact pct_value.mono _ _
  | exact LeO.none _
  | refine LeO.ite ?_ ?_
  | refine LeO.bind ?_ (fun _ => ?_)
set_option maxHeartbeats 8000000 in
set_option maxRecDepth 100000 in
theorem pct_Triplet.calls (k : Nat) (a0 : ByteArray) (r : Bool) (w : World) (h : pct_Triplet.f k a0 = some r) :
 Calls Tryz.prog 75 #[.string a0] w fun e w' => e = .returned (.bool r) ∧ Drawn0 w w' := by
 have H : ((pct_value.f k a0).bind fun bt353 => (some bt353.2)) = some r := h
 clear h
 replace H := Option.bind_eq_some_iff.mp H
 obtain ⟨⟨t353, t354⟩, A20, H⟩ := H
 replace H : (some t354) = some r := H
 have A2 := Aside0.mk A20
 clear A20
 obtain rfl := Option.some.inj H
 go_enter Tryz.func75, Tryz.ntmps75
 go_wp2_with (first | ((with_reducible refine gate_callee (f := 96) rfl ?_); refine goesL_ (some 7) rfl rfl Tryz.func96 (by kernel_rfl) rfl #[.string a0] rfl (by (try simp only [List.map_toArray, List.map_cons, List.map_nil]); first | done | rfl | (simp only [List.length_drop, List.length_take]; rfl)) ?_; (with_reducible refine (pct_value.calls k a0 t353 t354 _ A2.out).mono ?_); rintro e w' ⟨rfl, ⟨nd, rfl⟩⟩; refine ⟨_, rfl, ?_⟩))
 go_ret
 exact ⟨by first | rfl | (simp; done) | (simp [*]; done), by repeat (first | exact Drawn0.refl _ | apply Drawn0.step)⟩
end Go.Proofs.YtkipkbggnfllkaaGreatDoor.P
end
section
namespace Go.Proofs.YtkipkbggnfllkaaGreatDoor.P
open Go.RowKit Go.Proofs.YtkipkbggnfllkaaGreatDoorW.PrintWords Go.Proofs.YtkipkbggnfllkaaGreatDoorW.PrintLast Go.Proofs.YtkipkbggnfllkaaGreatDoorW.PrintMore
def isTriplet (s : ByteArray) : Bool := decide (3 ≤ s.size) && (bt s 0 == 37 && (isHex (bt s 1).toNat && isHex (bt s 2).toNat))
theorem pct_Digit_hex (c : Int) (h0 : 0 ≤ c) : ∃ n, pct_Digit.f 3 c = some (n, isHex c.toNat) := by
 have e : (c.toNat : Int) = c := Int.toNat_of_nonneg h0
 unfold pct_Digit.f
 simp only [pct_Digit.j0, pct_Digit.j1, isHex, isDigit, isAF, isaf, e]
 by_cases h1 : c ≥ 48 <;> by_cases h2 : c ≤ 57 <;> by_cases h3 : c ≥ 65 <;> by_cases h4 : c ≤ 70 <;> by_cases h5 : c ≥ 97 <;> by_cases h6 : c ≤ 102 <;> simp [h1, h2, h3, h4, h5, h6] <;> omega
theorem pct_Triplet_eq (s : ByteArray) : pct_Triplet.f 4 s = some (isTriplet s) := by
 unfold pct_Triplet.f pct_value.f isTriplet
 by_cases h : (s.size : Int) < 3
 · have h3 : ¬ 3 ≤ s.size := by omega
   rw [if_pos h]
   simp [pct_value.j0, h3]
 · have h3 : 3 ≤ s.size := by omega
   obtain ⟨n1, e1⟩ := pct_Digit_hex (bt s 1) (bt_range s 1).1
   obtain ⟨n2, e2⟩ := pct_Digit_hex (bt s 2) (bt_range s 2).1
   rw [if_neg h, if_pos (by omega)]
   simp only [pct_value.j0]
   by_cases hp : bt s 0 = 37
   · rw [if_neg (by simp [hp]), if_pos (by omega), e1]
     simp only [Option.bind_some]
     rw [if_pos (by omega), e2]
     simp only [Option.bind_some]
     cases isHex (bt s 1).toNat <;> simp [h3, hp]
   · rw [if_pos (by simp [hp])]
     simp [h3, hp]
def endsFrom (s : ByteArray) : Nat → Int → Int → Int × Int
 | 0, at_, end_ => (at_, end_)
 | k + 1, at_, end_ =>
  if at_ < s.size then
   (if isWord (bt s at_).toNat = true then endsFrom s k (at_ + 1) (at_ + 1)
    else if bt s at_ = 46 ∧ at_ > 0 ∧ at_ = end_ then endsFrom s k (at_ + 1) end_
    else if isTriplet (s.extract at_.toNat s.size) = true then endsFrom s k (at_ + 3) (at_ + 3)
    else if bt s at_ = 37 then (if at_ + 1 < s.size ∧ isHex (bt s (at_ + 1)).toNat = true then (at_ + 2, end_) else (at_ + 1, end_))
    else (at_, end_))
  else (at_, end_)
def vname_ends.f (s : ByteArray) : Option (Int × Int) := if s.size ≤ 1099511627776 then some (endsFrom s (s.size + 1) 0 0) else none
structure Sets2 (w wr : World) (g h : Nat) : Prop where
 s : Four wr g (wd isWord)
 x : Four wr h (wd isHex)
 b : Below w.heap.size w wr
theorem Sets2.step {w wr w1 : World} {g h : Nat} (H : Sets2 w wr g h) (hb : Below wr.heap.size wr w1) : Sets2 w w1 g h :=
 ⟨H.s.kept (hb.block _ H.s.lt), H.x.kept (hb.block _ H.x.lt), below_then H.b H.b.size hb⟩
set_option maxRecDepth 100000 in
set_option maxHeartbeats 8000000 in
theorem vname_ends.calls (s : ByteArray) (r1 r2 : Int) (w : World) (h : vname_ends.f s = some (r1, r2)) :
 Calls Tryz.prog 103 #[.string s] w fun e w' => e = .returned (.tuple #[.int .i64 r1, .int .i64 r2]) ∧ Below w.heap.size w w' := by
 unfold vname_ends.f at h
 split at h
 · rename_i hs
   injection h with h
   have HR := Lib.hid h
   clear h
   go_enter Tryz.func103, Tryz.ntmps103
   go_wp2_with fail
   go_step3
   go_wp2_with fail
   refine (chars_Word.calls _ _ rfl).mono ?_
   rintro e w1 ⟨rfl, hb⟩
   have HB := Lib.hid hb
   clear hb
   go_wp2_with fail
   refine (chars_Hex.calls _ _ rfl).mono ?_
   rintro e w2 ⟨rfl, hb⟩
   have HB2 := Lib.hid (below_then HB.out HB.out.size hb)
   clear hb HB
   unfold setV
   go_wp2
   go_step3
   go_wp2
   go_loopw [6, 7, 8] (fun a z _ wr => ∃ (k : Nat) (x y : Int), a = .int .i64 x ∧ z = .int .i64 y ∧ 0 ≤ x ∧ x ≤ s.size + 2 ∧ s.size < x + k ∧ Hid (endsFrom s k x y = (r1, r2)) ∧ Hid (Sets2 w wr w2.heap.size (w2.heap.size + 1))) (fun a _ _ _ => s.size + 3 - (intOf a).toNat)
   case atStart =>
    exact ⟨s.size + 1, 0, 0, rfl, rfl, by omega, by omega, by omega, HR, Lib.hid ⟨(Four.newP w2 isWord _).alloc _, by have := Four.newP (w2.alloc (.cells #[.int .u64 (wd isWord 0), .int .u64 (wd isWord 1), .int .u64 (wd isWord 2), .int .u64 (wd isWord 3)] 84)) isHex 84; simpa using this, (HB2.out.alloc HB2.out.size _).alloc (by simp; have := HB2.out.size; omega) _⟩⟩
   case round =>
    obtain ⟨k, x, y, rfl, rfl, hx0, hx1, hk, HE, HS⟩ := hrel
    have c0 := HS.out.s.cell 0 (by omega)
    have c1 := HS.out.s.cell 1 (by omega)
    have c2 := HS.out.s.cell 2 (by omega)
    have c3 := HS.out.s.cell 3 (by omega)
    by_cases hlt : x < s.size
    · cases k with
      | zero => omega
      | succ k =>
      have hE := HE.out
      rw [endsFrom, if_pos hlt] at hE
      have hix := bt_at s x
      have hcr := bt_range s x
      obtain ⟨c, hc⟩ : ∃ c, c = bt s x := ⟨_, rfl⟩
      rw [← hc] at hE hcr hix
      obtain ⟨hc0, hc1⟩ := hcr
      clear hc
      have hsl : ∀ W : World, (Instr.slice 9 (.string s) (some (.int .i64 x)) none none).run Tryz.prog W = .ok (.string (s.extract x.toNat s.size)) W := fun W => run_slice_string_l W 9 s Tryz.underlying9 .i64 x hx0 (by omega)
      go_wp2_with fail
      refine (chars_Set_Has.calls isWord c (isWord c.toNat) _ (by rw [chars_Set_Has.f, if_pos ⟨hc0, hc1⟩])).mono ?_
      rintro e w3 ⟨rfl, hb⟩
      have HS3 := Lib.hid (HS.out.step hb)
      clear hb HS c0 c1 c2 c3 HE
      obtain ⟨b, hb⟩ : ∃ b, b = isWord c.toNat := ⟨_, rfl⟩
      rw [← hb] at hE ⊢
      clear hb
      cases b with
      | true =>
       rw [if_pos rfl] at hE
       have HE1 := Lib.hid hE
       clear hE
       go_wp2
       go_roundw
       case rel => exact ⟨k, x + 1, x + 1, by go_num, by go_num, by omega, by omega, by omega, HE1, HS3⟩
       case measure => simp [intOf]; omega
      | false =>
       rw [if_neg (by simp)] at hE
       by_cases hA : c = 46 ∧ x > 0 ∧ x = y
       · rw [if_pos hA] at hE
         have HE1 := Lib.hid hE
         have q1 : (c == 46) = true := beq_iff_eq.2 hA.1
         have q2 : decide (0 < x) = true := decide_eq_true hA.2.1
         have q3 : (x == y) = true := beq_iff_eq.2 hA.2.2
         clear hE hA
         go_wp2
         go_roundw
         case rel => exact ⟨k, x + 1, y, by go_num, rfl, by omega, by omega, by omega, HE1, HS3⟩
         case measure => simp [intOf]; omega
       · rw [if_neg hA] at hE
         have hq : (c == 46) = false ∨ ((c == 46) = true ∧ decide (0 < x) = false) ∨ ((c == 46) = true ∧ decide (0 < x) = true ∧ (x == y) = false) := by
          by_cases h1 : c = 46
          · by_cases h2 : 0 < x
            · exact .inr (.inr ⟨beq_iff_eq.2 h1, decide_eq_true h2, beq_eq_false_iff_ne.2 (fun h3 => hA ⟨h1, h2, h3⟩)⟩)
            · exact .inr (.inl ⟨beq_iff_eq.2 h1, decide_eq_false h2⟩)
          · exact .inl (beq_eq_false_iff_ne.2 h1)
         clear hA
         rcases hq with q1 | ⟨q1, q2⟩ | ⟨q1, q2, q3⟩
         all_goals
          go_wp2_with fail
          refine (pct_Triplet.calls 4 _ _ _ (pct_Triplet_eq (s.extract x.toNat s.size))).mono ?_
          rintro e w4 ⟨rfl, hb⟩
          have HS4 := Lib.hid (HS3.out.step hb.below)
          clear hb HS3
          obtain ⟨tr, htr⟩ : ∃ b, b = isTriplet (s.extract x.toNat s.size) := ⟨_, rfl⟩
          rw [← htr] at hE ⊢
          have HTr := Lib.hid htr
          clear htr
          cases tr with
          | true =>
           rw [if_pos rfl] at hE
           have HE1 := Lib.hid hE
           clear hE
           go_wp2
           go_roundw
           case rel => exact ⟨k, x + 3, x + 3, by go_num, by go_num, by omega, by omega, by omega, HE1, HS4⟩
           case measure => simp [intOf]; omega
          | false =>
           rw [if_neg (by simp)] at hE
           by_cases hp : c = 37
           · rw [if_pos hp] at hE
             have q9 : (c == 37) = true := beq_iff_eq.2 hp
             clear hp
             by_cases h5 : x + 1 < s.size
             · have hix2 := bt_at s (x + 1)
               have hcr := bt_range s (x + 1)
               obtain ⟨c2, hc2⟩ : ∃ c, c = bt s (x + 1) := ⟨_, rfl⟩
               rw [← hc2] at hE hcr hix2
               obtain ⟨hc20, hc21⟩ := hcr
               have HE0 := Lib.hid hE
               have d0 := HS4.out.x.cell 0 (by omega)
               have d1 := HS4.out.x.cell 1 (by omega)
               have d2 := HS4.out.x.cell 2 (by omega)
               have d3 := HS4.out.x.cell 3 (by omega)
               clear hc2 hE
               go_wp2_with fail
               have k0 := cell_regrown d0
               have k1 := cell_regrown d1
               have k2 := cell_regrown d2
               have k3 := cell_regrown d3
               cases hbx : isHex c2.toNat with
               | true =>
                have HDB := Lib.hid hbx
                have HE1 := HE0.out
                rw [if_pos ⟨h5, hbx⟩] at HE1
                have HEE := Lib.hid HE1
                clear HE1 hbx HE0
                refine wp_region_quiet_below (by kernel_rfl) (by kernel_rfl) ?_
                repeat (go_big_quiet_step (exact Calls.regrown_of (chars_Set_Has.calls isHex c2 true _ (by rw [chars_Set_Has.f, if_pos ⟨hc20, hc21⟩, HDB.out]))))
                refine wpQuiet_nil ?_
                rintro _ ⟨⟨dq, osq⟩, rfl⟩
                have HS5 := Lib.hid (HS4.out.step (below_regrown _ dq osq))
                go_wp2
                rw [Exit.noGoto_ret]
                go_ret2
                have := HEE.out
                simp only [Prod.mk.injEq] at this
                obtain ⟨rfl, rfl⟩ := this
                refine ⟨?_, HS5.out.b⟩
                show Ending.returned (.tuple #[.int .i64 (x + 1 + 1), .int .i64 y]) = _
                rw [show x + 1 + 1 = x + 2 by omega]
               | false =>
                have HDB := Lib.hid hbx
                have HE1 := HE0.out
                rw [if_neg (fun h => by rw [hbx] at h; exact absurd h.2 (by simp))] at HE1
                have HEE := Lib.hid HE1
                clear HE1 hbx HE0
                refine wp_region_quiet_below (by kernel_rfl) (by kernel_rfl) ?_
                repeat (go_big_quiet_step (exact Calls.regrown_of (chars_Set_Has.calls isHex c2 false _ (by rw [chars_Set_Has.f, if_pos ⟨hc20, hc21⟩, HDB.out]))))
                refine wpQuiet_nil ?_
                rintro _ ⟨⟨dq, osq⟩, rfl⟩
                have HS5 := Lib.hid (HS4.out.step (below_regrown _ dq osq))
                go_wp2
                rw [Exit.noGoto_ret]
                go_ret2
                have := HEE.out
                simp only [Prod.mk.injEq] at this
                obtain ⟨rfl, rfl⟩ := this
                exact ⟨rfl, HS5.out.b⟩
             · have h5b : decide (x + 1 < s.size) = false := decide_eq_false h5
               rw [if_neg (fun h => h5 h.1)] at hE
               have HE1 := Lib.hid hE
               clear hE
               go_wp2_with fail
               go_quiet (fail)
               go_wp2
               rw [Exit.noGoto_ret]
               go_ret2
               have := HE1.out
               simp only [Prod.mk.injEq] at this
               obtain ⟨rfl, rfl⟩ := this
               exact ⟨rfl, pw_below_drewN HS4.out.b _⟩
           · rw [if_neg hp] at hE
             have q9 : (c == 37) = false := beq_eq_false_iff_ne.2 hp
             have HE1 := Lib.hid hE
             clear hp hE
             go_wp2
             rw [Exit.noGoto_ret]
             go_ret2
             have := HE1.out
             simp only [Prod.mk.injEq] at this
             obtain ⟨rfl, rfl⟩ := this
             exact ⟨rfl, HS4.out.b⟩
    · have hE := HE.out
      have hstop : endsFrom s k x y = (x, y) := by
       cases k with
       | zero => rfl
       | succ k => rw [endsFrom, if_neg hlt]
      rw [hstop] at hE
      have HE1 := Lib.hid hE
      clear hE
      go_wp2
      go_ret2
      have := HE1.out
      simp only [Prod.mk.injEq] at this
      obtain ⟨rfl, rfl⟩ := this
      exact ⟨rfl, HS.out.b⟩
 · cases h
end Go.Proofs.YtkipkbggnfllkaaGreatDoor.P
end
section
namespace Go.Proofs.YtkipkbggnfllkaaGreatDoor.P
open Go.RowKit Go.Proofs.YtkipkbggnfllkaaGreatDoorW.PrintWords Go.Proofs.YtkipkbggnfllkaaGreatDoorW.PrintLast Go.Proofs.YtkipkbggnfllkaaGreatDoorW.PrintMore
attribute [local go_sem] max2_int min2_int max_two min_two max_three min_three max_four min_four
set_option linter.unusedVariables false
set_option linter.unusedSimpArgs false
def vname_End.f (a0 : ByteArray) : Option (Int) := (vname_ends.f a0).bind fun bt379 => (some bt379.2)
set_option maxHeartbeats 8000000 in
set_option maxRecDepth 100000 in
theorem vname_End.calls (a0 : ByteArray) (r : Int) (w : World) (h : vname_End.f a0 = some r) :
 Calls Tryz.prog 86 #[.string a0] w fun e w' => e = .returned (.int .i64 r) ∧ Below w.heap.size w w' := by
 have HB := Aside0.mk (Below.refl w.heap.size w)
 have H : ((vname_ends.f a0).bind fun bt379 => (some bt379.2)) = some r := h
 clear h
 replace H := Option.bind_eq_some_iff.mp H
 obtain ⟨⟨t379, t380⟩, A20, H⟩ := H
 replace H : (some t380) = some r := H
 have A2 := Aside0.mk A20
 clear A20
 obtain rfl := Option.some.inj H
 go_enter Tryz.func86, Tryz.ntmps86
 go_wp2_with (first | ((with_reducible refine gate_callee (f := 103) rfl ?_); refine goesL_ (some 7) rfl rfl Tryz.func103 (by kernel_rfl) rfl #[.string a0] rfl (by (try simp only [List.map_toArray, List.map_cons, List.map_nil]); first | done | rfl | (simp only [List.length_drop, List.length_take]; rfl)) ?_; (with_reducible refine (vname_ends.calls a0 t379 t380 _ A2.out).mono ?_); rintro e w3 ⟨rfl, hb⟩; refine ⟨_, rfl, ?_⟩; have n0_ := Aside0.mk (below_step (by repeat (first | (with_reducible first | exact HB.out | apply below_alloc | apply pw_below_drewN | apply below_drew1) | exact HB.out)) hb); clear HB; have HB := n0_; clear n0_; (try clear hb); (try clear hb2); (try clear hk); (try clear hi)))
 go_ret
 exact ⟨by first | rfl | (simp [errW_none, errW_some] <;> rfl) | (simp [*, errW_none, errW_some] <;> rfl), by repeat (first | (with_reducible first | exact HB.out | apply below_alloc | apply pw_below_drewN | apply below_drew1) | exact HB.out)⟩
def vname_Bad.f (a0 : ByteArray) : Option (Int) := (vname_ends.f a0).bind fun bt387 => (some bt387.1)
set_option maxHeartbeats 8000000 in
set_option maxRecDepth 100000 in
theorem vname_Bad.calls (a0 : ByteArray) (r : Int) (w : World) (h : vname_Bad.f a0 = some r) :
 Calls Tryz.prog 90 #[.string a0] w fun e w' => e = .returned (.int .i64 r) ∧ Below w.heap.size w w' := by
 have HB := Aside0.mk (Below.refl w.heap.size w)
 have H : ((vname_ends.f a0).bind fun bt387 => (some bt387.1)) = some r := h
 clear h
 replace H := Option.bind_eq_some_iff.mp H
 obtain ⟨⟨t387, t388⟩, A20, H⟩ := H
 replace H : (some t387) = some r := H
 have A2 := Aside0.mk A20
 clear A20
 obtain rfl := Option.some.inj H
 go_enter Tryz.func90, Tryz.ntmps90
 go_wp2_with (first | ((with_reducible refine gate_callee (f := 103) rfl ?_); refine goesL_ (some 7) rfl rfl Tryz.func103 (by kernel_rfl) rfl #[.string a0] rfl (by (try simp only [List.map_toArray, List.map_cons, List.map_nil]); first | done | rfl | (simp only [List.length_drop, List.length_take]; rfl)) ?_; (with_reducible refine (vname_ends.calls a0 t387 t388 _ A2.out).mono ?_); rintro e w3 ⟨rfl, hb⟩; refine ⟨_, rfl, ?_⟩; have n0_ := Aside0.mk (below_step (by repeat (first | (with_reducible first | exact HB.out | apply below_alloc | apply pw_below_drewN | apply below_drew1) | exact HB.out)) hb); clear HB; have HB := n0_; clear n0_; (try clear hb); (try clear hb2); (try clear hk); (try clear hi)))
 go_ret
 exact ⟨by first | rfl | (simp [errW_none, errW_some] <;> rfl) | (simp [*, errW_none, errW_some] <;> rfl), by repeat (first | (with_reducible first | exact HB.out | apply below_alloc | apply pw_below_drewN | apply below_drew1) | exact HB.out)⟩
end Go.Proofs.YtkipkbggnfllkaaGreatDoor.P
end
section
namespace Go.Proofs.YtkipkbggnfllkaaGreatDoor.P
open Go.RowKit Go.Proofs.YtkipkbggnfllkaaGreatDoorW.PrintWords Go.Proofs.YtkipkbggnfllkaaGreatDoorW.PrintLast Go.Proofs.YtkipkbggnfllkaaGreatDoorW.PrintMore
theorem enters_fn {P : Program} {f : FuncId} {fn : Func} {c : Code} (hf : P.funcs[f]? = some fn) (hname : (fn.name == "runtime.NumGoroutine") = false) (hb : fn.body = some c) :
 ∀ (args : Array Value) (w : World), (callFunc f args).run P w = .ok (.enter f args) w := by
 intro args w
 have h1 : fn.name ≠ "runtime.NumGoroutine" := by simpa using hname
 simp [callFunc, hf, h1, hb, mark]
def badAt (s : ByteArray) (p : Nat) : Bool :=
 (Utf8.decode s p).1 == 65533 && (decide (s.size - p < 3) || (s.extract p (p + 3)).toList != (Utf8.encode 65533).toList)
def charsFrom (s : ByteArray) : Nat → Nat → List Int × Nat
 | 0, p => ([], p)
 | k + 1, p => if p < s.size ∧ badAt s p = false then (((Utf8.decode s p).1 : Int) :: (charsFrom s k (p + (Utf8.decode s p).2)).1, (charsFrom s k (p + (Utf8.decode s p).2)).2) else ([], p)
theorem decode_pos (s : ByteArray) (p : Nat) (h : p < s.size) : 1 ≤ (Utf8.decode s p).2 := by
 by_cases ha : (s[p]'h).toNat < 128
 · rw [decode_ascii s p h ha]
   exact Nat.le_refl _
 · exact (decode_high s p h (by omega)).2
theorem decode_fits (s : ByteArray) (p : Nat) (h : p < s.size) : p + (Utf8.decode s p).2 ≤ s.size := by
 unfold Utf8.decode
 repeat' (first | split | dsimp only [] at *)
 all_goals (try simp only [Bool.and_eq_true, decide_eq_true_eq] at *)
 all_goals omega
theorem charsFrom_step {s : ByteArray} {k p : Nat} (h : p < s.size) (hb : badAt s p = false) : charsFrom s (k + 1) p = (((Utf8.decode s p).1 : Int) :: (charsFrom s k (p + (Utf8.decode s p).2)).1, (charsFrom s k (p + (Utf8.decode s p).2)).2) := by
 rw [charsFrom, if_pos ⟨h, hb⟩]
theorem charsFrom_stop {s : ByteArray} {k p : Nat} (h : ¬ (p < s.size ∧ badAt s p = false)) : charsFrom s k p = ([], p) := by
 cases k with
 | zero => rfl
 | succ k => rw [charsFrom, if_neg h]
theorem badAt_eq (s : ByteArray) (p : Nat) (c : Int) (hc : c = ((Utf8.decode s p).1 : Int)) :
 badAt s p = (c == 65533 && (decide (s.size - p < 3) || (s.extract p (p + 3)).toList != (Utf8.encode c).toList)) := by
 unfold badAt
 by_cases h : c = 65533
 · have h1 : (Utf8.decode s p).1 = 65533 := by omega
   rw [h1, h]; simp
 · have h1 : ¬ (Utf8.decode s p).1 = 65533 := by omega
   rw [show ((Utf8.decode s p).1 == 65533) = false from beq_eq_false_iff_ne.2 h1, show (c == 65533) = false from beq_eq_false_iff_ne.2 h]; rfl
theorem utf_round {w w1 : World} {I : List Int → World → Prop} {s : ByteArray} {k p n : Nat} {c : Int} {l : List Int} (hn : n = (Utf8.decode s p).2) (hc : c = ((Utf8.decode s p).1 : Int)) (hlt : p < s.size) (hb : badAt s p = false)
 (HC : charsFrom s s.size 0 = (l ++ (charsFrom s k p).1, (charsFrom s k p).2)) (hk : s.size ≤ p + k) (hp : p + n ≤ s.size) (hlen : l.length ≤ p)
 (HK : Hid (w1.heap[w.heap.size]? = some (.stringIter s (p + n)))) (HI : Hid (I (l ++ [c]) w1)) :
 ∃ (k p : Nat) (l : List Int), Hid (w1.heap[w.heap.size]? = some (.stringIter s p)) ∧ Hid (charsFrom s s.size 0 = (l ++ (charsFrom s k p).1, (charsFrom s k p).2)) ∧ s.size ≤ p + k ∧ p ≤ s.size ∧ l.length ≤ p ∧ Hid (I l w1) := by
 cases k with
 | zero => omega
 | succ k =>
  have h1 := decode_pos s p hlt
  refine ⟨k, p + n, l ++ [c], HK, Lib.hid ?_, by omega, hp, by simp; omega, HI⟩
  rw [HC, charsFrom_step hlt hb, hn, hc]
  simp
theorem utf_measure {w wr w1 : World} {s : ByteArray} {p n : Nat} (h : wr.heap[w.heap.size]? = some (.stringIter s p)) (h1 : w1.heap[w.heap.size]? = some (.stringIter s (p + n))) (hlt : p < s.size) (hn : 1 ≤ n) :
 s.size - w1.iterPos w.heap.size < s.size - wr.iterPos w.heap.size := by
 simp only [World.iterPos, h, h1]
 omega
set_option maxRecDepth 100000 in
set_option maxHeartbeats 800000 in
theorem utf_each (G : Nat) (cap : Array Value) (hcf : ∀ (args : Array Value) (W : World), (callFunc G args).run Tryz.prog W = .ok (.enter G args) W) (s : ByteArray) (hs : s.size ≤ 9223372036854775807) (I : List Int → World → Prop) (w : World) (h0 : I [] (w.iter s 0))
 (hI : ∀ l W p q, W.heap[w.heap.size]? = some (.stringIter s q) → I l W → I l (W.iterAt w.heap.size s p))
 (hstep : ∀ l (c : Int) W, 0 ≤ c → c ≤ 2147483647 → l.length < s.size → I l W → Calls Tryz.prog G (#[.int .i64 c] ++ cap) W fun e W' => e = .returned (.tuple #[]) ∧ I (l ++ [c]) W' ∧ (∀ p, W.heap[w.heap.size]? = some (.stringIter s p) → W'.heap[w.heap.size]? = some (.stringIter s p))) :
 Calls Tryz.prog 112 #[.string s, .func (.func G) #[] cap] w fun e w' => e = .returned (.int .i64 (charsFrom s s.size 0).2) ∧ I (charsFrom s s.size 0).1 w' := by
 have H0 := Lib.hid h0
 have HI := Lib.hid hI
 have HS := Lib.hid hstep
 clear h0 hI hstep
 go_enter Tryz.func112, Tryz.ntmps112
 go_wp2
 go_loopw [5, 6] (fun _ _ wr => ∃ (k p : Nat) (l : List Int), Hid (wr.heap[w.heap.size]? = some (.stringIter s p)) ∧ Hid (charsFrom s s.size 0 = (l ++ (charsFrom s k p).1, (charsFrom s k p).2)) ∧ s.size ≤ p + k ∧ p ≤ s.size ∧ l.length ≤ p ∧ Hid (I l wr)) (fun _ _ wr => s.size - wr.iterPos w.heap.size)
 case atStart =>
  exact ⟨s.size, 0, [], Lib.hid (World.iter_heap w s 0), Lib.hid (by simp), by omega, by omega, by simp, H0⟩
 case round =>
  obtain ⟨k, p, l, HK, HC, hk, hp, hlen, HIl⟩ := hrel
  by_cases hlt : p < s.size
  · have hnx : ∀ ty, (Instr.next (.pointer (some ⟨w.heap.size, 0, none⟩)) true ty).run Tryz.prog wr = _ := fun ty => Lib.run_next_any_at wr w.heap.size s p ty HK.out hlt
    obtain ⟨c, hc⟩ : ∃ c : Int, c = ((Utf8.decode s p).1 : Int) := ⟨_, rfl⟩
    obtain ⟨n, hn⟩ : ∃ n, n = (Utf8.decode s p).2 := ⟨_, rfl⟩
    rw [← hc, ← hn] at hnx
    have hc0 : 0 ≤ c := by rw [hc]; exact Int.natCast_nonneg _
    have hc1 : c ≤ 2147483647 := by have := decode_le s p; rw [hc]; omega
    have hn1 : 1 ≤ n := by rw [hn]; exact decode_pos s p hlt
    have hnle : p + n ≤ s.size := by rw [hn]; exact decode_fits s p hlt
    have HCc := Lib.hid hc
    have HN := Lib.hid hn
    clear hc hn
    by_cases hc : c = 65533
    · have hcb : (c == 65533) = true := beq_iff_eq.2 hc
      have HCN := Lib.hid hc
      clear hc
      by_cases h3 : s.size - p < 3
      · have h3b : decide ((s.size : Int) - (p : Int) < 3) = true := decide_eq_true (by omega)
        have HBad : Hid (badAt s p = true) := Lib.hid (by rw [badAt_eq s p c HCc.out]; simp [HCN.out, h3])
        have HI1 := Lib.hid (HI.out l wr (p + n) p HK.out HIl.out)
        go_wp2
        go_ret
        rw [HC.out, charsFrom_stop (fun h => by rw [HBad.out] at h; exact absurd h.2 (by simp))]
        exact ⟨rfl, by simpa using HI1.out⟩
      · have h3b : decide ((s.size : Int) - (p : Int) < 3) = false := decide_eq_false (by omega)
        have h3n : decide (s.size - p < 3) = false := decide_eq_false h3
        have hsl : ∀ W, (Instr.slice 9 (.string s) (some (.int .i64 (p : Int))) (some (.int .i64 ((p : Int) + 3))) none).run Tryz.prog W = .ok (.string (s.extract p (p + 3))) W := fun W => by
         rw [run_slice_string (P := Tryz.prog) W 9 s .i64 .i64 (p : Int) ((p : Int) + 3) Tryz.underlying9 (by omega) (by omega) (by omega)]
         rw [Int.toNat_natCast, show ((p : Int) + 3).toNat = p + 3 by omega]
        by_cases h4 : (s.extract p (p + 3)).toList = (Utf8.encode c).toList
        · have h4b : ((s.extract p (p + 3)).toList == (Utf8.encode c).toList) = true := by simp [h4]
          clear h4
          have HBad : Hid (badAt s p = false) := Lib.hid (by rw [badAt_eq s p c HCc.out]; simp only [bne, h4b, h3n]; simp)
          go_wp2_with fail
          refine (HS.out l c (wr.iterAt w.heap.size s (p + n)) hc0 hc1 (by omega) (HI.out l wr (p + n) p HK.out HIl.out)).mono ?_
          rintro e w1 ⟨rfl, hi1, hi2⟩
          have HI1 := Lib.hid hi1
          have HK1 := Lib.hid (hi2 _ (Lib.iterAt_heap wr w.heap.size s p (p + n) HK.out))
          clear hi1 hi2
          go_wp2
          go_roundw
          case rel => exact utf_round HN.out HCc.out hlt HBad.out HC.out hk hnle hlen HK1 HI1
          case measure => exact utf_measure HK.out HK1.out hlt hn1
        · have h4b : ((s.extract p (p + 3)).toList == (Utf8.encode c).toList) = false := by simp [h4]
          clear h4
          have HBad : Hid (badAt s p = true) := Lib.hid (by rw [badAt_eq s p c HCc.out]; simp only [bne, h4b, hcb]; simp)
          have HI1 := Lib.hid (HI.out l wr (p + n) p HK.out HIl.out)
          go_wp2
          go_ret
          rw [HC.out, charsFrom_stop (fun h => by rw [HBad.out] at h; exact absurd h.2 (by simp))]
          exact ⟨rfl, by simpa using HI1.out⟩
    · have hcb : (c == 65533) = false := beq_eq_false_iff_ne.2 hc
      have HCN := Lib.hid hc
      clear hc
      have HBad : Hid (badAt s p = false) := Lib.hid (by rw [badAt_eq s p c HCc.out]; simp [HCN.out])
      go_wp2_with fail
      refine (HS.out l c (wr.iterAt w.heap.size s (p + n)) hc0 hc1 (by omega) (HI.out l wr (p + n) p HK.out HIl.out)).mono ?_
      rintro e w1 ⟨rfl, hi1, hi2⟩
      have HI1 := Lib.hid hi1
      have HK1 := Lib.hid (hi2 _ (Lib.iterAt_heap wr w.heap.size s p (p + n) HK.out))
      clear hi1 hi2
      go_wp2
      go_roundw
      case rel => exact utf_round HN.out HCc.out hlt HBad.out HC.out hk hnle hlen HK1 HI1
      case measure => exact utf_measure HK.out HK1.out hlt hn1
  · have hnx : ∀ ty, (Instr.next (.pointer (some ⟨w.heap.size, 0, none⟩)) true ty).run Tryz.prog wr = _ := fun ty => Lib.run_next_end_at wr w.heap.size s p ty HK.out hlt
    go_wp2
    go_ret
    rw [HC.out, charsFrom_stop (fun h => hlt h.1)]
    simp
    refine ⟨?_, HIl.out⟩
    omega
def utf_Bad.f (s : ByteArray) : Option Int := if s.size ≤ 1099511627776 then some ((charsFrom s s.size 0).2 : Int) else none
set_option maxHeartbeats 400000 in
theorem utf_Bad1.calls (c : Int) (w : World) : Calls Tryz.prog 124 (#[.int .i64 c] ++ #[]) w fun e w' => e = .returned (.tuple #[]) ∧ w = w' := by
 show Calls Tryz.prog 124 #[.int .i64 c] w _
 go_enter Tryz.func124, Tryz.ntmps124
 go_wp2
 go_end0
 exact ⟨rfl, rfl⟩
theorem utf_Bad.calls (s : ByteArray) (r : Int) (w : World) (h : utf_Bad.f s = some r) :
 Calls Tryz.prog 111 #[.string s] w fun e w' => e = .returned (.int .i64 r) ∧ Below w.heap.size w w' := by
 unfold utf_Bad.f at h
 split at h
 · rename_i hs
   injection h with h
   have HR := Lib.hid h
   clear h
   go_enter Tryz.func111, Tryz.ntmps111
   go_wp2_with fail
   refine (utf_each 124 #[] (enters_fn Tryz.func124 (by kernel_rfl) rfl) s (by omega) (fun _ W => Below w.heap.size w W) w ((Below.refl _ _).alloc (Nat.le_refl _) _) (fun l W p _ _ hb => Lib.below_iterAt hb (Nat.le_refl _) _ _) ?_).mono ?_
   · intro l c W _ _ _ hI
     refine (utf_Bad1.calls c W).mono ?_
     rintro e w' ⟨rfl, rfl⟩
     exact ⟨rfl, hI, fun p hp => hp⟩
   · rintro e w' ⟨rfl, hb⟩
     go_wp2
     go_ret
     rw [HR.out]
     exact ⟨rfl, hb⟩
 · cases h
def notB (B k : Nat) : Prop := k ≠ B
structure LBox (B : Nat) (w W : World) (l : List Int) (v : Value) : Prop where
 box : W.heap[B]? = some (.cells #[v] 91 (0, 0))
 row : (Kd.int .i64).R 3 W B (notB B) v l
 b : Below B w W
theorem infoInt : (Tryz.prog.info? 3).map (fun i => (i.zero, i.size, i.bytes)) = some (some (.int .i64 0), 1, 8) := by kernel_rfl
set_option maxRecDepth 100000 in
set_option maxHeartbeats 400000 in
theorem utf_Chars1.calls (B : Nat) (w W : World) (l : List Int) (v : Value) (c : Int) (hl : l.length < 1099511627776) (H : LBox B w W l v) :
 Calls Tryz.prog 113 (#[.int .i64 c] ++ #[.pointer (some ⟨B, 0, none⟩)]) W fun e W' => e = .returned (.tuple #[]) ∧ (∃ v', LBox B w W' (l ++ [c]) v') ∧ ∀ (D : Nat) (s : ByteArray) (p : Nat), W.heap[D]? = some (Obj.stringIter s p) → W'.heap[D]? = some (Obj.stringIter s p) := by
 have hc := cell_of_one H.box
 have hf := free_of_one H.box
 have HH := Lib.hid H
 clear H
 show Calls Tryz.prog 113 #[.int .i64 c, .pointer (some ⟨B, 0, none⟩)] W _
 go_enter Tryz.func113, Tryz.ntmps113
 go_wp2_with (at_builtin; go_must (refine Kd.R_append (Kd.int .i64) (w0 := w) B rfl _ _ 91 3 (.int .i64 0) 8 rfl Tryz.underlying91 infoInt rfl (by decide) (by decide) v l c [.int .i64 c] (notB B) (fun k => notB B k ∧ some k ≠ v.ownBlock) rfl rfl rfl (fun _ h => h) ?hfr HH.out.row HH.out.b (Nat.le_of_lt (lt_of_block HH.out.box)) (by omega) ?_))
 case hfr => exact fun k hk => by have := lt_of_block HH.out.box; unfold notB; omega
 intro v1 w1 HR HB hg hat
 have hbox : w1.heap[B]? = some (.cells #[v] 91 (0, 0)) := (hg.block B (lt_of_block HH.out.box) (fun e => HH.out.row.1 B e.symm rfl)).trans HH.out.box
 have HD := Lib.hid (show ∀ (D : Nat) (s : ByteArray) (p : Nat), W.heap[D]? = some (Obj.stringIter s p) → w1.heap[D]? = some (Obj.stringIter s p) from fun D s p h => (hg.block D (lt_of_block h) (fun e => by
  obtain ⟨cells, hcc⟩ := Kd.R_typed HH.out.row D e.symm
  rw [hcc] at h
  cases h)).trans h)
 have HX := Lib.hid hbox
 have hc1 := cell_of_one hbox
 have hf1 := free_of_one hbox
 obtain ⟨A1, c1, rfl⟩ := Kd.R_slice HR
 rw [List.length_append, List.length_singleton] at HR
 have HRR := Lib.hid HR
 have HBB := Lib.hid HB
 clear HR HB hg hat hc hf hbox
 go_wp2
 go_end0
 refine ⟨rfl, ⟨_, one_setCell HX.out, Kd.R_far (p := ⟨B, 0, none⟩) HRR.out (fun k hk => hk) _, HBB.out.setCell (Nat.le_refl _) _⟩, fun D s p h => ?_⟩
 rw [Below.heap_setCell _ _ _ _ (fun e => ?_)]
 · exact HD.out D s p h
 · have h1 := HH.out.box
   have h2 : D = B := e
   rw [← h2, h] at h1
   cases h1
def utf_Chars.f (s : ByteArray) : Option (List Int × Bool) :=
 if s.size ≤ 1099511627776 then some (if (charsFrom s s.size 0).2 < s.size then ([], false) else ((charsFrom s s.size 0).1, true)) else none
set_option maxRecDepth 100000 in
set_option maxHeartbeats 400000 in
theorem utf_Chars.calls (s : ByteArray) (r1 : List Int) (r2 : Bool) (w : World) (h : utf_Chars.f s = some (r1, r2)) :
 Calls Tryz.prog 92 #[.string s] w fun e w' => ∃ v0_ : Value, e = .returned (.tuple #[v0_, .bool r2]) ∧ (Kd.int .i64).R 3 w' w.heap.size (fun _ => True) v0_ r1 ∧ Below w.heap.size w w' := by
 unfold utf_Chars.f at h
 split at h
 · rename_i hs
   injection h with h
   have HR := Lib.hid h
   clear h
   go_enter Tryz.func92, Tryz.ntmps92
   go_wp2_with fail
   refine (utf_each 113 _ (enters_fn Tryz.func113 (by kernel_rfl) rfl) s (by omega) (fun l W => ∃ v, LBox w.heap.size w W l v) _ ?h0 ?hI ?hstep).mono ?_
   case h0 => exact ⟨_, (heap_alloc_old _ _ (by simp)).trans (heap_alloc_new w _), Kd.R_nil _ _ _ _ _, ((Below.refl _ _).alloc (Nat.le_refl _) _).alloc (by simp) _⟩
   case hI =>
    rintro l W p q hq ⟨v, h⟩
    refine ⟨v, (Lib.iterAt_other _ _ _ _ _ (by simp)).trans h.box, Kd.R_mono (Kd.R_move (Kd.R_bound h.row) (fun k hk => Lib.iterAt_other _ _ _ _ _ (fun e => ?_))) (fun k hk => hk.1), Lib.below_iterAt h.b (by simp) _ _⟩
    obtain ⟨_, _, _, _, _, cells, hcc⟩ := hk
    rw [e, hq] at hcc
    cases hcc
   case hstep =>
    rintro l c W _ _ hl ⟨v, h⟩
    refine (utf_Chars1.calls w.heap.size w W l v c (by omega) h).mono ?_
    rintro e W' ⟨rfl, hv, hk⟩
    exact ⟨rfl, hv, fun p hp => hk _ _ p hp⟩
   rintro e w1 ⟨rfl, v, hb⟩
   obtain ⟨n, hn⟩ : ∃ n, n = (charsFrom s s.size 0).2 := ⟨_, rfl⟩
   obtain ⟨l, hl⟩ : ∃ l, l = (charsFrom s s.size 0).1 := ⟨_, rfl⟩
   rw [← hl] at hb
   rw [← hn, ← hl] at HR
   rw [← hn]
   clear hn hl
   by_cases hlt : n < s.size
   · rw [if_pos hlt] at HR
     have hd : decide (n < s.size) = true := decide_eq_true hlt
     have HB := Lib.hid hb
     clear hb
     go_wp2
     go_ret2
     have := HR.out
     simp only [Prod.mk.injEq] at this
     obtain ⟨rfl, rfl⟩ := this
     exact ⟨_, rfl, Kd.R_nil _ _ _ _ _, HB.out.b⟩
   · rw [if_neg hlt] at HR
     have hd : decide (n < s.size) = false := decide_eq_false hlt
     have hc := cell_of_one hb.box
     have HB := Lib.hid hb
     clear hb
     go_wp2
     go_ret2
     have := HR.out
     simp only [Prod.mk.injEq] at this
     obtain ⟨rfl, rfl⟩ := this
     exact ⟨_, rfl, Kd.R_mono HB.out.row (fun _ _ => trivial), HB.out.b⟩
 · cases h
def prefPos (s : ByteArray) (most : Int) : Nat → Nat → Int → Nat
 | 0, p, _ => p
 | k + 1, p, n => if p < s.size then (if n ≥ most then p else prefPos s most k (p + (Utf8.decode s p).2) (n + 1)) else s.size
def utf_Prefix.f (s : ByteArray) (most : Int) : Option ByteArray :=
 if s.size ≤ 1099511627776 then some ((s.extract 0 (charsFrom s s.size 0).2).extract 0 (prefPos (s.extract 0 (charsFrom s s.size 0).2) most ((s.extract 0 (charsFrom s s.size 0).2).size + 1) 0 0)) else none
theorem charsFrom_le (s : ByteArray) : ∀ k p, p ≤ s.size → (charsFrom s k p).2 ≤ s.size
 | 0, p, h => h
 | k + 1, p, h => by
  by_cases hs : p < s.size ∧ badAt s p = false
  · rw [charsFrom_step hs.1 hs.2]
    exact charsFrom_le s k _ (decode_fits s p hs.1)
  · rw [charsFrom_stop hs]; exact h
set_option maxRecDepth 100000 in
set_option maxHeartbeats 400000 in
theorem utf_Prefix.calls (s : ByteArray) (most : Int) (r : ByteArray) (w : World) (h : utf_Prefix.f s most = some r) :
 Calls Tryz.prog 91 #[.string s, .int .i64 most] w fun e w' => e = .returned (.string r) ∧ Below w.heap.size w w' := by
 unfold utf_Prefix.f at h
 split at h
 · rename_i hs
   injection h with h
   obtain ⟨n, hn⟩ : ∃ n, n = (charsFrom s s.size 0).2 := ⟨_, rfl⟩
   have hns : n ≤ s.size := by rw [hn]; exact charsFrom_le s _ _ (Nat.zero_le _)
   have HB0 : utf_Bad.f s = some (n : Int) := by rw [utf_Bad.f, if_pos hs, hn]
   rw [← hn] at h
   obtain ⟨u, hu⟩ : ∃ u, u = s.extract 0 n := ⟨_, rfl⟩
   have husz : u.size ≤ 1099511627776 := by rw [hu]; simp; omega
   have HU := Lib.hid hu
   rw [← hu] at h
   have HR := Lib.hid h
   have HB1 := Lib.hid HB0
   clear h hn HB0 hu
   have hsl : ∀ W, (Instr.slice 9 (.string s) none (some (.int .i64 (n : Int))) none).run Tryz.prog W = .ok (.string u) W := fun W => by
    rw [run_slice_string_h (P := Tryz.prog) W 9 s Tryz.underlying9 .i64 (n : Int) (by omega) (by omega), HU.out]
    rfl
   go_enter Tryz.func91, Tryz.ntmps91
   go_wp2_with fail
   refine (utf_Bad.calls s _ _ HB1.out).mono ?_
   rintro e w1 ⟨rfl, hb⟩
   have HB := Lib.hid hb
   clear hb
   go_wp2
   go_loopw [5, 6] (fun c _ wr => ∃ (k p m : Nat), wr = w1.iter u p ∧ c = .int .i64 (m : Int) ∧ m ≤ p ∧ p ≤ u.size ∧ u.size < p + k ∧ Hid (prefPos u most k p (m : Int) = prefPos u most (u.size + 1) 0 0)) (fun _ _ wr => u.size - wr.iterPos w1.heap.size)
   case atStart => exact ⟨u.size + 1, 0, 0, rfl, rfl, by omega, by omega, by omega, Lib.hid rfl⟩
   case round =>
    obtain ⟨k, p, m, rfl, rfl, hm, hp, hk, HP⟩ := hrel
    by_cases hlt : p < u.size
    · have hnx : ∀ ty, (Instr.next (.pointer (some ⟨w1.heap.size, 0, none⟩)) true ty).run Tryz.prog (w1.iter u p) = _ := fun ty => run_next_any w1 u p ty hlt
      obtain ⟨q, hq⟩ : ∃ q, q = (Utf8.decode u p).2 := ⟨_, rfl⟩
      obtain ⟨c, hc⟩ : ∃ c : Int, c = ((Utf8.decode u p).1 : Int) := ⟨_, rfl⟩
      rw [← hc, ← hq] at hnx
      have hq1 : 1 ≤ q := by rw [hq]; exact decode_pos u p hlt
      have hqle : p + q ≤ u.size := by rw [hq]; exact decode_fits u p hlt
      have HQ := Lib.hid hq
      clear hc hq
      cases k with
      | zero => omega
      | succ k =>
       have HP1 := HP.out
       rw [prefPos, if_pos hlt] at HP1
       by_cases hge : (m : Int) ≥ most
       · rw [if_pos hge] at HP1
         have hgb : decide (most ≤ (m : Int)) = true := decide_eq_true hge
         have HPP := Lib.hid HP1
         clear HP1 hge HP
         have hsl2 : ∀ W, (Instr.slice 9 (.string u) none (some (.int .i64 (p : Int))) none).run Tryz.prog W = .ok (.string (u.extract 0 p)) W := fun W => by
          rw [run_slice_string_h (P := Tryz.prog) W 9 u Tryz.underlying9 .i64 (p : Int) (by omega) (by omega)]
          rfl
         go_wp2
         go_ret
         refine ⟨?_, ?_⟩
         · show Ending.returned (.string (u.extract 0 p)) = _; rw [← HR.out, ← HPP.out]
         · exact HB.out.alloc HB.out.size _
       · rw [if_neg hge] at HP1
         have hgb : decide (most ≤ (m : Int)) = false := decide_eq_false hge
         have HPP := Lib.hid HP1
         clear HP1 hge HP
         go_wp2
         go_roundw
         case rel => exact ⟨k, p + q, m + 1, rfl, by go_num, by omega, hqle, by omega, Lib.hid (by rw [← HPP.out, HQ.out]; rfl)⟩
         case measure => simp; omega
    · have hnx : ∀ ty, (Instr.next (.pointer (some ⟨w1.heap.size, 0, none⟩)) true ty).run Tryz.prog (w1.iter u p) = _ := fun ty => run_next_end w1 u p ty hlt
      cases k with
      | zero => omega
      | succ k =>
       have HP1 := HP.out
       rw [prefPos, if_neg hlt] at HP1
       have HPP := Lib.hid HP1
       clear HP1 HP
       go_wp2
       go_ret
       refine ⟨?_, ?_⟩
       · show Ending.returned (.string u) = _; rw [← HR.out, ← HPP.out, ByteArray.extract_zero_size]
       · exact HB.out.alloc HB.out.size _
 · cases h
def anyFrom (s : ByteArray) : Nat → Nat → Int
 | 0, _ => -1
 | k + 1, p => if p < s.size then (if ((Utf8.decode s p).1 : Int) = 44 ∨ ((Utf8.decode s p).1 : Int) = 125 then (p : Int) else anyFrom s k (p + (Utf8.decode s p).2)) else -1
def twoEnds : ByteArray := ⟨#[44, 125]⟩
def endAt (d : Nat) : Int := if d = 0 then 44 else 125
theorem twoEnds_decode (d : Nat) (h : d < 2) : (((Utf8.decode twoEnds d).1 : Int), (Utf8.decode twoEnds d).2) = (endAt d, 1) := by
 match d, h with
 | 0, _ => decide
 | 1, _ => decide
set_option maxRecDepth 100000 in
set_option maxHeartbeats 800000 in
theorem tmpl_anyAt.calls (s : ByteArray) (hs : s.size ≤ 1099511627776) (w : World) :
 Calls Tryz.prog 71 #[.string s, .string twoEnds] w fun e w' => e = .returned (.int .i64 (anyFrom s s.size 0)) ∧ Below w.heap.size w w' := by
 obtain ⟨r, hr⟩ : ∃ r, r = anyFrom s s.size 0 := ⟨_, rfl⟩
 rw [← hr]
 have HR := Lib.hid hr.symm
 have HD := Lib.hid twoEnds_decode
 have hsz : twoEnds.size = 2 := rfl
 obtain ⟨E, hE⟩ : ∃ E, E = twoEnds := ⟨_, rfl⟩
 rw [← hE] at hsz HD ⊢
 clear hr hE
 go_enter Tryz.func71, Tryz.ntmps71
 go_wp2
 go_loopw [5, 6, 8] (fun _ _ _ wr => ∃ (k p : Nat), Hid (wr.heap[w.heap.size]? = some (.stringIter s p)) ∧ Hid (anyFrom s k p = r) ∧ s.size ≤ p + k ∧ p ≤ s.size ∧ Hid (Below w.heap.size w wr)) (fun _ _ _ wr => s.size - wr.iterPos w.heap.size)
 case atStart =>
  exact ⟨s.size, 0, Lib.hid (World.iter_heap w s 0), HR, by omega, by omega, Lib.hid ((Below.refl _ _).alloc (Nat.le_refl _) _)⟩
 case round =>
  obtain ⟨k, p, HK, HC, hk, hp, HBw⟩ := hrel
  by_cases hlt : p < s.size
  · cases k with
    | zero => omega
    | succ k =>
    have hC := HC.out
    rw [anyFrom, if_pos hlt] at hC
    have hnx : ∀ ty, (Instr.next (.pointer (some ⟨w.heap.size, 0, none⟩)) true ty).run Tryz.prog wr = _ := fun ty => Lib.run_next_any_at wr w.heap.size s p ty HK.out hlt
    obtain ⟨c, hc⟩ : ∃ c : Int, c = ((Utf8.decode s p).1 : Int) := ⟨_, rfl⟩
    obtain ⟨n, hn⟩ : ∃ n, n = (Utf8.decode s p).2 := ⟨_, rfl⟩
    rw [← hc, ← hn] at hnx hC
    have hn1 : 1 ≤ n := by rw [hn]; exact decode_pos s p hlt
    have hnle : p + n ≤ s.size := by rw [hn]; exact decode_fits s p hlt
    have HK1 := Lib.hid (Lib.iterAt_heap wr w.heap.size s p (p + n) HK.out)
    have HB1 := Lib.hid (Lib.below_iterAt HBw.out (Nat.le_refl _) s (p + n))
    have HC1 := Lib.hid hC
    clear hc hn hC HC
    go_wp2_with fail
    obtain ⟨W1, hW1⟩ : ∃ W1, W1 = wr.iterAt w.heap.size s (p + n) := ⟨_, rfl⟩
    rw [← hW1] at HK1 HB1
    rw [← hW1]
    have HW1 := Lib.hid hW1
    clear hW1 hnx
    have hlt1 : w.heap.size < W1.heap.size := (Array.getElem?_eq_some_iff.1 HK1.out).1
    go_loopw [8] (fun _ W => ∃ d : Nat, d ≤ 2 ∧ (∀ j, j < d → c ≠ endAt j) ∧ Hid (W.heap[W1.heap.size]? = some (.stringIter E d)) ∧ Hid (W.heap[w.heap.size]? = some (.stringIter s (p + n))) ∧ Hid (Below w.heap.size w W)) (fun _ W => 2 - W.iterPos W1.heap.size)
    case atStart =>
     exact ⟨0, by omega, fun j hj => by omega, Lib.hid (World.iter_heap W1 E 0), Lib.hid ((heap_alloc_old W1 _ hlt1).trans HK1.out), Lib.hid (HB1.out.alloc (Nat.le_of_lt hlt1) _)⟩
    case round =>
     obtain ⟨d, hd, hne, HI, HO, HBi⟩ := hrel
     by_cases hd2 : d < 2
     · have hnx := fun ty => Lib.run_next_any_at (P := Tryz.prog) _ W1.heap.size E d ty HI.out (by rw [hsz]; exact hd2)
       have hdec := HD.out d hd2
       simp only [Prod.mk.injEq] at hdec
       rw [hdec.1, hdec.2] at hnx
       have hE2 : endAt d = 44 ∨ endAt d = 125 := by unfold endAt; split <;> simp
       obtain ⟨x, hx⟩ : ∃ x, x = endAt d := ⟨_, rfl⟩
       rw [← hx] at hnx hE2
       have HX := Lib.hid hx
       clear hdec hx
       have HI1 := Lib.hid (Lib.iterAt_heap _ W1.heap.size E d (d + 1) HI.out)
       have HB2 := Lib.hid (Lib.below_iterAt HBi.out (Nat.le_of_lt hlt1) E (d + 1))
       have HO2 := Lib.hid ((Lib.iterAt_other _ W1.heap.size w.heap.size E (d + 1) (by omega)).trans HO.out)
       by_cases hcx : c = x
       · have q1 : (c == x) = true := beq_iff_eq.2 hcx
         have hC := HC1.out
         rw [if_pos (by rw [hcx]; exact hE2)] at hC
         have HCC := Lib.hid hC
         clear hC hcx hE2
         go_wp2
         go_ret
         exact ⟨by show Ending.returned (.int .i64 (p : Int)) = _; rw [HCC.out], HB2.out⟩
       · have q1 : (c == x) = false := beq_eq_false_iff_ne.2 hcx
         have HN := Lib.hid (show ∀ j, j < d + 1 → c ≠ endAt j from fun j hj => by
          rcases Nat.lt_succ_iff_lt_or_eq.1 hj with h | h
          · exact hne j h
          · rw [h, ← HX.out]; exact hcx)
         clear hne hcx hE2
         go_wp2
         go_roundw
         case rel => exact ⟨d + 1, by omega, HN.out, HI1, HO2, HB2⟩
         case measure =>
          have h1 := HI.out
          have h2 := HI1.out
          simp only [World.iterPos, h1, h2]
          omega
     · have hnx := fun ty => Lib.run_next_end_at (P := Tryz.prog) _ W1.heap.size E d ty HI.out (by rw [hsz]; exact hd2)
       have hC := HC1.out
       have hd3 : d = 2 := by omega
       rw [if_neg (fun h => by
        rcases h with h | h
        · exact hne 0 (by omega) h
        · exact hne 1 (by omega) h)] at hC
       have HCC := Lib.hid hC
       clear hC hne hd3
       go_wp2
       go_roundw
       case rel => exact ⟨k, p + n, HO, HCC, by omega, by omega, HBi⟩
       case measure =>
        have h1 := HK.out
        have h2 := HO.out
        simp only [World.iterPos, h1, h2]
        omega
  · have hnx : ∀ ty, (Instr.next (.pointer (some ⟨w.heap.size, 0, none⟩)) true ty).run Tryz.prog wr = _ := fun ty => Lib.run_next_end_at wr w.heap.size s p ty HK.out hlt
    have hC := HC.out
    have hstop : anyFrom s k p = -1 := by
     cases k with
     | zero => rfl
     | succ k => rw [anyFrom, if_neg hlt]
    rw [hstop] at hC
    have HC1 := Lib.hid hC
    clear hC HC hstop
    go_wp2
    go_ret
    exact ⟨by show Ending.returned (.int .i64 (-1)) = _; rw [HC1.out], HBw.out⟩
end Go.Proofs.YtkipkbggnfllkaaGreatDoor.P
end
section
namespace Go.Proofs.YtkipkbggnfllkaaGreatDoor.P
open Go.RowKit
theorem storeCells_mark (P : Program) (g o : Nat) (t : TypeId) (fz : Nat × Nat) : ∀ (vs : List Value) (i : Nat) (cur : Array Value) (w : World), w.heap[g]? = some (.cells cur t fz) → (fz.2 ≤ o + i ∨ cur.size ≤ fz.1) → o + i + vs.length ≤ cur.size → (∀ v ∈ vs, v.oneCell' = true) →
 (storeCells ⟨g, o, none⟩ vs i).run P w = .ok () (w.setRow g (cur.toList.take (o + i) ++ vs ++ cur.toList.drop (o + i + vs.length)).toArray)
 | [], i, cur, w, hg, _, _, _ => by
  simp only [storeCells, List.append_nil, List.length_nil, Nat.add_zero, List.take_append_drop, Array.toArray_toList]
  rw [setRow_self w g cur t fz hg]
  rfl
 | v :: rest, i, cur, w, hg, hfz, hl, h1 => by
  have hi : o + i < cur.size := by simp at hl; omega
  have hadd : (⟨g, o, none⟩ : Addr).add i = ⟨g, o + i, none⟩ := by unfold Addr.add; split <;> simp_all
  have hcell : w.cell? ⟨g, o + i, none⟩ = some cur[o + i] := by simp [World.cell?, hg, hi]
  have hfro : w.frozen? ⟨g, o + i, none⟩ = false := by
   obtain ⟨lo, hi'⟩ := fz
   simp only [World.frozen?, hg, Bool.and_eq_false_iff, decide_eq_false_iff_not]
   simp only at hfz
   omega
  have hst : (store ((⟨g, o, none⟩ : Addr).add i) v).run P w = .ok () (w.setRow g (cur.setIfInBounds (o + i) v)) := by
   rw [hadd, run_store P w _ v _ (h1 v (by simp)), hcell]
   simp [hfro, setCell_eq_setRow w g (o + i) cur t fz v hg]
  have ih := storeCells_mark P g o t fz rest (i + 1) (cur.setIfInBounds (o + i) v) (w.setRow g (cur.setIfInBounds (o + i) v)) (setRow_heap w g cur _ t _ hg) (by simp; omega) (by simp at hl ⊢; omega) (fun x hx => h1 x (by simp [hx]))
  simp only [storeCells, Sem.run_bind, hst, Result.andThen_ok, ih, setRow_setRow]
  congr 3
  have e := list_seg_step cur.toList (o + i) v rest (by simp at hl ⊢; omega)
  simpa [Array.toList_setIfInBounds, Nat.add_assoc] using e
def RowM (w : World) (base : Nat) (e : TypeId) (v : Value) (xs : List Value) : Prop :=
 ∃ g cap cur fz, v = .slice (some ⟨g, 0, none⟩) xs.length cap ∧ base ≤ g ∧ w.heap[g]? = some (.cells cur e fz) ∧ (fz.2 ≤ xs.length ∨ cur.size ≤ fz.1) ∧ xs.length ≤ cap ∧ cap ≤ maxLen ∧ cur.size = cap ∧ cur.toList.take xs.length = xs
section
variable {P : Program} (w : World)
theorem RowM.cells {w : World} {base : Nat} {e : TypeId} {v : Value} {xs : List Value} (h : RowM w base e v xs) : ∃ g cap, v = .slice (some ⟨g, 0, none⟩) xs.length cap ∧ ∀ j u, xs[j]? = some u → w.cell? ⟨g, j, none⟩ = some u := by
 obtain ⟨g, cap, cur, fz, rfl, _, hgg, _, _, _, _, ht⟩ := h
 refine ⟨g, cap, rfl, fun j u hu => ?_⟩
 rw [cell_of_row w g j cur e fz hgg]
 rw [← ht, List.getElem?_take] at hu
 split at hu
 · simpa using hu
 · cases hu
theorem RowM.below {w w1 : World} {base : Nat} {e : TypeId} {v : Value} {xs : List Value} (h : RowM w base e v xs) (hb : Below w.heap.size w w1) : RowM w1 base e v xs := by
 obtain ⟨g, cap, cur, fz, rfl, hg, hgg, r⟩ := h
 exact ⟨g, cap, cur, fz, rfl, hg, (hb.block g (Array.getElem?_eq_some_iff.1 hgg).1).trans hgg, r⟩
theorem run_append_mark (base : Nat) (t ty e : TypeId) (i : TypeInfo) (z : Value) (bytes : Nat) (ht : P.underlying t = some (.slice e)) (hi : P.info? e = some i) (hz : i.zero = some z)
 (hsize : i.size = 1) (hby : i.bytes = bytes) (hzs : z.cells.size = 1)
 (v : Value) (xs : List Value) (hown : RowM w base e v xs) (a : Addr) (u : Value) (hu : w.cell? (a.add 0) = some u) (h1 : u.oneCell' = true)
 (h63 : xs.length + 1 ≤ maxLen) (hbytes : (xs.length + 1) * bytes ≤ 140737488355328) (hbase : base ≤ w.heap.size) :
 ∃ v' w', (Builtin.append_ #[t, t] ty #[v, .slice (some a) 1 1]).run P w = .ok v' w' ∧ RowM w' base e v' (xs ++ [u]) ∧ w.grownBy w' v.ownBlock := by
 have hcells := hown.cells
 obtain ⟨g, cap, cur, fz, rfl, hbg, hg, hfz, hnc, hcm, hcs, htake⟩ := hown
 subst hby
 have hnews : ∀ j x, [u][j]? = some x → w.cell? (a.add j) = some x := by
  intro j x hx
  cases j with
  | zero => simp at hx; rw [← hx]; exact hu
  | succ j => simp at hx
 have h1s : ∀ x ∈ [u], x.oneCell' = true := by simp [h1]
 have hlen : (xs ++ [u]).length = xs.length + 1 := by simp
 by_cases hroom : xs.length + 1 ≤ cap
 · have hf := run_firstCells_some (P := P) w i.size 1 a 1 1 [u] (by simp [hsize]) hnews
   have hst := storeCells_mark P g xs.length e fz [u] 0 cur w hg (by simpa using hfz) (by simp; omega) h1s
   simp only [Nat.add_zero] at hst
   have hr : (Builtin.append_ #[t, t] ty #[.slice (some ⟨g, 0, none⟩) xs.length cap, .slice (some a) 1 1]).run P w = .ok (.slice (some ⟨g, 0, none⟩) (xs.length + 1) cap) (w.setRow g (cur.toList.take xs.length ++ [u] ++ cur.toList.drop (xs.length + [u].length)).toArray) := by
    simp only [hsize] at hf
    simp [Builtin.append_, run_underlying ht, sizeOf, typeInfo, hi, hsize, Builtin.lenOf, hroom, hf, Addr.add_lit, hst]
   refine ⟨_, _, hr, ⟨g, cap, _, fz, by rw [hlen], hbg, setRow_heap w g cur _ e _ hg, ?_, by rw [hlen]; exact hroom, hcm, ?_, ?_⟩, ⟨rfl, rfl, rfl, by simp, fun k _ hk => setRow_other w g k _ (fun e => hk (by simp [Value.ownBlock, e]))⟩⟩
   · rw [hlen]
     rcases hfz with h | h
     · left; omega
     · right
       simp only [List.size_toArray, List.length_append, List.length_take, List.length_drop, Array.length_toList, List.length_cons, List.length_nil]
       omega
   · simp only [List.size_toArray, List.length_append, List.length_take, List.length_drop, Array.length_toList, List.length_cons, List.length_nil]
     omega
   · rw [htake]
     exact List.take_left
 · have holds : ∀ j x, xs[j]? = some x → w.cell? ((⟨g, 0, none⟩ : Addr).add j) = some x := by
    obtain ⟨g', cap', he, hc⟩ := hcells
    injection he with he1 _ _
    injection he1 with he1
    injection he1 with he1 _ _
    subst he1
    intro j x hx
    have hadd : (⟨g, 0, none⟩ : Addr).add j = ⟨g, j, none⟩ := by unfold Addr.add; split <;> simp_all
    rw [hadd]; exact hc j x hx
   have hsmall : xs.length + 1 ≤ 9223372036854775807 := by simp only [maxLen] at h63; omega
   have hr := run_append_grow (P := P) w t ty e i z ht hi hz ⟨g, 0, none⟩ xs.length cap xs (by rw [hsize, Nat.mul_one]) holds a 1 1 [u] (by rw [hsize]; rfl) hnews (by omega) (by omega) (growslice_fits (by omega) hbytes)
   have hge := grownCap_ge w (xs.length + 1) cap e
   have hcm2 : grownCap w (xs.length + 1) cap e ≤ maxLen := grownCap_le_maxLen w (xs.length + 1) cap e h63
   refine ⟨_, _, hr, ⟨w.heap.size, _, _, (0, 0), by rw [hlen], hbase, heap_alloc_new w.drew _, .inl (Nat.zero_le _), by rw [hlen]; exact hge, hcm2, ?_, ?_⟩, ⟨rfl, rfl, rfl, by simp, fun k hk _ => by first | exact heap_alloc_old w.drew _ k hk | exact heap_alloc_old w.drew _ hk⟩⟩
   · simp only [Array.size_append, List.size_toArray, size_zeroCells, hzs, List.length_cons, List.length_nil]
     omega
   · simp only [Array.toList_append, List.append_assoc]
     rw [← List.append_assoc]
     exact List.take_left
theorem wpList_append_mark {ops : Array Oper} {rest : List Oper} {o : Oper} {a : Act} {Q : Exit → Act → World → Prop} (hgd : o.guard = none) (s x : Operand) (t : TypeId)
 (ho : o.op = .call { callee := .builtin .append, args := #[s, x], argTypes := #[t, t] })
 (base : Nat) (e : TypeId) (i : TypeInfo) (z : Value) (bytes : Nat) (ht : P.underlying t = some (.slice e)) (hi : P.info? e = some i) (hz : i.zero = some z)
 (hsize : i.size = 1) (hby : i.bytes = bytes) (hzs : z.cells.size = 1)
 (v : Value) (xs : List Value) (hs : a.eval s = v) (hown : RowM w base e v xs) (ad : Addr) (u : Value) (hx : a.eval x = .slice (some ad) 1 1) (hu : w.cell? (ad.add 0) = some u) (h1 : u.oneCell' = true)
 (h63 : xs.length + 1 ≤ maxLen) (hbytes : (xs.length + 1) * bytes ≤ 140737488355328) (hbase : base ≤ w.heap.size)
 (h : ∀ v' w', RowM w' base e v' (xs ++ [u]) → w.grownBy w' v.ownBlock → wpList P ops Q rest (a.put o.dst v') w') : wpList P ops Q (o :: rest) a w := by
 refine wpList_plain hgd fun K hK => ?_
 obtain ⟨v', w', hr, h2, h3⟩ := run_append_mark (P := P) w base t o.type e i z bytes ht hi hz hsize hby hzs v xs hown ad u hu h1 h63 hbytes hbase
 unfold Oper.wp execOp
 simp only [ho, resolve, invoke, builtin, Sem.run_bind, Sem.run_pure, Result.andThen_ok, List.map_toArray, List.map_cons, List.map_nil, hs, hx, hr]
 exact hK _ _ (h v' w' h2 h3)
end
def byteVals (s : ByteArray) : List Value := s.data.toList.map fun b => Value.int .u8 b.toNat
theorem RowM.made (w : World) (e : TypeId) (s : ByteArray) (hs : s.size ≤ maxLen) : RowM (Lib.bytesWorld w e s) w.heap.size e (.slice (some ⟨w.heap.size, 0, none⟩) s.size (grownCap w s.size 0 e)) (byteVals s) := by
 have hl : (byteVals s).length = s.size := by simp [byteVals]
 have hge := grownCap_ge w s.size 0 e
 refine ⟨_, _, _, _, by rw [hl], Nat.le_refl _, Lib.bytesWorld_at_new w e s, .inr (Nat.le_refl _), by rw [hl]; exact hge, grownCap_le_maxLen w s.size 0 e hs, ?_, ?_⟩
 · simp only [Lib.bytesCells, Array.size_append, Array.size_map, Array.size_replicate]
   have : s.data.size = s.size := rfl
   omega
 · rw [hl]
   have : s.data.size = s.size := rfl
   simp only [Lib.bytesCells, Array.toList_append, Array.toList_map, byteVals]
   rw [List.take_append_of_le_length (by simp), List.take_of_length_le (by simp)]
theorem RowM.below_made (w : World) (e : TypeId) (s : ByteArray) : Below w.heap.size w (Lib.bytesWorld w e s) :=
 ⟨by simp [Lib.bytesWorld, World.freeze, World.alloc, World.drew, -World.alloc_eq, -World.drew_eq], by simp [Lib.bytesWorld, World.freeze, World.alloc, World.drew, -World.alloc_eq, -World.drew_eq], by simp [Lib.bytesWorld, World.freeze, World.alloc, World.drew, -World.alloc_eq, -World.drew_eq], by rw [Lib.bytesWorld_size]; omega, fun k hk => Lib.bytesWorld_at_old w e s k hk⟩
end Go.Proofs.YtkipkbggnfllkaaGreatDoor.P
end
section
namespace Go.Proofs.YtkipkbggnfllkaaGreatDoor.P
open Go.RowKit Go.Proofs.YtkipkbggnfllkaaGreatDoorW.PrintWords Go.Proofs.YtkipkbggnfllkaaGreatDoorW.PrintLast Go.Proofs.YtkipkbggnfllkaaGreatDoorW.PrintMore
def filledFrom (c : Int) : Nat → List Int → Int × Bool
 | 0, _ => (0, false)
 | d + 1, x =>
  if x.length ≤ 4 then
   (if (charsFrom (strOfNums x) (strOfNums x).size 0).2 < (strOfNums x).size then filledFrom c d (x ++ [c])
    else match (charsFrom (strOfNums x) (strOfNums x).size 0).1 with
     | [n] => (n, true)
     | _ => filledFrom c d (x ++ [c]))
  else (0, false)
def ucs_filled.f (b : ByteArray) (c : Int) : Option (Int × Bool) := if b.size ≤ 1099511627776 then some (filledFrom c 6 (bytesOf b)) else none
theorem filled_step (c : Int) (d : Nat) (x : List Int) (s : ByteArray) (hs : s = strOfNums x) (hx : x.length ≤ 4) :
 ∃ l ok, utf_Chars.f s = some (l, ok) ∧ filledFrom c (d + 1) x = if ok = true ∧ l.length = 1 then (l.getD 0 0, true) else filledFrom c d (x ++ [c]) := by
 have hsz : s.size ≤ 4 := by rw [hs, strOfNums_size]; exact hx
 rw [filledFrom, if_pos hx, ← hs]
 by_cases hb : (charsFrom s s.size 0).2 < s.size
 · refine ⟨[], false, by rw [utf_Chars.f, if_pos (by omega), if_pos hb], ?_⟩
   rw [if_pos hb, if_neg (by simp)]
 · refine ⟨(charsFrom s s.size 0).1, true, by rw [utf_Chars.f, if_pos (by omega), if_neg hb], ?_⟩
   rw [if_neg hb]
   generalize (charsFrom s s.size 0).1 = l
   cases l with
   | nil => simp
   | cons a l =>
    cases l with
    | nil => simp
    | cons b l => simp
theorem heapcell_new (W : World) (u : Value) (t : TypeId) : (W.alloc (.cells #[u] t)).cell? ((⟨W.heap.size, 0, none⟩ : Addr).add 0) = some u := by
 rw [show ((⟨W.heap.size, 0, none⟩ : Addr).add 0) = ⟨W.heap.size, 0, none⟩ from rfl]
 simp
theorem bytes_nums (s : ByteArray) : byteVals s = nums .u8 (bytesOf s) := by simp [byteVals, nums, bytesOf]
theorem RowM.base {w : World} {base : Nat} {e : TypeId} {v : Value} {xs : List Value} (h : RowM w base e v xs) (k : Nat) (hk : v.ownBlock = some k) : base ≤ k := by
 obtain ⟨g, cap, cur, fz, rfl, hg, _⟩ := h
 have : g = k := by simpa [Value.ownBlock] using hk
 omega
theorem RowM.reads {w : World} {base : Nat} {e : TypeId} {v : Value} {xs : List Int} (h : RowM w base e v (nums .u8 xs)) (hl : xs.length ≤ 9223372036854775807) : ∃ g cap, v = .slice (some ⟨g, 0, none⟩) xs.length cap ∧ ReadsInt w .u8 (some ⟨g, 0, none⟩) xs.length xs := by
 obtain ⟨g, cap, hv, hc⟩ := h.cells
 rw [nums_length] at hv
 refine ⟨g, cap, hv, rfl, hl, fun _ => ⟨_, rfl, fun j hj => ?_⟩⟩
 have hadd : (⟨g, 0, none⟩ : Addr).add j = ⟨g, j, none⟩ := by unfold Addr.add; split <;> simp_all
 rw [hadd]
 refine hc j _ ?_
 simp [nums, List.getElem?_eq_getElem hj, List.getD_eq_getElem?_getD]
def sliceLen : Value → Nat
 | .slice _ n _ => n
 | _ => 0
theorem infoByte : (Tryz.prog.info? 5).map (fun i => (i.zero, i.size, i.bytes)) = some (some (.int .u8 0), 1, 1) := by kernel_rfl
set_option maxRecDepth 100000 in
set_option maxHeartbeats 800000 in
theorem ucs_filled.calls (b : ByteArray) (c : Int) (r1 : Int) (r2 : Bool) (w : World) (h : ucs_filled.f b c = some (r1, r2)) :
 Calls Tryz.prog 98 #[.string b, .int .u8 c] w fun e w' => e = .returned (.tuple #[.int .i64 r1, .bool r2]) ∧ Below w.heap.size w w' := by
 unfold ucs_filled.f at h
 split at h
 · rename_i hs
   injection h with h
   have hcv : ∀ W : World, (convert 9 58 (.string b)).run Tryz.prog W = .ok (.slice (some ⟨W.heap.size, 0, none⟩) b.size (grownCap W b.size 0 5)) (Lib.bytesWorld W 5 b) := fun W => Lib.run_convert_string_bytes W _ _ _ b Tryz.underlying9 Tryz.underlying58 Tryz.underlying5
   have hrow := RowM.made w 5 b (by simp only [maxLen]; omega)
   rw [bytes_nums] at hrow
   have HRow := Lib.hid hrow
   have HB := Lib.hid (RowM.below_made w 5 b)
   have hbl := bytesOf_length b
   obtain ⟨x, hx⟩ : ∃ x, x = bytesOf b := ⟨_, rfl⟩
   rw [← hx] at HRow h hbl
   have HR := Lib.hid h
   have hxl : x.length ≤ 1099511627776 := by omega
   have HL := Lib.hid hbl
   clear h hrow hx hbl
   obtain ⟨i0, hi0, hzz⟩ := Option.map_eq_some_iff.1 infoByte
   simp only [Prod.mk.injEq] at hzz
   obtain ⟨hz0, hz1, hz2⟩ := hzz
   go_enter Tryz.func98, Tryz.ntmps98
   go_wp2
   go_loopw [6, 7, 8] (fun v _ _ wr => ∃ (d : Nat) (x : List Int), Hid (RowM wr w.heap.size 5 v (nums .u8 x)) ∧ Hid (filledFrom c d x = (r1, r2)) ∧ 6 ≤ x.length + d ∧ x.length ≤ 1099511627777 ∧ Hid (Below w.heap.size w wr) ∧ sliceLen v = x.length) (fun v _ _ _ => 5 - sliceLen v)
   case atStart => exact ⟨6, x, HRow, HR, by omega, by omega, HB, HL.out.symm⟩
   case round =>
    obtain ⟨d, x, HW, HF, hd, hx, HBw, hv⟩ := hrel
    obtain ⟨g, cap, rfl, hreads⟩ := HW.out.reads (by omega)
    have hcs : (convert 58 9 (.slice (some ⟨g, 0, none⟩) x.length cap)).run Tryz.prog wr = .ok (.string (strOfNums x)) wr := string_of_reads Tryz.underlying58 Tryz.underlying5 Tryz.underlying9 hreads
    clear hreads hv
    by_cases hle : x.length ≤ 4
    · cases d with
      | zero => omega
      | succ d =>
       obtain ⟨s, hs'⟩ : ∃ s, s = strOfNums x := ⟨_, rfl⟩
       have hssz : s.size ≤ 4 := by rw [hs', strOfNums_size]; exact hle
       obtain ⟨l, ok, hch, hst⟩ := filled_step c d x s hs' hle
       rw [← hs'] at hcs
       have HF1 := hst.symm.trans HF.out
       have HCH := Lib.hid hch
       have hleb : decide (x.length ≤ 4) = true := decide_eq_true hle
       clear hs' hst hch
       go_wp2_with fail
       refine (utf_Chars.calls s _ _ _ HCH.out).mono ?_
       rintro e w2 ⟨v0, rfl, hrow2, hb2⟩
       obtain ⟨A0, c0, rfl, hl0, hr0⟩ := Kd.R_reads hrow2
       have HR2 := Lib.hid hr0
       have HW2 := Lib.hid (HW.out.below hb2)
       have HB2 := Lib.hid (below_then HBw.out HBw.out.size hb2)
       have hsz2 := hb2.size
       clear hrow2 hb2 hr0 hcs HW HBw
       cases ok with
       | false =>
        rw [if_neg (by simp)] at HF1
        have HFF := Lib.hid HF1
        clear HF1 HF
        go_wp2_with (at_builtin; go_must (refine wpList_append_mark _ rfl _ _ 58 rfl w.heap.size 5 i0 (.int .u8 0) 1 Tryz.underlying58 hi0 hz0 hz1 hz2 rfl _ (nums .u8 x) rfl (HW2.out.below ((Below.refl _ _).alloc (Nat.le_refl _) _)) ⟨w2.heap.size, 0, none⟩ (.int .u8 c) rfl ?hu rfl ?h63 ?hby ?hbase ?_))
        case hu => exact heapcell_new w2 _ _
        case h63 => rw [nums_length]; simp only [maxLen]; omega
        case hby => rw [nums_length]; omega
        case hbase => simp; have := HB2.out.size; omega
        intro v' w3 hrow3 hg3
        rw [show nums .u8 x ++ [Value.int .u8 c] = nums .u8 (x ++ [c]) by rw [nums_append]; rfl] at hrow3
        have HR3 := Lib.hid hrow3
        have HB3 := Lib.hid ((HB2.out.alloc HB2.out.size _).grown hg3 (by simp; have := HB2.out.size; omega) (fun k hk => HW2.out.base k hk))
        obtain ⟨g3, cap3, rfl, _⟩ := hrow3.reads (by simp; omega)
        rw [List.length_append, List.length_singleton] at *
        clear hrow3 hg3
        go_wp2
        go_roundw
        case rel => exact ⟨d, x ++ [c], HR3, HFF, by simp; omega, by simp; omega, HB3, by simp [sliceLen]⟩
        case measure => simp [sliceLen]; omega
       | true =>
        by_cases h1 : l.length = 1
        · have h1b : (l.length == 1) = true := beq_iff_eq.2 h1
          rw [if_pos ⟨rfl, h1⟩] at HF1
          have HFF := Lib.hid HF1
          clear HF1 HF
          obtain ⟨n, rfl⟩ : ∃ n, l = [n] := by
           cases l with
           | nil => simp at h1
           | cons a l => cases l with
            | nil => exact ⟨a, rfl⟩
            | cons b l => simp at h1
          obtain ⟨ad, rfl, hca⟩ := Kd.at_int HR2.out 0 (by omega) (by simp)
          have hca2 : w2.cell? ad = some (.int .i64 n) := by
           have : ad.add (0 : Int).toNat = ad := by unfold Addr.add; split <;> simp_all
           rw [this] at hca
           exact hca
          clear hca
          go_wp2
          go_ret2
          have := HFF.out
          simp only [Prod.mk.injEq] at this
          obtain ⟨rfl, rfl⟩ := this
          exact ⟨rfl, HB2.out⟩
        · have h1b : (l.length == 1) = false := beq_eq_false_iff_ne.2 h1
          rw [if_neg (fun h => h1 h.2)] at HF1
          have HFF := Lib.hid HF1
          clear HF1 HF
          go_wp2_with (at_builtin; go_must (refine wpList_append_mark _ rfl _ _ 58 rfl w.heap.size 5 i0 (.int .u8 0) 1 Tryz.underlying58 hi0 hz0 hz1 hz2 rfl _ (nums .u8 x) rfl (HW2.out.below ((Below.refl _ _).alloc (Nat.le_refl _) _)) ⟨w2.heap.size, 0, none⟩ (.int .u8 c) rfl ?hu rfl ?h63 ?hby ?hbase ?_))
          case hu => exact heapcell_new w2 _ _
          case h63 => rw [nums_length]; simp only [maxLen]; omega
          case hby => rw [nums_length]; omega
          case hbase => simp; have := HB2.out.size; omega
          intro v' w3 hrow3 hg3
          rw [show nums .u8 x ++ [Value.int .u8 c] = nums .u8 (x ++ [c]) by rw [nums_append]; rfl] at hrow3
          have HR3 := Lib.hid hrow3
          have HB3 := Lib.hid ((HB2.out.alloc HB2.out.size _).grown hg3 (by simp; have := HB2.out.size; omega) (fun k hk => HW2.out.base k hk))
          obtain ⟨g3, cap3, rfl, _⟩ := hrow3.reads (by simp; omega)
          rw [List.length_append, List.length_singleton] at *
          clear hrow3 hg3
          go_wp2
          go_roundw
          case rel => exact ⟨d, x ++ [c], HR3, HFF, by simp; omega, by simp; omega, HB3, by simp [sliceLen]⟩
          case measure => simp [sliceLen]; omega
    · have hleb : decide (x.length ≤ 4) = false := decide_eq_false hle
      have hz : (0, false) = (r1, r2) := by
       rw [← HF.out]
       cases d with
       | zero => rfl
       | succ d => rw [filledFrom, if_neg hle]
      have HZ := Lib.hid hz
      clear hz
      go_wp2
      go_ret2
      have := HZ.out
      simp only [Prod.mk.injEq] at this
      obtain ⟨rfl, rfl⟩ := this
      exact ⟨rfl, HBw.out⟩
 · cases h
end Go.Proofs.YtkipkbggnfllkaaGreatDoor.P
end
section
namespace Go.Proofs.YtkipkbggnfllkaaGreatDoor.P
open Go.RowKit Go.Proofs.YtkipkbggnfllkaaGreatDoorW.PrintWords Go.Proofs.YtkipkbggnfllkaaGreatDoorW.PrintLast Go.Proofs.YtkipkbggnfllkaaGreatDoorW.PrintMore
attribute [local go_sem] max2_int min2_int max_two min_two max_three min_three max_four min_four
set_option linter.unusedVariables false
set_option linter.unusedSimpArgs false
def ucs_ends.f (a0 : ByteArray) : Option (Int × Int × Bool) := (ucs_filled.f a0 128).bind fun bt363 => ((ucs_filled.f a0 191).bind fun bt365 => (if a0.toList = ([224] : List UInt8) then ((ucs_filled.f (⟨#[224, 160]⟩ : ByteArray) 128).bind fun bt367 => (if bt367.2 = true then (some (bt367.1, bt365.1, bt365.2)) else (some (bt367.1, bt365.1, false)))) else (if a0.toList = ([240] : List UInt8) then ((ucs_filled.f (⟨#[240, 144]⟩ : ByteArray) 128).bind fun bt369 => (if bt369.2 = true then (some (bt369.1, bt365.1, bt365.2)) else (some (bt369.1, bt365.1, false)))) else (if a0.toList = ([237] : List UInt8) then ((ucs_filled.f (⟨#[237, 159]⟩ : ByteArray) 191).bind fun bt371 => (if bt363.2 = true then (some (bt363.1, bt371.1, bt371.2)) else (some (bt363.1, bt371.1, false)))) else (if a0.toList = ([244] : List UInt8) then ((ucs_filled.f (⟨#[244, 143]⟩ : ByteArray) 191).bind fun bt373 => (if bt363.2 = true then (some (bt363.1, bt373.1, bt373.2)) else (some (bt363.1, bt373.1, false)))) else (if bt363.2 = true then (some (bt363.1, bt365.1, bt365.2)) else (some (bt363.1, bt365.1, false))))))))
set_option maxHeartbeats 8000000 in
set_option maxRecDepth 100000 in
theorem ucs_ends.calls (a0 : ByteArray) (r1 : Int) (r2 : Int) (r3 : Bool) (w : World) (h : ucs_ends.f a0 = some (r1, r2, r3)) :
 Calls Tryz.prog 80 #[.string a0] w fun e w' => e = .returned (.tuple #[.int .i64 r1, .int .i64 r2, .bool r3]) ∧ Below w.heap.size w w' := by
 have HB := Aside0.mk (Below.refl w.heap.size w)
 have H : ((ucs_filled.f a0 128).bind fun bt363 => ((ucs_filled.f a0 191).bind fun bt365 => (if a0.toList = ([224] : List UInt8) then ((ucs_filled.f (⟨#[224, 160]⟩ : ByteArray) 128).bind fun bt367 => (if bt367.2 = true then (some (bt367.1, bt365.1, bt365.2)) else (some (bt367.1, bt365.1, false)))) else (if a0.toList = ([240] : List UInt8) then ((ucs_filled.f (⟨#[240, 144]⟩ : ByteArray) 128).bind fun bt369 => (if bt369.2 = true then (some (bt369.1, bt365.1, bt365.2)) else (some (bt369.1, bt365.1, false)))) else (if a0.toList = ([237] : List UInt8) then ((ucs_filled.f (⟨#[237, 159]⟩ : ByteArray) 191).bind fun bt371 => (if bt363.2 = true then (some (bt363.1, bt371.1, bt371.2)) else (some (bt363.1, bt371.1, false)))) else (if a0.toList = ([244] : List UInt8) then ((ucs_filled.f (⟨#[244, 143]⟩ : ByteArray) 191).bind fun bt373 => (if bt363.2 = true then (some (bt363.1, bt373.1, bt373.2)) else (some (bt363.1, bt373.1, false)))) else (if bt363.2 = true then (some (bt363.1, bt365.1, bt365.2)) else (some (bt363.1, bt365.1, false))))))))) = some (r1, r2, r3) := h
 clear h
 replace H := Option.bind_eq_some_iff.mp H
 obtain ⟨⟨t363, t364⟩, A20, H⟩ := H
 replace H : ((ucs_filled.f a0 191).bind fun bt365 => (if a0.toList = ([224] : List UInt8) then ((ucs_filled.f (⟨#[224, 160]⟩ : ByteArray) 128).bind fun bt367 => (if bt367.2 = true then (some (bt367.1, bt365.1, bt365.2)) else (some (bt367.1, bt365.1, false)))) else (if a0.toList = ([240] : List UInt8) then ((ucs_filled.f (⟨#[240, 144]⟩ : ByteArray) 128).bind fun bt369 => (if bt369.2 = true then (some (bt369.1, bt365.1, bt365.2)) else (some (bt369.1, bt365.1, false)))) else (if a0.toList = ([237] : List UInt8) then ((ucs_filled.f (⟨#[237, 159]⟩ : ByteArray) 191).bind fun bt371 => (if t364 = true then (some (t363, bt371.1, bt371.2)) else (some (t363, bt371.1, false)))) else (if a0.toList = ([244] : List UInt8) then ((ucs_filled.f (⟨#[244, 143]⟩ : ByteArray) 191).bind fun bt373 => (if t364 = true then (some (t363, bt373.1, bt373.2)) else (some (t363, bt373.1, false)))) else (if t364 = true then (some (t363, bt365.1, bt365.2)) else (some (t363, bt365.1, false)))))))) = some (r1, r2, r3) := H
 have A2 := Aside0.mk A20
 clear A20
 replace H := Option.bind_eq_some_iff.mp H
 obtain ⟨⟨t365, t366⟩, A30, H⟩ := H
 replace H : (if a0.toList = ([224] : List UInt8) then ((ucs_filled.f (⟨#[224, 160]⟩ : ByteArray) 128).bind fun bt367 => (if bt367.2 = true then (some (bt367.1, t365, t366)) else (some (bt367.1, t365, false)))) else (if a0.toList = ([240] : List UInt8) then ((ucs_filled.f (⟨#[240, 144]⟩ : ByteArray) 128).bind fun bt369 => (if bt369.2 = true then (some (bt369.1, t365, t366)) else (some (bt369.1, t365, false)))) else (if a0.toList = ([237] : List UInt8) then ((ucs_filled.f (⟨#[237, 159]⟩ : ByteArray) 191).bind fun bt371 => (if t364 = true then (some (t363, bt371.1, bt371.2)) else (some (t363, bt371.1, false)))) else (if a0.toList = ([244] : List UInt8) then ((ucs_filled.f (⟨#[244, 143]⟩ : ByteArray) 191).bind fun bt373 => (if t364 = true then (some (t363, bt373.1, bt373.2)) else (some (t363, bt373.1, false)))) else (if t364 = true then (some (t363, t365, t366)) else (some (t363, t365, false))))))) = some (r1, r2, r3) := H
 have A3 := Aside0.mk A30
 clear A30
 by_cases c4 : a0.toList = ([224] : List UInt8)
 · rw [if_pos c4] at H
   have c4b0 : (a0.toList == ([224] : List UInt8)) = true := beq_iff_eq.mpr c4
   have c4b1 : (a0.toList != ([224] : List UInt8)) = false := bne_eq_false_iff_eq.mpr c4
   clear c4
   replace H := Option.bind_eq_some_iff.mp H
   obtain ⟨⟨t367, t368⟩, A50, H⟩ := H
   replace H : (if t368 = true then (some (t367, t365, t366)) else (some (t367, t365, false))) = some (r1, r2, r3) := H
   have A5 := Aside0.mk A50
   clear A50
   by_cases c6 : t368 = true
   · subst c6
     have H1 : (some (t367, t365, t366)) = some (r1, r2, r3) := by rw [if_pos rfl] at H; exact H
     clear H
     have H := H1
     clear H1
     simp only [Option.some.injEq, Prod.mk.injEq] at H
     obtain ⟨rfl, rfl, rfl⟩ := H
     go_enter Tryz.func80, Tryz.ntmps80
     go_wp2_with (first | ((with_reducible refine gate_callee (f := 98) rfl ?_); refine goesL_ (some 11) rfl rfl Tryz.func98 (by kernel_rfl) rfl #[.string a0, .int .u8 128] rfl (by (try simp only [List.map_toArray, List.map_cons, List.map_nil]); first | done | rfl | (simp only [List.length_drop, List.length_take]; rfl)) ?_; (with_reducible refine (ucs_filled.calls a0 128 t363 t364 _ A2.out).mono ?_); rintro e w7 ⟨rfl, hb⟩; refine ⟨_, rfl, ?_⟩; have n0_ := Aside0.mk (below_step (by repeat (first | (with_reducible first | exact HB.out | apply below_alloc | apply pw_below_drewN | apply below_drew1) | exact HB.out)) hb); clear HB; have HB := n0_; clear n0_; (try clear hb); (try clear hb2); (try clear hk); (try clear hi)) | ((with_reducible refine gate_callee (f := 98) rfl ?_); refine goesL_ (some 16) rfl rfl Tryz.func98 (by kernel_rfl) rfl #[.string a0, .int .u8 191] rfl (by (try simp only [List.map_toArray, List.map_cons, List.map_nil]); first | done | rfl | (simp only [List.length_drop, List.length_take]; rfl)) ?_; (with_reducible refine (ucs_filled.calls a0 191 t365 t366 _ A3.out).mono ?_); rintro e w8 ⟨rfl, hb⟩; refine ⟨_, rfl, ?_⟩; have n0_ := Aside0.mk (below_step (by repeat (first | (with_reducible first | exact HB.out | apply below_alloc | apply pw_below_drewN | apply below_drew1) | exact HB.out)) hb); clear HB; have HB := n0_; clear n0_; (try clear hb); (try clear hb2); (try clear hk); (try clear hi)) | ((with_reducible refine gate_callee (f := 98) rfl ?_); refine goesL_ (some 23) rfl rfl Tryz.func98 (by kernel_rfl) rfl #[.string (⟨#[224, 160]⟩ : ByteArray), .int .u8 128] rfl (by (try simp only [List.map_toArray, List.map_cons, List.map_nil]); first | done | rfl | (simp only [List.length_drop, List.length_take]; rfl)) ?_; (with_reducible refine (ucs_filled.calls (⟨#[224, 160]⟩ : ByteArray) 128 t367 true _ A5.out).mono ?_); rintro e w9 ⟨rfl, hb⟩; refine ⟨_, rfl, ?_⟩; have n0_ := Aside0.mk (below_step (by repeat (first | (with_reducible first | exact HB.out | apply below_alloc | apply pw_below_drewN | apply below_drew1) | exact HB.out)) hb); clear HB; have HB := n0_; clear n0_; (try clear hb); (try clear hb2); (try clear hk); (try clear hi)))
     go_ret3
     exact ⟨by first | rfl | (simp [errW_none, errW_some] <;> rfl) | (simp [*, errW_none, errW_some] <;> rfl), by repeat (first | (with_reducible first | exact HB.out | apply below_alloc | apply pw_below_drewN | apply below_drew1) | exact HB.out)⟩
   · replace c6 := Bool.eq_false_iff.mpr c6
     subst c6
     have H1 : (some (t367, t365, false)) = some (r1, r2, r3) := by rw [if_neg (show ¬ (false = true) by decide)] at H; exact H
     clear H
     have H := H1
     clear H1
     simp only [Option.some.injEq, Prod.mk.injEq] at H
     obtain ⟨rfl, rfl, rfl⟩ := H
     go_enter Tryz.func80, Tryz.ntmps80
     go_wp2_with (first | ((with_reducible refine gate_callee (f := 98) rfl ?_); refine goesL_ (some 11) rfl rfl Tryz.func98 (by kernel_rfl) rfl #[.string a0, .int .u8 128] rfl (by (try simp only [List.map_toArray, List.map_cons, List.map_nil]); first | done | rfl | (simp only [List.length_drop, List.length_take]; rfl)) ?_; (with_reducible refine (ucs_filled.calls a0 128 t363 t364 _ A2.out).mono ?_); rintro e w10 ⟨rfl, hb⟩; refine ⟨_, rfl, ?_⟩; have n0_ := Aside0.mk (below_step (by repeat (first | (with_reducible first | exact HB.out | apply below_alloc | apply pw_below_drewN | apply below_drew1) | exact HB.out)) hb); clear HB; have HB := n0_; clear n0_; (try clear hb); (try clear hb2); (try clear hk); (try clear hi)) | ((with_reducible refine gate_callee (f := 98) rfl ?_); refine goesL_ (some 16) rfl rfl Tryz.func98 (by kernel_rfl) rfl #[.string a0, .int .u8 191] rfl (by (try simp only [List.map_toArray, List.map_cons, List.map_nil]); first | done | rfl | (simp only [List.length_drop, List.length_take]; rfl)) ?_; (with_reducible refine (ucs_filled.calls a0 191 t365 t366 _ A3.out).mono ?_); rintro e w11 ⟨rfl, hb⟩; refine ⟨_, rfl, ?_⟩; have n0_ := Aside0.mk (below_step (by repeat (first | (with_reducible first | exact HB.out | apply below_alloc | apply pw_below_drewN | apply below_drew1) | exact HB.out)) hb); clear HB; have HB := n0_; clear n0_; (try clear hb); (try clear hb2); (try clear hk); (try clear hi)) | ((with_reducible refine gate_callee (f := 98) rfl ?_); refine goesL_ (some 23) rfl rfl Tryz.func98 (by kernel_rfl) rfl #[.string (⟨#[224, 160]⟩ : ByteArray), .int .u8 128] rfl (by (try simp only [List.map_toArray, List.map_cons, List.map_nil]); first | done | rfl | (simp only [List.length_drop, List.length_take]; rfl)) ?_; (with_reducible refine (ucs_filled.calls (⟨#[224, 160]⟩ : ByteArray) 128 t367 false _ A5.out).mono ?_); rintro e w12 ⟨rfl, hb⟩; refine ⟨_, rfl, ?_⟩; have n0_ := Aside0.mk (below_step (by repeat (first | (with_reducible first | exact HB.out | apply below_alloc | apply pw_below_drewN | apply below_drew1) | exact HB.out)) hb); clear HB; have HB := n0_; clear n0_; (try clear hb); (try clear hb2); (try clear hk); (try clear hi)))
     go_ret3
     exact ⟨by first | rfl | (simp [errW_none, errW_some] <;> rfl) | (simp [*, errW_none, errW_some] <;> rfl), by repeat (first | (with_reducible first | exact HB.out | apply below_alloc | apply pw_below_drewN | apply below_drew1) | exact HB.out)⟩
 · rw [if_neg c4] at H
   have c4b0 : (a0.toList == ([224] : List UInt8)) = false := beq_eq_false_iff_ne.mpr c4
   have c4b1 : (a0.toList != ([224] : List UInt8)) = true := bne_iff_ne.mpr c4
   by_cases c13 : a0.toList = ([240] : List UInt8)
   · rw [if_pos c13] at H
     have c13b0 : (a0.toList == ([240] : List UInt8)) = true := beq_iff_eq.mpr c13
     have c13b1 : (a0.toList != ([240] : List UInt8)) = false := bne_eq_false_iff_eq.mpr c13
     clear c13
     replace H := Option.bind_eq_some_iff.mp H
     obtain ⟨⟨t369, t370⟩, A140, H⟩ := H
     replace H : (if t370 = true then (some (t369, t365, t366)) else (some (t369, t365, false))) = some (r1, r2, r3) := H
     have A14 := Aside0.mk A140
     clear A140
     by_cases c15 : t370 = true
     · subst c15
       have H1 : (some (t369, t365, t366)) = some (r1, r2, r3) := by rw [if_pos rfl] at H; exact H
       clear H
       have H := H1
       clear H1
       simp only [Option.some.injEq, Prod.mk.injEq] at H
       obtain ⟨rfl, rfl, rfl⟩ := H
       go_enter Tryz.func80, Tryz.ntmps80
       go_wp2_with (first | ((with_reducible refine gate_callee (f := 98) rfl ?_); refine goesL_ (some 11) rfl rfl Tryz.func98 (by kernel_rfl) rfl #[.string a0, .int .u8 128] rfl (by (try simp only [List.map_toArray, List.map_cons, List.map_nil]); first | done | rfl | (simp only [List.length_drop, List.length_take]; rfl)) ?_; (with_reducible refine (ucs_filled.calls a0 128 t363 t364 _ A2.out).mono ?_); rintro e w16 ⟨rfl, hb⟩; refine ⟨_, rfl, ?_⟩; have n0_ := Aside0.mk (below_step (by repeat (first | (with_reducible first | exact HB.out | apply below_alloc | apply pw_below_drewN | apply below_drew1) | exact HB.out)) hb); clear HB; have HB := n0_; clear n0_; (try clear hb); (try clear hb2); (try clear hk); (try clear hi)) | ((with_reducible refine gate_callee (f := 98) rfl ?_); refine goesL_ (some 16) rfl rfl Tryz.func98 (by kernel_rfl) rfl #[.string a0, .int .u8 191] rfl (by (try simp only [List.map_toArray, List.map_cons, List.map_nil]); first | done | rfl | (simp only [List.length_drop, List.length_take]; rfl)) ?_; (with_reducible refine (ucs_filled.calls a0 191 t365 t366 _ A3.out).mono ?_); rintro e w17 ⟨rfl, hb⟩; refine ⟨_, rfl, ?_⟩; have n0_ := Aside0.mk (below_step (by repeat (first | (with_reducible first | exact HB.out | apply below_alloc | apply pw_below_drewN | apply below_drew1) | exact HB.out)) hb); clear HB; have HB := n0_; clear n0_; (try clear hb); (try clear hb2); (try clear hk); (try clear hi)) | ((with_reducible refine gate_callee (f := 98) rfl ?_); refine goesL_ (some 29) rfl rfl Tryz.func98 (by kernel_rfl) rfl #[.string (⟨#[240, 144]⟩ : ByteArray), .int .u8 128] rfl (by (try simp only [List.map_toArray, List.map_cons, List.map_nil]); first | done | rfl | (simp only [List.length_drop, List.length_take]; rfl)) ?_; (with_reducible refine (ucs_filled.calls (⟨#[240, 144]⟩ : ByteArray) 128 t369 true _ A14.out).mono ?_); rintro e w18 ⟨rfl, hb⟩; refine ⟨_, rfl, ?_⟩; have n0_ := Aside0.mk (below_step (by repeat (first | (with_reducible first | exact HB.out | apply below_alloc | apply pw_below_drewN | apply below_drew1) | exact HB.out)) hb); clear HB; have HB := n0_; clear n0_; (try clear hb); (try clear hb2); (try clear hk); (try clear hi)))
       go_ret3
       exact ⟨by first | rfl | (simp [errW_none, errW_some] <;> rfl) | (simp [*, errW_none, errW_some] <;> rfl), by repeat (first | (with_reducible first | exact HB.out | apply below_alloc | apply pw_below_drewN | apply below_drew1) | exact HB.out)⟩
     · replace c15 := Bool.eq_false_iff.mpr c15
       subst c15
       have H1 : (some (t369, t365, false)) = some (r1, r2, r3) := by rw [if_neg (show ¬ (false = true) by decide)] at H; exact H
       clear H
       have H := H1
       clear H1
       simp only [Option.some.injEq, Prod.mk.injEq] at H
       obtain ⟨rfl, rfl, rfl⟩ := H
       go_enter Tryz.func80, Tryz.ntmps80
       go_wp2_with (first | ((with_reducible refine gate_callee (f := 98) rfl ?_); refine goesL_ (some 11) rfl rfl Tryz.func98 (by kernel_rfl) rfl #[.string a0, .int .u8 128] rfl (by (try simp only [List.map_toArray, List.map_cons, List.map_nil]); first | done | rfl | (simp only [List.length_drop, List.length_take]; rfl)) ?_; (with_reducible refine (ucs_filled.calls a0 128 t363 t364 _ A2.out).mono ?_); rintro e w19 ⟨rfl, hb⟩; refine ⟨_, rfl, ?_⟩; have n0_ := Aside0.mk (below_step (by repeat (first | (with_reducible first | exact HB.out | apply below_alloc | apply pw_below_drewN | apply below_drew1) | exact HB.out)) hb); clear HB; have HB := n0_; clear n0_; (try clear hb); (try clear hb2); (try clear hk); (try clear hi)) | ((with_reducible refine gate_callee (f := 98) rfl ?_); refine goesL_ (some 16) rfl rfl Tryz.func98 (by kernel_rfl) rfl #[.string a0, .int .u8 191] rfl (by (try simp only [List.map_toArray, List.map_cons, List.map_nil]); first | done | rfl | (simp only [List.length_drop, List.length_take]; rfl)) ?_; (with_reducible refine (ucs_filled.calls a0 191 t365 t366 _ A3.out).mono ?_); rintro e w20 ⟨rfl, hb⟩; refine ⟨_, rfl, ?_⟩; have n0_ := Aside0.mk (below_step (by repeat (first | (with_reducible first | exact HB.out | apply below_alloc | apply pw_below_drewN | apply below_drew1) | exact HB.out)) hb); clear HB; have HB := n0_; clear n0_; (try clear hb); (try clear hb2); (try clear hk); (try clear hi)) | ((with_reducible refine gate_callee (f := 98) rfl ?_); refine goesL_ (some 29) rfl rfl Tryz.func98 (by kernel_rfl) rfl #[.string (⟨#[240, 144]⟩ : ByteArray), .int .u8 128] rfl (by (try simp only [List.map_toArray, List.map_cons, List.map_nil]); first | done | rfl | (simp only [List.length_drop, List.length_take]; rfl)) ?_; (with_reducible refine (ucs_filled.calls (⟨#[240, 144]⟩ : ByteArray) 128 t369 false _ A14.out).mono ?_); rintro e w21 ⟨rfl, hb⟩; refine ⟨_, rfl, ?_⟩; have n0_ := Aside0.mk (below_step (by repeat (first | (with_reducible first | exact HB.out | apply below_alloc | apply pw_below_drewN | apply below_drew1) | exact HB.out)) hb); clear HB; have HB := n0_; clear n0_; (try clear hb); (try clear hb2); (try clear hk); (try clear hi)))
       go_ret3
       exact ⟨by first | rfl | (simp [errW_none, errW_some] <;> rfl) | (simp [*, errW_none, errW_some] <;> rfl), by repeat (first | (with_reducible first | exact HB.out | apply below_alloc | apply pw_below_drewN | apply below_drew1) | exact HB.out)⟩
   · rw [if_neg c13] at H
     have c13b0 : (a0.toList == ([240] : List UInt8)) = false := beq_eq_false_iff_ne.mpr c13
     have c13b1 : (a0.toList != ([240] : List UInt8)) = true := bne_iff_ne.mpr c13
     by_cases c22 : a0.toList = ([237] : List UInt8)
     · rw [if_pos c22] at H
       have c22b0 : (a0.toList == ([237] : List UInt8)) = true := beq_iff_eq.mpr c22
       have c22b1 : (a0.toList != ([237] : List UInt8)) = false := bne_eq_false_iff_eq.mpr c22
       clear c22
       replace H := Option.bind_eq_some_iff.mp H
       obtain ⟨⟨t371, t372⟩, A230, H⟩ := H
       replace H : (if t364 = true then (some (t363, t371, t372)) else (some (t363, t371, false))) = some (r1, r2, r3) := H
       have A23 := Aside0.mk A230
       clear A230
       by_cases c24 : t364 = true
       · subst c24
         have H1 : (some (t363, t371, t372)) = some (r1, r2, r3) := by rw [if_pos rfl] at H; exact H
         clear H
         have H := H1
         clear H1
         simp only [Option.some.injEq, Prod.mk.injEq] at H
         obtain ⟨rfl, rfl, rfl⟩ := H
         go_enter Tryz.func80, Tryz.ntmps80
         go_wp2_with (first | ((with_reducible refine gate_callee (f := 98) rfl ?_); refine goesL_ (some 11) rfl rfl Tryz.func98 (by kernel_rfl) rfl #[.string a0, .int .u8 128] rfl (by (try simp only [List.map_toArray, List.map_cons, List.map_nil]); first | done | rfl | (simp only [List.length_drop, List.length_take]; rfl)) ?_; (with_reducible refine (ucs_filled.calls a0 128 t363 true _ A2.out).mono ?_); rintro e w25 ⟨rfl, hb⟩; refine ⟨_, rfl, ?_⟩; have n0_ := Aside0.mk (below_step (by repeat (first | (with_reducible first | exact HB.out | apply below_alloc | apply pw_below_drewN | apply below_drew1) | exact HB.out)) hb); clear HB; have HB := n0_; clear n0_; (try clear hb); (try clear hb2); (try clear hk); (try clear hi)) | ((with_reducible refine gate_callee (f := 98) rfl ?_); refine goesL_ (some 16) rfl rfl Tryz.func98 (by kernel_rfl) rfl #[.string a0, .int .u8 191] rfl (by (try simp only [List.map_toArray, List.map_cons, List.map_nil]); first | done | rfl | (simp only [List.length_drop, List.length_take]; rfl)) ?_; (with_reducible refine (ucs_filled.calls a0 191 t365 t366 _ A3.out).mono ?_); rintro e w26 ⟨rfl, hb⟩; refine ⟨_, rfl, ?_⟩; have n0_ := Aside0.mk (below_step (by repeat (first | (with_reducible first | exact HB.out | apply below_alloc | apply pw_below_drewN | apply below_drew1) | exact HB.out)) hb); clear HB; have HB := n0_; clear n0_; (try clear hb); (try clear hb2); (try clear hk); (try clear hi)) | ((with_reducible refine gate_callee (f := 98) rfl ?_); refine goesL_ (some 35) rfl rfl Tryz.func98 (by kernel_rfl) rfl #[.string (⟨#[237, 159]⟩ : ByteArray), .int .u8 191] rfl (by (try simp only [List.map_toArray, List.map_cons, List.map_nil]); first | done | rfl | (simp only [List.length_drop, List.length_take]; rfl)) ?_; (with_reducible refine (ucs_filled.calls (⟨#[237, 159]⟩ : ByteArray) 191 t371 t372 _ A23.out).mono ?_); rintro e w27 ⟨rfl, hb⟩; refine ⟨_, rfl, ?_⟩; have n0_ := Aside0.mk (below_step (by repeat (first | (with_reducible first | exact HB.out | apply below_alloc | apply pw_below_drewN | apply below_drew1) | exact HB.out)) hb); clear HB; have HB := n0_; clear n0_; (try clear hb); (try clear hb2); (try clear hk); (try clear hi)))
         go_ret3
         exact ⟨by first | rfl | (simp [errW_none, errW_some] <;> rfl) | (simp [*, errW_none, errW_some] <;> rfl), by repeat (first | (with_reducible first | exact HB.out | apply below_alloc | apply pw_below_drewN | apply below_drew1) | exact HB.out)⟩
       · replace c24 := Bool.eq_false_iff.mpr c24
         subst c24
         have H1 : (some (t363, t371, false)) = some (r1, r2, r3) := by rw [if_neg (show ¬ (false = true) by decide)] at H; exact H
         clear H
         have H := H1
         clear H1
         simp only [Option.some.injEq, Prod.mk.injEq] at H
         obtain ⟨rfl, rfl, rfl⟩ := H
         go_enter Tryz.func80, Tryz.ntmps80
         go_wp2_with (first | ((with_reducible refine gate_callee (f := 98) rfl ?_); refine goesL_ (some 11) rfl rfl Tryz.func98 (by kernel_rfl) rfl #[.string a0, .int .u8 128] rfl (by (try simp only [List.map_toArray, List.map_cons, List.map_nil]); first | done | rfl | (simp only [List.length_drop, List.length_take]; rfl)) ?_; (with_reducible refine (ucs_filled.calls a0 128 t363 false _ A2.out).mono ?_); rintro e w28 ⟨rfl, hb⟩; refine ⟨_, rfl, ?_⟩; have n0_ := Aside0.mk (below_step (by repeat (first | (with_reducible first | exact HB.out | apply below_alloc | apply pw_below_drewN | apply below_drew1) | exact HB.out)) hb); clear HB; have HB := n0_; clear n0_; (try clear hb); (try clear hb2); (try clear hk); (try clear hi)) | ((with_reducible refine gate_callee (f := 98) rfl ?_); refine goesL_ (some 16) rfl rfl Tryz.func98 (by kernel_rfl) rfl #[.string a0, .int .u8 191] rfl (by (try simp only [List.map_toArray, List.map_cons, List.map_nil]); first | done | rfl | (simp only [List.length_drop, List.length_take]; rfl)) ?_; (with_reducible refine (ucs_filled.calls a0 191 t365 t366 _ A3.out).mono ?_); rintro e w29 ⟨rfl, hb⟩; refine ⟨_, rfl, ?_⟩; have n0_ := Aside0.mk (below_step (by repeat (first | (with_reducible first | exact HB.out | apply below_alloc | apply pw_below_drewN | apply below_drew1) | exact HB.out)) hb); clear HB; have HB := n0_; clear n0_; (try clear hb); (try clear hb2); (try clear hk); (try clear hi)) | ((with_reducible refine gate_callee (f := 98) rfl ?_); refine goesL_ (some 35) rfl rfl Tryz.func98 (by kernel_rfl) rfl #[.string (⟨#[237, 159]⟩ : ByteArray), .int .u8 191] rfl (by (try simp only [List.map_toArray, List.map_cons, List.map_nil]); first | done | rfl | (simp only [List.length_drop, List.length_take]; rfl)) ?_; (with_reducible refine (ucs_filled.calls (⟨#[237, 159]⟩ : ByteArray) 191 t371 t372 _ A23.out).mono ?_); rintro e w30 ⟨rfl, hb⟩; refine ⟨_, rfl, ?_⟩; have n0_ := Aside0.mk (below_step (by repeat (first | (with_reducible first | exact HB.out | apply below_alloc | apply pw_below_drewN | apply below_drew1) | exact HB.out)) hb); clear HB; have HB := n0_; clear n0_; (try clear hb); (try clear hb2); (try clear hk); (try clear hi)))
         go_ret3
         exact ⟨by first | rfl | (simp [errW_none, errW_some] <;> rfl) | (simp [*, errW_none, errW_some] <;> rfl), by repeat (first | (with_reducible first | exact HB.out | apply below_alloc | apply pw_below_drewN | apply below_drew1) | exact HB.out)⟩
     · rw [if_neg c22] at H
       have c22b0 : (a0.toList == ([237] : List UInt8)) = false := beq_eq_false_iff_ne.mpr c22
       have c22b1 : (a0.toList != ([237] : List UInt8)) = true := bne_iff_ne.mpr c22
       by_cases c31 : a0.toList = ([244] : List UInt8)
       · rw [if_pos c31] at H
         have c31b0 : (a0.toList == ([244] : List UInt8)) = true := beq_iff_eq.mpr c31
         have c31b1 : (a0.toList != ([244] : List UInt8)) = false := bne_eq_false_iff_eq.mpr c31
         clear c31
         replace H := Option.bind_eq_some_iff.mp H
         obtain ⟨⟨t373, t374⟩, A320, H⟩ := H
         replace H : (if t364 = true then (some (t363, t373, t374)) else (some (t363, t373, false))) = some (r1, r2, r3) := H
         have A32 := Aside0.mk A320
         clear A320
         by_cases c33 : t364 = true
         · subst c33
           have H1 : (some (t363, t373, t374)) = some (r1, r2, r3) := by rw [if_pos rfl] at H; exact H
           clear H
           have H := H1
           clear H1
           simp only [Option.some.injEq, Prod.mk.injEq] at H
           obtain ⟨rfl, rfl, rfl⟩ := H
           go_enter Tryz.func80, Tryz.ntmps80
           go_wp2_with (first | ((with_reducible refine gate_callee (f := 98) rfl ?_); refine goesL_ (some 11) rfl rfl Tryz.func98 (by kernel_rfl) rfl #[.string a0, .int .u8 128] rfl (by (try simp only [List.map_toArray, List.map_cons, List.map_nil]); first | done | rfl | (simp only [List.length_drop, List.length_take]; rfl)) ?_; (with_reducible refine (ucs_filled.calls a0 128 t363 true _ A2.out).mono ?_); rintro e w34 ⟨rfl, hb⟩; refine ⟨_, rfl, ?_⟩; have n0_ := Aside0.mk (below_step (by repeat (first | (with_reducible first | exact HB.out | apply below_alloc | apply pw_below_drewN | apply below_drew1) | exact HB.out)) hb); clear HB; have HB := n0_; clear n0_; (try clear hb); (try clear hb2); (try clear hk); (try clear hi)) | ((with_reducible refine gate_callee (f := 98) rfl ?_); refine goesL_ (some 16) rfl rfl Tryz.func98 (by kernel_rfl) rfl #[.string a0, .int .u8 191] rfl (by (try simp only [List.map_toArray, List.map_cons, List.map_nil]); first | done | rfl | (simp only [List.length_drop, List.length_take]; rfl)) ?_; (with_reducible refine (ucs_filled.calls a0 191 t365 t366 _ A3.out).mono ?_); rintro e w35 ⟨rfl, hb⟩; refine ⟨_, rfl, ?_⟩; have n0_ := Aside0.mk (below_step (by repeat (first | (with_reducible first | exact HB.out | apply below_alloc | apply pw_below_drewN | apply below_drew1) | exact HB.out)) hb); clear HB; have HB := n0_; clear n0_; (try clear hb); (try clear hb2); (try clear hk); (try clear hi)) | ((with_reducible refine gate_callee (f := 98) rfl ?_); refine goesL_ (some 41) rfl rfl Tryz.func98 (by kernel_rfl) rfl #[.string (⟨#[244, 143]⟩ : ByteArray), .int .u8 191] rfl (by (try simp only [List.map_toArray, List.map_cons, List.map_nil]); first | done | rfl | (simp only [List.length_drop, List.length_take]; rfl)) ?_; (with_reducible refine (ucs_filled.calls (⟨#[244, 143]⟩ : ByteArray) 191 t373 t374 _ A32.out).mono ?_); rintro e w36 ⟨rfl, hb⟩; refine ⟨_, rfl, ?_⟩; have n0_ := Aside0.mk (below_step (by repeat (first | (with_reducible first | exact HB.out | apply below_alloc | apply pw_below_drewN | apply below_drew1) | exact HB.out)) hb); clear HB; have HB := n0_; clear n0_; (try clear hb); (try clear hb2); (try clear hk); (try clear hi)))
           go_ret3
           exact ⟨by first | rfl | (simp [errW_none, errW_some] <;> rfl) | (simp [*, errW_none, errW_some] <;> rfl), by repeat (first | (with_reducible first | exact HB.out | apply below_alloc | apply pw_below_drewN | apply below_drew1) | exact HB.out)⟩
         · replace c33 := Bool.eq_false_iff.mpr c33
           subst c33
           have H1 : (some (t363, t373, false)) = some (r1, r2, r3) := by rw [if_neg (show ¬ (false = true) by decide)] at H; exact H
           clear H
           have H := H1
           clear H1
           simp only [Option.some.injEq, Prod.mk.injEq] at H
           obtain ⟨rfl, rfl, rfl⟩ := H
           go_enter Tryz.func80, Tryz.ntmps80
           go_wp2_with (first | ((with_reducible refine gate_callee (f := 98) rfl ?_); refine goesL_ (some 11) rfl rfl Tryz.func98 (by kernel_rfl) rfl #[.string a0, .int .u8 128] rfl (by (try simp only [List.map_toArray, List.map_cons, List.map_nil]); first | done | rfl | (simp only [List.length_drop, List.length_take]; rfl)) ?_; (with_reducible refine (ucs_filled.calls a0 128 t363 false _ A2.out).mono ?_); rintro e w37 ⟨rfl, hb⟩; refine ⟨_, rfl, ?_⟩; have n0_ := Aside0.mk (below_step (by repeat (first | (with_reducible first | exact HB.out | apply below_alloc | apply pw_below_drewN | apply below_drew1) | exact HB.out)) hb); clear HB; have HB := n0_; clear n0_; (try clear hb); (try clear hb2); (try clear hk); (try clear hi)) | ((with_reducible refine gate_callee (f := 98) rfl ?_); refine goesL_ (some 16) rfl rfl Tryz.func98 (by kernel_rfl) rfl #[.string a0, .int .u8 191] rfl (by (try simp only [List.map_toArray, List.map_cons, List.map_nil]); first | done | rfl | (simp only [List.length_drop, List.length_take]; rfl)) ?_; (with_reducible refine (ucs_filled.calls a0 191 t365 t366 _ A3.out).mono ?_); rintro e w38 ⟨rfl, hb⟩; refine ⟨_, rfl, ?_⟩; have n0_ := Aside0.mk (below_step (by repeat (first | (with_reducible first | exact HB.out | apply below_alloc | apply pw_below_drewN | apply below_drew1) | exact HB.out)) hb); clear HB; have HB := n0_; clear n0_; (try clear hb); (try clear hb2); (try clear hk); (try clear hi)) | ((with_reducible refine gate_callee (f := 98) rfl ?_); refine goesL_ (some 41) rfl rfl Tryz.func98 (by kernel_rfl) rfl #[.string (⟨#[244, 143]⟩ : ByteArray), .int .u8 191] rfl (by (try simp only [List.map_toArray, List.map_cons, List.map_nil]); first | done | rfl | (simp only [List.length_drop, List.length_take]; rfl)) ?_; (with_reducible refine (ucs_filled.calls (⟨#[244, 143]⟩ : ByteArray) 191 t373 t374 _ A32.out).mono ?_); rintro e w39 ⟨rfl, hb⟩; refine ⟨_, rfl, ?_⟩; have n0_ := Aside0.mk (below_step (by repeat (first | (with_reducible first | exact HB.out | apply below_alloc | apply pw_below_drewN | apply below_drew1) | exact HB.out)) hb); clear HB; have HB := n0_; clear n0_; (try clear hb); (try clear hb2); (try clear hk); (try clear hi)))
           go_ret3
           exact ⟨by first | rfl | (simp [errW_none, errW_some] <;> rfl) | (simp [*, errW_none, errW_some] <;> rfl), by repeat (first | (with_reducible first | exact HB.out | apply below_alloc | apply pw_below_drewN | apply below_drew1) | exact HB.out)⟩
       · rw [if_neg c31] at H
         have c31b0 : (a0.toList == ([244] : List UInt8)) = false := beq_eq_false_iff_ne.mpr c31
         have c31b1 : (a0.toList != ([244] : List UInt8)) = true := bne_iff_ne.mpr c31
         by_cases c40 : t364 = true
         · subst c40
           have H1 : (some (t363, t365, t366)) = some (r1, r2, r3) := by rw [if_pos rfl] at H; exact H
           clear H
           have H := H1
           clear H1
           simp only [Option.some.injEq, Prod.mk.injEq] at H
           obtain ⟨rfl, rfl, rfl⟩ := H
           go_enter Tryz.func80, Tryz.ntmps80
           go_wp2_with (first | ((with_reducible refine gate_callee (f := 98) rfl ?_); refine goesL_ (some 11) rfl rfl Tryz.func98 (by kernel_rfl) rfl #[.string a0, .int .u8 128] rfl (by (try simp only [List.map_toArray, List.map_cons, List.map_nil]); first | done | rfl | (simp only [List.length_drop, List.length_take]; rfl)) ?_; (with_reducible refine (ucs_filled.calls a0 128 t363 true _ A2.out).mono ?_); rintro e w41 ⟨rfl, hb⟩; refine ⟨_, rfl, ?_⟩; have n0_ := Aside0.mk (below_step (by repeat (first | (with_reducible first | exact HB.out | apply below_alloc | apply pw_below_drewN | apply below_drew1) | exact HB.out)) hb); clear HB; have HB := n0_; clear n0_; (try clear hb); (try clear hb2); (try clear hk); (try clear hi)) | ((with_reducible refine gate_callee (f := 98) rfl ?_); refine goesL_ (some 16) rfl rfl Tryz.func98 (by kernel_rfl) rfl #[.string a0, .int .u8 191] rfl (by (try simp only [List.map_toArray, List.map_cons, List.map_nil]); first | done | rfl | (simp only [List.length_drop, List.length_take]; rfl)) ?_; (with_reducible refine (ucs_filled.calls a0 191 t365 t366 _ A3.out).mono ?_); rintro e w42 ⟨rfl, hb⟩; refine ⟨_, rfl, ?_⟩; have n0_ := Aside0.mk (below_step (by repeat (first | (with_reducible first | exact HB.out | apply below_alloc | apply pw_below_drewN | apply below_drew1) | exact HB.out)) hb); clear HB; have HB := n0_; clear n0_; (try clear hb); (try clear hb2); (try clear hk); (try clear hi)))
           go_ret3
           exact ⟨by first | rfl | (simp [errW_none, errW_some] <;> rfl) | (simp [*, errW_none, errW_some] <;> rfl), by repeat (first | (with_reducible first | exact HB.out | apply below_alloc | apply pw_below_drewN | apply below_drew1) | exact HB.out)⟩
         · replace c40 := Bool.eq_false_iff.mpr c40
           subst c40
           have H1 : (some (t363, t365, false)) = some (r1, r2, r3) := by rw [if_neg (show ¬ (false = true) by decide)] at H; exact H
           clear H
           have H := H1
           clear H1
           simp only [Option.some.injEq, Prod.mk.injEq] at H
           obtain ⟨rfl, rfl, rfl⟩ := H
           go_enter Tryz.func80, Tryz.ntmps80
           go_wp2_with (first | ((with_reducible refine gate_callee (f := 98) rfl ?_); refine goesL_ (some 11) rfl rfl Tryz.func98 (by kernel_rfl) rfl #[.string a0, .int .u8 128] rfl (by (try simp only [List.map_toArray, List.map_cons, List.map_nil]); first | done | rfl | (simp only [List.length_drop, List.length_take]; rfl)) ?_; (with_reducible refine (ucs_filled.calls a0 128 t363 false _ A2.out).mono ?_); rintro e w43 ⟨rfl, hb⟩; refine ⟨_, rfl, ?_⟩; have n0_ := Aside0.mk (below_step (by repeat (first | (with_reducible first | exact HB.out | apply below_alloc | apply pw_below_drewN | apply below_drew1) | exact HB.out)) hb); clear HB; have HB := n0_; clear n0_; (try clear hb); (try clear hb2); (try clear hk); (try clear hi)) | ((with_reducible refine gate_callee (f := 98) rfl ?_); refine goesL_ (some 16) rfl rfl Tryz.func98 (by kernel_rfl) rfl #[.string a0, .int .u8 191] rfl (by (try simp only [List.map_toArray, List.map_cons, List.map_nil]); first | done | rfl | (simp only [List.length_drop, List.length_take]; rfl)) ?_; (with_reducible refine (ucs_filled.calls a0 191 t365 t366 _ A3.out).mono ?_); rintro e w44 ⟨rfl, hb⟩; refine ⟨_, rfl, ?_⟩; have n0_ := Aside0.mk (below_step (by repeat (first | (with_reducible first | exact HB.out | apply below_alloc | apply pw_below_drewN | apply below_drew1) | exact HB.out)) hb); clear HB; have HB := n0_; clear n0_; (try clear hb); (try clear hb2); (try clear hk); (try clear hi)))
           go_ret3
           exact ⟨by first | rfl | (simp [errW_none, errW_some] <;> rfl) | (simp [*, errW_none, errW_some] <;> rfl), by repeat (first | (with_reducible first | exact HB.out | apply below_alloc | apply pw_below_drewN | apply below_drew1) | exact HB.out)⟩
end Go.Proofs.YtkipkbggnfllkaaGreatDoor.P
end
section
namespace Go.Proofs.YtkipkbggnfllkaaGreatDoor.P
open Go.RowKit Go.Proofs.YtkipkbggnfllkaaGreatDoorW.PrintWords Go.Proofs.YtkipkbggnfllkaaGreatDoorW.PrintLast Go.Proofs.YtkipkbggnfllkaaGreatDoorW.PrintMore
def spanCell (k j : Nat) : Int :=
 if j = 0 then 160 else if j = 1 then 55295 else if j = 2 then 57344 else if j = 3 then 64975 else if j = 4 then 65008 else if j = 5 then 65519
 else if j / 2 < k + 2 then (if j % 2 = 0 then ((j / 2 - 2 : Nat) : Int) * 65536 else ((j / 2 - 2 : Nat) : Int) * 65536 + 65533) else 0
def spanTab (k : Nat) : Array Value := ((List.range 38).map fun j => Value.int .i64 (spanCell k j)).toArray
theorem spanTab_size (k : Nat) : (spanTab k).size = 38 := by simp [spanTab]
theorem spanTab_get (k j : Nat) (h : j < 38) : (spanTab k)[j]? = some (.int .i64 (spanCell k j)) := by simp [spanTab, h]
theorem spanTab_step (k : Nat) (h1 : 1 ≤ k) (h2 : k ≤ 16) : ((spanTab k).setIfInBounds ((2 + k) * 2) (.int .i64 ((k : Int) * 65536))).setIfInBounds ((2 + k) * 2 + 1) (.int .i64 ((k : Int) * 65536 + 65533)) = spanTab (k + 1) := by
 apply Array.ext_getElem?
 intro j
 by_cases hj : j < 38
 · rw [spanTab_get (k + 1) j hj, Array.getElem?_setIfInBounds, Array.getElem?_setIfInBounds, spanTab_get k j hj]
   simp only [Array.size_setIfInBounds, spanTab_size]
   by_cases e1 : (2 + k) * 2 + 1 = j
   · subst e1
     rw [if_pos rfl, if_pos hj]
     unfold spanCell
     simp only [show ((2 + k) * 2 + 1) / 2 = k + 2 by omega, show ((2 + k) * 2 + 1) % 2 = 1 by omega]
     simp
     omega
   · rw [if_neg e1]
     by_cases e2 : (2 + k) * 2 = j
     · subst e2
       rw [if_pos rfl, if_pos hj]
       unfold spanCell
       simp only [show ((2 + k) * 2) / 2 = k + 2 by omega, show ((2 + k) * 2) % 2 = 0 by omega]
       simp
       omega
     · rw [if_neg e2]
       have : j / 2 < k + 2 ↔ j / 2 < k + 1 + 2 := by omega
       unfold spanCell
       simp only [this]
 · rw [Array.getElem?_eq_none (by simp [spanTab_size]; omega), Array.getElem?_eq_none (by rw [spanTab_size]; omega)]
def spanAll : Array Value := (spanTab 17).setIfInBounds 32 (.int .i64 921600)
theorem span_build : Tryz.prog.built 123 [(0, .agg #[.int .i64 160, .int .i64 55295]), (1, .agg #[.int .i64 57344, .int .i64 64975]), (2, .agg #[.int .i64 65008, .int .i64 65519])] = some (spanTab 1) := by kernel_rfl
theorem span_size : (Tryz.prog.info? 123).map (·.size) = some 38 := by kernel_rfl
section
variable {P : Program}
theorem wpList_build_to {ops : Array Oper} {rest : List Oper} {o : Oper} {a : Act} {w : World} {Q : Exit → Act → World → Prop} (hg : o.guard = none) (t : TypeId) (parts : Array (Nat × Operand)) (ho : o.op = .build t parts) (cs : Array Value)
 (hb : P.built t (parts.map fun (i, x) => (i, a.eval x)).toList = some cs) (h : wpList P ops Q rest (a.put o.dst (.agg cs)) w) : wpList P ops Q (o :: rest) a w :=
 wpList_build hg t parts ho (by rw [hb]; rfl) (by rw [hb]; exact h)
end
theorem spanTab_one (k : Nat) : (spanTab k).all (·.oneCell') = true := by simp [spanTab, Value.oneCell']
theorem heap_setRow_other (w : World) (g k : Nat) (cs : Array Value) (h : k ≠ g) : (w.setRow g cs).heap[k]? = w.heap[k]? := by
 simp only [World.setRow, Array.getElem?_modify]
 rw [if_neg (fun e => h e.symm)]
theorem spanAll_one : spanAll.all (·.oneCell') = true := by kernel_rfl
structure SpInv (w wr : World) (cs : Array Value) : Prop where
 s : wr.heap[w.heap.size + 1]? = some (.cells cs 123 (0, 0))
 r : ∃ z, wr.heap[w.heap.size]? = some (.cells z 123 (0, 0)) ∧ z.size = 38
 b : Below w.heap.size w wr
set_option maxRecDepth 100000 in
set_option maxHeartbeats 400000 in
theorem ucs_spans.calls (w : World) :
 Calls Tryz.prog 99 #[] w fun e w' => e = .returned (.agg spanAll) ∧ Below w.heap.size w w' := by
 obtain ⟨T, hT⟩ : ∃ T, T = spanTab := ⟨_, rfl⟩
 have hsb := span_build
 have h1 := spanTab_one 1
 have hz := spanTab_size 1
 rw [← hT] at hsb h1 hz
 have HB := Lib.hid hsb
 have H1 := Lib.hid h1
 have HZ := Lib.hid hz
 have HT := Lib.hid hT
 clear hsb h1 hz hT
 go_enter Tryz.func99, Tryz.ntmps99
 go_wp2_with (first | (refine wpList_build_to rfl 123 _ rfl (T 1) ?hb ?_) | (refine wpList_store_row rfl 123 _ _ rfl (w.heap.size + 1) (T 1) rfl rfl 123 ?old ?hg ?hi ?ho H1.out ?_))
 case hb => exact HB.out
 case hg => exact heap_alloc2_new w _ _
 case hi => rw [HZ.out]; exact span_size
 case ho => rw [HZ.out]; rfl
 go_loopw [2] (fun p wr => ∃ k : Nat, 1 ≤ k ∧ k ≤ 17 ∧ p = .int .i64 k ∧ Hid (SpInv w wr (T k))) (fun p _ => 17 - (intOf p).toNat)
 case atStart =>
  refine ⟨1, by omega, by omega, rfl, Lib.hid ⟨?_, ⟨_, (heap_setRow_other _ _ _ _ (by omega)).trans (heap_alloc2_old w _ _), rfl⟩, ?_⟩⟩
  · exact setRow_heap _ _ _ _ _ _ (heap_alloc2_new w _ _)
  · exact (((Below.refl _ _).alloc (Nat.le_refl _) _).alloc (by simp) _).trans ⟨rfl, rfl, rfl, by simp, fun k hk => heap_setRow_other _ _ _ _ (by omega)⟩
 case round =>
  obtain ⟨k, hk1, hk2, rfl, HS⟩ := hrel
  have hcell : ∀ j, j < 38 → wr.cell? ⟨w.heap.size + 1, j, none⟩ = some (.int .i64 (spanCell k j)) := fun j hj => by
   rw [cell_of_row _ _ _ _ _ _ HS.out.s, HT.out]; exact spanTab_get k j hj
  have hfree : ∀ j, wr.frozen? ⟨w.heap.size + 1, j, none⟩ = false := fun j => frozen_of_row _ _ j _ _ HS.out.s
  by_cases hlt : k ≤ 16
  · have hkc : (1 : Int) ≤ (k : Int) := by omega
    have hkd : (k : Int) ≤ 16 := by omega
    have c0 := hcell ((2 + k) * 2) (by omega)
    have c1 := hcell ((2 + k) * 2 + 1) (by omega)
    have f0 := hfree ((2 + k) * 2)
    have f1 := hfree ((2 + k) * 2 + 1)
    clear hcell hfree
    go_wp2
    go_roundw
    case rel =>
     refine ⟨k + 1, by omega, by omega, by go_num, Lib.hid ⟨?_, ?_, ?_⟩⟩
     · have h1 := heap_setCell_same _ _ ((2 + k) * 2 + 1) _ _ (.int .i64 ((k : Int) * 65536 + 65533)) (heap_setCell_same _ _ ((2 + k) * 2) _ _ (.int .i64 ((k : Int) * 65536)) HS.out.s)
       rw [HT.out, spanTab_step k hk1 hlt] at h1
       rw [HT.out]
       exact h1
     · obtain ⟨z, hz, hs⟩ := HS.out.r
       exact ⟨z, (heap_setCell_other _ _ _ _ (by simp)).trans ((heap_setCell_other _ _ _ _ (by simp)).trans hz), hs⟩
     · exact (HS.out.b.setCell (by simp) _).setCell (by simp) _
    case measure => simp [intOf]; omega
  · obtain rfl : k = 17 := by omega
    have c0 := hcell 32 (by omega)
    have f0 := hfree 32
    have HS2 := Lib.hid (heap_setCell_same _ _ 32 _ _ (.int .i64 921600) HS.out.s)
    rw [HT.out] at HS2
    clear hcell hfree
    obtain ⟨z, hz, hzs⟩ := HS.out.r
    have HZ1 := Lib.hid ((heap_setCell_other wr ⟨w.heap.size + 1, 32, none⟩ w.heap.size (.int .i64 921600) (by simp)).trans hz)
    have HZ2 := Lib.hid hzs
    clear hz hzs
    have HA := Lib.hid (show (spanTab 17).setIfInBounds 32 (.int .i64 921600) = spanAll from rfl)
    rw [HA.out] at HS2
    have hsz : spanAll.size = 38 := by simp [spanAll, spanTab_size]
    have hone := spanAll_one
    obtain ⟨A, hA⟩ : ∃ A, A = spanAll := ⟨_, rfl⟩
    rw [← hA] at HS2 hsz hone
    have HAE := Lib.hid hA
    have HSZ := Lib.hid hsz
    have HO := Lib.hid hone
    clear HA hA hsz hone
    have HB2 := Lib.hid HS.out.b
    go_wp2_with (first | (refine wpList_load_row rfl 123 _ rfl (w.heap.size + 1) rfl 123 A (0, 0) _ HS2.out Tryz.underlying123 rfl ?hi ?_) | (refine wpList_store_row rfl 123 _ _ rfl w.heap.size A rfl rfl 123 z HZ1.out ?hj ?ho HO.out ?_))
    case hi => rw [HSZ.out]; exact span_size
    case hj => rw [HSZ.out]; exact span_size
    case ho => rw [HSZ.out]; exact HZ2.out
    refine bodyPost_ret (v := .agg A) ?_ rfl ⟨by rw [HAE.out], HB2.out.trans ⟨rfl, rfl, rfl, by simp, fun i hi => ?_⟩⟩
    · exact results_cell_row Tryz.results99 _ _ w.heap.size 123 A (0, 0) _ rfl (setRow_heap _ _ _ _ _ _ HZ1.out) Tryz.underlying123 rfl (by rw [HSZ.out]; exact span_size)
    · rw [heap_setRow_other _ _ _ _ (by omega)]
      exact heap_setCell_other _ _ _ _ (by simp; omega)
theorem span_index (k : Nat) (hk : k < 19) (W : World) :
 (Instr.index 123 (.agg spanAll) (.int .i64 (k : Int))).run Tryz.prog W = .ok (.agg #[.int .i64 (spanLo k), .int .i64 (spanHi k)]) W :=
 match k, hk with
 | 0, _ => by kernel_rfl
 | 1, _ => by kernel_rfl
 | 2, _ => by kernel_rfl
 | 3, _ => by kernel_rfl
 | 4, _ => by kernel_rfl
 | 5, _ => by kernel_rfl
 | 6, _ => by kernel_rfl
 | 7, _ => by kernel_rfl
 | 8, _ => by kernel_rfl
 | 9, _ => by kernel_rfl
 | 10, _ => by kernel_rfl
 | 11, _ => by kernel_rfl
 | 12, _ => by kernel_rfl
 | 13, _ => by kernel_rfl
 | 14, _ => by kernel_rfl
 | 15, _ => by kernel_rfl
 | 16, _ => by kernel_rfl
 | 17, _ => by kernel_rfl
 | 18, _ => by kernel_rfl
 | n + 19, h => absurd h (by omega)
def ucs_meets.f (low high : Int) : Option Bool := some (meetsFrom low high 19 0)
set_option maxRecDepth 100000 in
set_option maxHeartbeats 400000 in
theorem ucs_meets.calls (low high : Int) (r : Bool) (w : World) (h : ucs_meets.f low high = some r) :
 Calls Tryz.prog 81 #[.int .i64 low, .int .i64 high] w fun e w' => e = .returned (.bool r) ∧ Below w.heap.size w w' := by
 injection h with h
 have HR := Lib.hid h
 clear h
 go_enter Tryz.func81, Tryz.ntmps81
 go_wp2_with fail
 refine (ucs_spans.calls _).mono ?_
 rintro e w1 ⟨rfl, hb⟩
 have HX := Lib.hid span_index
 obtain ⟨A, hA⟩ : ∃ A, A = spanAll := ⟨_, rfl⟩
 rw [← hA] at HX ⊢
 clear hA
 go_wp2
 go_loopw [6, 8] (fun _ i wr => ∃ k d : Nat, k + d = 19 ∧ i = .int .i64 k ∧ Hid (meetsFrom low high d k = r) ∧ Hid (Below w.heap.size w wr)) (fun _ i _ => 19 - (intOf i).toNat)
 case atStart => exact ⟨0, 19, rfl, rfl, HR, Lib.hid hb⟩
 case round =>
  obtain ⟨k, d, hkd, rfl, HM, HBw⟩ := hrel
  cases d with
  | zero =>
   have hk : k = 19 := by omega
   subst hk
   go_wp2
   go_ret
   exact ⟨by rw [← HM.out]; rfl, HBw.out⟩
  | succ d =>
   have hlt : k < 19 := by omega
   have hi := HX.out k hlt
   have HM1 := HM.out
   rw [meetsFrom] at HM1
   obtain ⟨a, ha⟩ : ∃ a, a = spanLo k := ⟨_, rfl⟩
   obtain ⟨b, hb'⟩ : ∃ b, b = spanHi k := ⟨_, rfl⟩
   rw [← ha, ← hb'] at hi HM1
   clear ha hb' HM
   by_cases h1 : low ≤ b
   · have h1b : decide (low ≤ b) = true := decide_eq_true h1
     by_cases h2 : a ≤ high
     · have h2b : decide (a ≤ high) = true := decide_eq_true h2
       have HMM := Lib.hid (show true = r by rw [← HM1]; simp [h1b, h2b])
       clear HM1
       go_wp2
       go_ret
       exact ⟨by rw [← HMM.out]; rfl, HBw.out.alloc HBw.out.size _⟩
     · have h2b : decide (a ≤ high) = false := decide_eq_false h2
       have HMM := Lib.hid (show meetsFrom low high d (k + 1) = r by rw [← HM1]; simp [h1b, h2b])
       clear HM1
       go_wp2
       go_roundw
       case rel => exact ⟨k + 1, d, by omega, by go_num, HMM, Lib.hid (HBw.out.alloc HBw.out.size _)⟩
       case measure => simp [intOf]; omega
   · have h1b : decide (low ≤ b) = false := decide_eq_false h1
     have HMM := Lib.hid (show meetsFrom low high d (k + 1) = r by rw [← HM1]; simp [h1b])
     clear HM1
     go_wp2
     go_roundw
     case rel => exact ⟨k + 1, d, by omega, by go_num, HMM, Lib.hid (HBw.out.alloc HBw.out.size _)⟩
     case measure => simp [intOf]; omega
end Go.Proofs.YtkipkbggnfllkaaGreatDoor.P
end
section
namespace Go.Proofs.YtkipkbggnfllkaaGreatDoor.P
open Go.RowKit Go.Proofs.YtkipkbggnfllkaaGreatDoorW.PrintWords Go.Proofs.YtkipkbggnfllkaaGreatDoorW.PrintLast Go.Proofs.YtkipkbggnfllkaaGreatDoorW.PrintMore
attribute [local go_sem] max2_int min2_int max_two min_two max_three min_three max_four min_four
set_option linter.unusedVariables false
set_option linter.unusedSimpArgs false
def ucs_Fits.j0 : Nat → ByteArray → Bool → Option (Bool)
 | 0, _, _ => none
 | k + 1, x0, x12 => if x12 = true then (some false) else ((ucs_ends.f x0).bind fun bt375 => (if bt375.2.2 = true then ((ucs_meets.f bt375.1 bt375.2.1).bind fun t378 => (some t378)) else (some false)))
def ucs_Fits.f (k : Nat) (a0 : ByteArray) : Option (Bool) := if a0.toList = ([] : List UInt8) then (ucs_Fits.j0 k a0 true) else (if 0 < (a0.size : Int) then (ucs_Fits.j0 k a0 (decide ((bt a0 0) < 192))) else (none))
theorem ucs_Fits.mono_l : ∀ k, (∀ y0 y1, LeO (ucs_Fits.j0 k y0 y1) (ucs_Fits.j0 (k + 1) y0 y1))
 | 0 => fun _ _ r h => by simp [ucs_Fits.j0] at h
 | k + 1 => by
  have ih0 := ucs_Fits.mono_l k
  · intro y0 y1
    unfold ucs_Fits.j0
    repeat' first
    | (with_reducible exact ih0 _ _)
    | (with_reducible exact LeO.refl _)
    | (with_reducible exact LeO.none _)
    | (with_reducible refine LeO.ite ?_ ?_)
    | (with_reducible refine LeO.bind ?_ (fun _ => ?_))
    | exact ih0 _ _
    | exact LeO.none _
    | refine LeO.ite ?_ ?_
    | refine LeO.bind ?_ (fun _ => ?_)
theorem ucs_Fits.mono : ∀ a0 k, LeO (ucs_Fits.f k a0) (ucs_Fits.f (k + 1) a0) := by
 intro a0 k
 have ih0 := ucs_Fits.mono_l k
 unfold ucs_Fits.f
 repeat' first
  | (with_reducible exact ih0 _ _)
  | (with_reducible exact LeO.refl _)
  | (with_reducible exact LeO.none _)
  | (with_reducible refine LeO.ite ?_ ?_)
  | (with_reducible refine LeO.bind ?_ (fun _ => ?_))
  | exact ih0 _ _
  | exact LeO.none _
  | refine LeO.ite ?_ ?_
  | refine LeO.bind ?_ (fun _ => ?_)
set_option maxHeartbeats 8000000 in
set_option maxRecDepth 100000 in
theorem ucs_Fits.calls (k : Nat) (a0 : ByteArray) (r : Bool) (w : World) (h : ucs_Fits.f k a0 = some r) :
 Calls Tryz.prog 57 #[.string a0] w fun e w' => e = .returned (.bool r) ∧ Below w.heap.size w w' := by
 have HB := Aside0.mk (Below.refl w.heap.size w)
 have H : (if a0.toList = ([] : List UInt8) then (ucs_Fits.j0 k a0 true) else (if 0 < (a0.size : Int) then (ucs_Fits.j0 k a0 (decide ((bt a0 0) < 192))) else (none))) = some r := h
 clear h
 have HC2 := Aside0.mk H
 clear H
 go_enter Tryz.func57, Tryz.ntmps57
 go_upto_region 1 with (fail)
 go_cut [12] (fun v12 wc => ∃ (kq : Nat) (x12_1 : Bool), v12 = .bool x12_1 ∧ Aside0 (ucs_Fits.j0 kq a0 x12_1 = some r) ∧ Aside0 (kq ≤ k) ∧ Aside0 (Below w.heap.size w wc))
 case first =>
  have H := HC2.out
  clear HC2
  by_cases c3 : a0.toList = ([] : List UInt8)
  · rw [if_pos c3] at H
    have c3b0 : (a0.toList == ([] : List UInt8)) = true := beq_iff_eq.mpr c3
    have c3b1 : (a0.toList != ([] : List UInt8)) = false := bne_eq_false_iff_eq.mpr c3
    clear c3
    (first | rw [c3b0] | (simp only [i64_w, i32_w]; rw [c3b0]) | skip)
    have H' := Aside0.mk H
    clear H
    go_wp2
    go_meet
    case rel => exact ⟨_, (true), (by first | rfl | (simp; done) | (simp [*]; done)), H', ⟨by first | omega | exact Nat.le_refl _⟩, ⟨by repeat (first | (with_reducible first | exact HB.out | apply below_alloc | apply pw_below_drewN | apply below_drew1) | exact HB.out)⟩⟩
  · rw [if_neg c3] at H
    have c3b0 : (a0.toList == ([] : List UInt8)) = false := beq_eq_false_iff_ne.mpr c3
    have c3b1 : (a0.toList != ([] : List UInt8)) = true := bne_iff_ne.mpr c3
    (first | rw [c3b0] | (simp only [i64_w, i32_w]; rw [c3b0]) | skip)
    by_cases c4 : 0 < (a0.size : Int)
    · rw [if_pos c4] at H
      have c4b0 : decide (0 < (a0.size : Int)) = true := decide_eq_true c4
      have c4b1 : decide (0 < a0.size) = true := decide_eq_true (by omega)
      clear c4
      have H' := Aside0.mk H
      clear H
      have p5 : 0 ≤ (0 : Int) := (by omega)
      have q5 : 0 < a0.size := (by have : (0 : Int) < (a0.size : Int) := of_decide_eq_true (by first | (with_reducible assumption) | assumption); omega)
      have hx5 : ∀ h : 0 < a0.size, ((a0[0]'h).toNat : Int) = bt a0 0 := bt_at a0 0
      clear p5
      have qi5 : (0 < (a0.size : Int)) = True := eq_true (of_decide_eq_true (by first | (with_reducible assumption) | assumption))
      replace q5 := eq_true q5
      go_wp2
      go_meet
      case rel => exact ⟨_, (decide ((bt a0 0) < 192)), (by first | rfl | (simp; done) | (simp [*]; done)), H', ⟨by first | omega | exact Nat.le_refl _⟩, ⟨by repeat (first | (with_reducible first | exact HB.out | apply below_alloc | apply pw_below_drewN | apply below_drew1) | exact HB.out)⟩⟩
    · rw [if_neg c4] at H
      exact absurd H (by simp)
 case rest =>
  clear HC2
  try clear p2
  try clear c3
  try clear c3b0
  try clear c3b1
  try clear c4
  try clear c4b0
  try clear c4b1
  try clear c5
  try clear p5
  try clear q5
  try clear hx5
  try clear qi5
  try clear p5
  try clear q5
  obtain ⟨kq, x12_1, rfl, HA, HJ1, HB⟩ := hcut
  cases kq with
  | zero => exact absurd HA.out (by simp [ucs_Fits.j0])
  | succ kj1 =>
   have H := HA.out
   clear HA
   simp only [ucs_Fits.j0] at H
   by_cases c6 : x12_1 = true
   · subst c6
     have H1 : (some false) = some r := by rw [if_pos rfl] at H; exact H
     clear H
     have H := H1
     clear H1
     obtain rfl := Option.some.inj H
     go_wp2
     go_ret
     exact ⟨by first | rfl | (simp [errW_none, errW_some] <;> rfl) | (simp [*, errW_none, errW_some] <;> rfl), by repeat (first | (with_reducible first | exact HB.out | apply below_alloc | apply pw_below_drewN | apply below_drew1) | exact HB.out)⟩
   · replace c6 := Bool.eq_false_iff.mpr c6
     subst c6
     have H1 : ((ucs_ends.f a0).bind fun bt375 => (if bt375.2.2 = true then ((ucs_meets.f bt375.1 bt375.2.1).bind fun t378 => (some t378)) else (some false))) = some r := by rw [if_neg (show ¬ (false = true) by decide)] at H; exact H
     clear H
     have H := H1
     clear H1
     replace H := Option.bind_eq_some_iff.mp H
     obtain ⟨⟨t375, t376, t377⟩, A70, H⟩ := H
     replace H : (if t377 = true then ((ucs_meets.f t375 t376).bind fun t378 => (some t378)) else (some false)) = some r := H
     have A7 := Aside0.mk A70
     clear A70
     by_cases c8 : t377 = true
     · subst c8
       have H1 : ((ucs_meets.f t375 t376).bind fun t378 => (some t378)) = some r := by rw [if_pos rfl] at H; exact H
       clear H
       have H := H1
       clear H1
       replace H := Option.bind_eq_some_iff.mp H
       obtain ⟨t378, A90, H⟩ := H
       replace H : (some t378) = some r := H
       have A9 := Aside0.mk A90
       clear A90
       obtain rfl := Option.some.inj H
       go_wp2_with (first | ((with_reducible refine gate_callee (f := 80) rfl ?_); refine goesL_ (some 15) rfl rfl Tryz.func80 (by kernel_rfl) rfl #[.string a0] rfl (by (try simp only [List.map_toArray, List.map_cons, List.map_nil]); first | done | rfl | (simp only [List.length_drop, List.length_take]; rfl)) ?_; (with_reducible refine (ucs_ends.calls a0 t375 t376 true _ A7.out).mono ?_); rintro e w10 ⟨rfl, hb⟩; refine ⟨_, rfl, ?_⟩; have n0_ := Aside0.mk (below_step (by repeat (first | (with_reducible first | exact HB.out | apply below_alloc | apply pw_below_drewN | apply below_drew1) | exact HB.out)) hb); clear HB; have HB := n0_; clear n0_; (try clear hb); (try clear hb2); (try clear hk); (try clear hi)) | (go_at_call 81; (with_reducible refine (ucs_meets.calls t375 t376 t378 _ A9.out).mono ?_); rintro e w11 ⟨rfl, hb⟩; have n0_ := Aside0.mk (below_step (by repeat (first | (with_reducible first | exact HB.out | apply below_alloc | apply pw_below_drewN | apply below_drew1) | exact HB.out)) hb); clear HB; have HB := n0_; clear n0_; (try clear hb); (try clear hb2); (try clear hk); (try clear hi)))
       go_ret
       exact ⟨by first | rfl | (simp [errW_none, errW_some] <;> rfl) | (simp [*, errW_none, errW_some] <;> rfl), by repeat (first | (with_reducible first | exact HB.out | apply below_alloc | apply pw_below_drewN | apply below_drew1) | exact HB.out)⟩
     · replace c8 := Bool.eq_false_iff.mpr c8
       subst c8
       have H1 : (some false) = some r := by rw [if_neg (show ¬ (false = true) by decide)] at H; exact H
       clear H
       have H := H1
       clear H1
       obtain rfl := Option.some.inj H
       go_wp2_with (first | ((with_reducible refine gate_callee (f := 80) rfl ?_); refine goesL_ (some 15) rfl rfl Tryz.func80 (by kernel_rfl) rfl #[.string a0] rfl (by (try simp only [List.map_toArray, List.map_cons, List.map_nil]); first | done | rfl | (simp only [List.length_drop, List.length_take]; rfl)) ?_; (with_reducible refine (ucs_ends.calls a0 t375 t376 false _ A7.out).mono ?_); rintro e w12 ⟨rfl, hb⟩; refine ⟨_, rfl, ?_⟩; have n0_ := Aside0.mk (below_step (by repeat (first | (with_reducible first | exact HB.out | apply below_alloc | apply pw_below_drewN | apply below_drew1) | exact HB.out)) hb); clear HB; have HB := n0_; clear n0_; (try clear hb); (try clear hb2); (try clear hk); (try clear hi)))
       go_ret
       exact ⟨by first | rfl | (simp [errW_none, errW_some] <;> rfl) | (simp [*, errW_none, errW_some] <;> rfl), by repeat (first | (with_reducible first | exact HB.out | apply below_alloc | apply pw_below_drewN | apply below_drew1) | exact HB.out)⟩
def ucs_May.f (a0 : Int) : Option (Bool) := (ucs_meets.f a0 a0).bind fun t341 => (some t341)
set_option maxHeartbeats 8000000 in
set_option maxRecDepth 100000 in
theorem ucs_May.calls (a0 : Int) (r : Bool) (w : World) (h : ucs_May.f a0 = some r) :
 Calls Tryz.prog 93 #[.int .i64 a0] w fun e w' => e = .returned (.bool r) ∧ Below w.heap.size w w' := by
 have HB := Aside0.mk (Below.refl w.heap.size w)
 have H : ((ucs_meets.f a0 a0).bind fun t341 => (some t341)) = some r := h
 clear h
 replace H := Option.bind_eq_some_iff.mp H
 obtain ⟨t341, A20, H⟩ := H
 replace H : (some t341) = some r := H
 have A2 := Aside0.mk A20
 clear A20
 obtain rfl := Option.some.inj H
 go_enter Tryz.func93, Tryz.ntmps93
 go_wp2_with (first | ((with_reducible refine gate_callee (f := 81) rfl ?_); refine goesL_ (some 5) rfl rfl Tryz.func81 (by kernel_rfl) rfl #[.int .i64 a0, .int .i64 a0] rfl (by (try simp only [List.map_toArray, List.map_cons, List.map_nil]); first | done | rfl | (simp only [List.length_drop, List.length_take]; rfl)) ?_; (with_reducible refine (ucs_meets.calls a0 a0 t341 _ A2.out).mono ?_); rintro e w3 ⟨rfl, hb⟩; refine ⟨_, rfl, ?_⟩; have n0_ := Aside0.mk (below_step (by repeat (first | (with_reducible first | exact HB.out | apply below_alloc | apply pw_below_drewN | apply below_drew1) | exact HB.out)) hb); clear HB; have HB := n0_; clear n0_; (try clear hb); (try clear hb2); (try clear hk); (try clear hi)))
 go_ret
 exact ⟨by first | rfl | (simp [errW_none, errW_some] <;> rfl) | (simp [*, errW_none, errW_some] <;> rfl), by repeat (first | (with_reducible first | exact HB.out | apply below_alloc | apply pw_below_drewN | apply below_drew1) | exact HB.out)⟩
def ucs_Take.l0 : Nat → ByteArray → List Int → Int → Int → Option (Int × Int)
 | 0, _, _, _, _ => none
 | k + 1, x4, x16, x17, x18 => if x18 < x17 then (if 0 ≤ x18 then (if x18 < (x16.length : Int) then ((ucs_May.f (rd x16 x18)).bind fun t348 => (if t348 = true then (some (rd x16 x18, (x4.size : Int))) else (ucs_Take.l0 k x4 x16 x17 (wrap64 (x18 + 1))))) else (none)) else (none)) else (some (0, 0))
def ucs_Take.f (k : Nat) (a0 : ByteArray) : Option (Int × Int) := (utf_Prefix.f a0 1).bind fun t342 => ((utf_Chars.f t342).bind fun bt343 => (ucs_Take.l0 k t342 bt343.1 (bt343.1.length : Int) 0))
theorem ucs_Take.mono_l : ∀ k, (∀ y0 y1 y2 y3, LeO (ucs_Take.l0 k y0 y1 y2 y3) (ucs_Take.l0 (k + 1) y0 y1 y2 y3))
 | 0 => fun _ _ _ _ r h => by simp [ucs_Take.l0] at h
 | k + 1 => by
  have ih0 := ucs_Take.mono_l k
  · intro y0 y1 y2 y3
    unfold ucs_Take.l0
    repeat' first
    | (with_reducible exact ih0 _ _ _ _)
    | (with_reducible exact LeO.refl _)
    | (with_reducible exact LeO.none _)
    | (with_reducible refine LeO.ite ?_ ?_)
    | (with_reducible refine LeO.bind ?_ (fun _ => ?_))
    | exact ih0 _ _ _ _
    | exact LeO.none _
    | refine LeO.ite ?_ ?_
    | refine LeO.bind ?_ (fun _ => ?_)
theorem ucs_Take.mono : ∀ a0 k, LeO (ucs_Take.f k a0) (ucs_Take.f (k + 1) a0) := by
 intro a0 k
 have ih0 := ucs_Take.mono_l k
 unfold ucs_Take.f
 repeat' first
  | (with_reducible exact ih0 _ _ _ _)
  | (with_reducible exact LeO.refl _)
  | (with_reducible exact LeO.none _)
  | (with_reducible refine LeO.ite ?_ ?_)
  | (with_reducible refine LeO.bind ?_ (fun _ => ?_))
  | exact ih0 _ _ _ _
  | exact LeO.none _
  | refine LeO.ite ?_ ?_
  | refine LeO.bind ?_ (fun _ => ?_)
set_option maxHeartbeats 8000000 in
set_option maxRecDepth 100000 in
theorem ucs_Take.calls (k : Nat) (a0 : ByteArray) (r1 : Int) (r2 : Int) (w : World) (h : ucs_Take.f k a0 = some (r1, r2)) :
 Calls Tryz.prog 73 #[.string a0] w fun e w' => e = .returned (.tuple #[.int .i64 r1, .int .i64 r2]) ∧ Below w.heap.size w w' := by
 have HB := Aside0.mk (Below.refl w.heap.size w)
 have H : ((utf_Prefix.f a0 1).bind fun t342 => ((utf_Chars.f t342).bind fun bt343 => (ucs_Take.l0 k t342 bt343.1 (bt343.1.length : Int) 0))) = some (r1, r2) := h
 clear h
 replace H := Option.bind_eq_some_iff.mp H
 obtain ⟨t342, A20, H⟩ := H
 replace H : ((utf_Chars.f t342).bind fun bt343 => (ucs_Take.l0 k t342 bt343.1 (bt343.1.length : Int) 0)) = some (r1, r2) := H
 have A2 := Aside0.mk A20
 clear A20
 replace H := Option.bind_eq_some_iff.mp H
 obtain ⟨⟨t343, t344⟩, A30, H⟩ := H
 replace H : (ucs_Take.l0 k t342 t343 (t343.length : Int) 0) = some (r1, r2) := H
 have A3 := Aside0.mk A30
 clear A30
 have H' := Aside0.mk H
 clear H
 go_enter Tryz.func73, Tryz.ntmps73
 go_wp2_with (first | ((with_reducible refine gate_callee (f := 91) rfl ?_); refine goesL_ (some 10) rfl rfl Tryz.func91 (by kernel_rfl) rfl #[.string a0, .int .i64 1] rfl (by (try simp only [List.map_toArray, List.map_cons, List.map_nil]); first | done | rfl | (simp only [List.length_drop, List.length_take]; rfl)) ?_; (with_reducible refine (utf_Prefix.calls a0 1 t342 _ A2.out).mono ?_); rintro e w4 ⟨rfl, hb⟩; refine ⟨_, rfl, ?_⟩; have n0_ := Aside0.mk (below_step (by repeat (first | (with_reducible first | exact HB.out | apply below_alloc | apply pw_below_drewN | apply below_drew1) | exact HB.out)) hb); clear HB; have HB := n0_; clear n0_; (try clear hb); (try clear hb2); (try clear hk); (try clear hi)) | ((with_reducible refine gate_callee (f := 92) rfl ?_); refine goesL_ (some 13) rfl rfl Tryz.func92 (by kernel_rfl) rfl #[.string t342] rfl (by (try simp only [List.map_toArray, List.map_cons, List.map_nil]); first | done | rfl | (simp only [List.length_drop, List.length_take]; rfl)) ?_; (with_reducible refine (utf_Chars.calls t342 t343 t344 _ A3.out).mono ?_); rintro e w5 ⟨v345, rfl, ho0, hb⟩; refine ⟨_, rfl, ?_⟩; have n0_ := Aside0.mk (Kd.R_lower ho0 (below_size (by repeat (first | (with_reducible first | exact HB.out | apply below_alloc | apply pw_below_drewN | apply below_drew1) | exact HB.out)))); have n1_ := Aside0.mk (below_step (by repeat (first | (with_reducible first | exact HB.out | apply below_alloc | apply pw_below_drewN | apply below_drew1) | exact HB.out)) hb); clear HB; have HO346 := n0_; have HB := n1_; clear n0_ n1_; (try clear hb); (try clear hb2); (try clear hk); (try clear hi); (try clear ho0); obtain ⟨Ao6, co6, eo6⟩ := Kd.R_slice HO346.out; subst eo6))
 go_loopg [18] k (fun kq v18 w' => ∃ (x18_1 : Int), v18 = .int .i64 x18_1 ∧ Aside0 (ucs_Take.l0 kq t342 t343 (t343.length : Int) x18_1 = some (r1, r2)) ∧ Aside0 (kq ≤ k) ∧ Aside0 (Kd.R (Kd.int .i64) 3 w' w.heap.size (fun _ => True) (.slice Ao6 t343.length co6) t343) ∧ Aside0 (Below w.heap.size w w'))
 case atStart => exact ⟨(0), (by first | rfl | (simp; done) | (simp [*]; done)), H', ⟨Nat.le_refl _⟩, ⟨by (with_reducible repeat (first | apply Kd.R_alloc | apply Kd.R_drewN | apply Kd.R_drew)); exact HO346.out⟩, ⟨by repeat (first | (with_reducible first | exact HB.out | apply below_alloc | apply pw_below_drewN | apply below_drew1) | exact HB.out)⟩⟩
 case round =>
  clear H'
  try clear p2
  obtain ⟨x18_1, rfl, HA, HK1, HO_16, HB⟩ := hrel
  cases gk with
  | zero => exact absurd HA.out (by simp [ucs_Take.l0])
  | succ k1 =>
   have H := HA.out
   clear HA
   simp only [ucs_Take.l0] at H
   by_cases c7 : x18_1 < (t343.length : Int)
   · rw [if_pos c7] at H
     have c7b0 : decide (x18_1 < (t343.length : Int)) = true := decide_eq_true c7
     clear c7
     by_cases c8 : 0 ≤ x18_1
     · rw [if_pos c8] at H
       have c8b0 : decide (0 ≤ x18_1) = true := decide_eq_true c8
       clear c8
       by_cases c9 : x18_1 < (t343.length : Int)
       · rw [if_pos c9] at H
         have c9b0 : decide (x18_1 < (t343.length : Int)) = true := decide_eq_true c9
         clear c9
         replace H := Option.bind_eq_some_iff.mp H
         obtain ⟨t348, A100, H⟩ := H
         replace H : (if t348 = true then (some (rd t343 x18_1, (t342.size : Int))) else (ucs_Take.l0 k1 t342 t343 (t343.length : Int) (wrap64 (x18_1 + 1)))) = some (r1, r2) := H
         have A10 := Aside0.mk A100
         clear A100
         by_cases c11 : t348 = true
         · subst c11
           have H1 : (some (rd t343 x18_1, (t342.size : Int))) = some (r1, r2) := by rw [if_pos rfl] at H; exact H
           clear H
           have H := H1
           clear H1
           simp only [Option.some.injEq, Prod.mk.injEq] at H
           obtain ⟨rfl, rfl⟩ := H
           have p347 : 0 ≤ (x18_1 : Int) := of_decide_eq_true (by first | (with_reducible assumption) | assumption)
           have q347 : x18_1 < (t343.length : Int) := of_decide_eq_true (by first | (with_reducible assumption) | assumption)
           obtain ⟨ad347, e347, hx347_0⟩ := Kd.at_int (Kd.R_reads' HO_16.out).2.2 x18_1 p347 q347
           cases e347
           replace p347 := eq_true p347
           replace q347 := eq_true q347
           go_wp2_with (first | ((with_reducible refine gate_callee (f := 93) rfl ?_); refine goesL_ (some 23) rfl rfl Tryz.func93 (by kernel_rfl) rfl #[.int .i64 (rd t343 x18_1)] rfl (by (try simp only [List.map_toArray, List.map_cons, List.map_nil]); first | done | rfl | (simp only [List.length_drop, List.length_take]; rfl)) ?_; (with_reducible refine (ucs_May.calls (rd t343 x18_1) true _ A10.out).mono ?_); rintro e w12 ⟨rfl, hb⟩; refine ⟨_, rfl, ?_⟩; have n0_ := Aside0.mk (Kd.R_below (by (with_reducible repeat (first | apply Kd.R_alloc | apply Kd.R_drewN | apply Kd.R_drew)); exact HO_16.out) hb); have n1_ := Aside0.mk (below_step (by repeat (first | (with_reducible first | exact HB.out | apply below_alloc | apply pw_below_drewN | apply below_drew1) | exact HB.out)) hb); clear HO_16; clear HB; have HO_16 := n0_; have HB := n1_; clear n0_ n1_; (try clear hb); (try clear hb2); (try clear hk); (try clear hi)))
           go_ret2
           exact ⟨by first | rfl | (simp [errW_none, errW_some] <;> rfl) | (simp [*, errW_none, errW_some] <;> rfl), by repeat (first | (with_reducible first | exact HB.out | apply below_alloc | apply pw_below_drewN | apply below_drew1) | exact HB.out)⟩
         · replace c11 := Bool.eq_false_iff.mpr c11
           subst c11
           have H1 : (ucs_Take.l0 k1 t342 t343 (t343.length : Int) (wrap64 (x18_1 + 1))) = some (r1, r2) := by rw [if_neg (show ¬ (false = true) by decide)] at H; exact H
           clear H
           have H := H1
           clear H1
           have H' := Aside0.mk H
           clear H
           have p347 : 0 ≤ (x18_1 : Int) := of_decide_eq_true (by first | (with_reducible assumption) | assumption)
           have q347 : x18_1 < (t343.length : Int) := of_decide_eq_true (by first | (with_reducible assumption) | assumption)
           obtain ⟨ad347, e347, hx347_0⟩ := Kd.at_int (Kd.R_reads' HO_16.out).2.2 x18_1 p347 q347
           cases e347
           replace p347 := eq_true p347
           replace q347 := eq_true q347
           go_wp2_with (first | ((with_reducible refine gate_callee (f := 93) rfl ?_); refine goesL_ (some 23) rfl rfl Tryz.func93 (by kernel_rfl) rfl #[.int .i64 (rd t343 x18_1)] rfl (by (try simp only [List.map_toArray, List.map_cons, List.map_nil]); first | done | rfl | (simp only [List.length_drop, List.length_take]; rfl)) ?_; (with_reducible refine (ucs_May.calls (rd t343 x18_1) false _ A10.out).mono ?_); rintro e w13 ⟨rfl, hb⟩; refine ⟨_, rfl, ?_⟩; have n0_ := Aside0.mk (Kd.R_below (by (with_reducible repeat (first | apply Kd.R_alloc | apply Kd.R_drewN | apply Kd.R_drew)); exact HO_16.out) hb); have n1_ := Aside0.mk (below_step (by repeat (first | (with_reducible first | exact HB.out | apply below_alloc | apply pw_below_drewN | apply below_drew1) | exact HB.out)) hb); clear HO_16; clear HB; have HO_16 := n0_; have HB := n1_; clear n0_ n1_; (try clear hb); (try clear hb2); (try clear hk); (try clear hi)))
           go_roundg k1
           case measure => have := HK1.out; omega
           case rel => exact ⟨(wrap64 (x18_1 + 1)), (by first | rfl | (simp; done) | (simp [*]; done)), H', ⟨by have := HK1.out; omega⟩, ⟨by (with_reducible repeat (first | apply Kd.R_alloc | apply Kd.R_drewN | apply Kd.R_drew)); exact HO_16.out⟩, ⟨by repeat (first | (with_reducible first | exact HB.out | apply below_alloc | apply pw_below_drewN | apply below_drew1) | exact HB.out)⟩⟩
       · rw [if_neg c9] at H
         exact absurd H (by simp)
     · rw [if_neg c8] at H
       exact absurd H (by simp)
   · rw [if_neg c7] at H
     have c7b0 : decide (x18_1 < (t343.length : Int)) = false := decide_eq_false c7
     clear c7
     simp only [Option.some.injEq, Prod.mk.injEq] at H
     obtain ⟨rfl, rfl⟩ := H
     go_wp2
     go_ret2
     exact ⟨by first | rfl | (simp [errW_none, errW_some] <;> rfl) | (simp [*, errW_none, errW_some] <;> rfl), by repeat (first | (with_reducible first | exact HB.out | apply below_alloc | apply pw_below_drewN | apply below_drew1) | exact HB.out)⟩
end Go.Proofs.YtkipkbggnfllkaaGreatDoor.P
end
section
namespace Go.Proofs.YtkipkbggnfllkaaGreatDoor.P
open Go.RowKit Go.Proofs.YtkipkbggnfllkaaGreatDoorW.PrintWords Go.Proofs.YtkipkbggnfllkaaGreatDoorW.PrintLast Go.Proofs.YtkipkbggnfllkaaGreatDoorW.PrintMore
def figure (n : Int) : Int := bt ⟨#[48, 49, 50, 51, 52, 53, 54, 55, 56, 57, 65, 66, 67, 68, 69, 70]⟩ n
def pct_One.f (c : Int) : Option ByteArray := if 0 ≤ c ∧ c ≤ 255 then some (strOfNums [37, figure (c / 16), figure (c % 16)]) else none
theorem reads_three (w : World) (a b : Int) : ReadsInt (w.alloc (.cells #[.int .u8 37, .int .u8 a, .int .u8 b] 5)).drew .u8 (some ⟨w.heap.size, 0, none⟩) 3 [37, a, b] := by
 refine ⟨rfl, by omega, fun _ => ⟨_, rfl, fun j hj => ?_⟩⟩
 have hadd : (⟨w.heap.size, 0, none⟩ : Addr).add j = ⟨w.heap.size, j, none⟩ := by unfold Addr.add; split <;> simp_all
 rw [hadd]
 show (w.alloc _).cell? _ = _
 have : j = 0 ∨ j = 1 ∨ j = 2 := by omega
 rcases this with rfl | rfl | rfl <;> simp
set_option maxHeartbeats 800000 in
theorem pct_One.calls (c : Int) (r : ByteArray) (w : World) (h : pct_One.f c = some r) :
 Calls Tryz.prog 76 #[.int .u8 c] w fun e w' => e = .returned (.string r) ∧ Below w.heap.size w w' := by
 unfold pct_One.f at h
 split at h
 · rename_i hc
   obtain ⟨h0, h1⟩ := hc
   injection h with h
   have i1 := bt_at ⟨#[48, 49, 50, 51, 52, 53, 54, 55, 56, 57, 65, 66, 67, 68, 69, 70]⟩ (c / 16)
   have i2 := bt_at ⟨#[48, 49, 50, 51, 52, 53, 54, 55, 56, 57, 65, 66, 67, 68, 69, 70]⟩ (c % 16)
   obtain ⟨a, ha⟩ : ∃ a, a = figure (c / 16) := ⟨_, rfl⟩
   obtain ⟨b, hb⟩ : ∃ b, b = figure (c % 16) := ⟨_, rfl⟩
   rw [← ha, ← hb] at h
   rw [show bt _ _ = a from ha.symm] at i1
   rw [show bt _ _ = b from hb.symm] at i2
   have HR := Lib.hid h
   clear h ha hb
   have h2 : 0 ≤ c / 16 := by omega
   have h3 : c / 16 < 16 := by omega
   have h4 : 0 ≤ c % 16 := by omega
   have h5 : c % 16 < 16 := by omega
   go_enter Tryz.func76, Tryz.ntmps76
   go_wp2_with fail
   have hcv := string_of_reads (P := Tryz.prog) (src := 58) (dst := 9) (c := 3) Tryz.underlying58 Tryz.underlying5 Tryz.underlying9 (reads_three w a b)
   go_region
   go_wp2
   go_ret
   exact ⟨by show Ending.returned (.string (strOfNums [37, a, b])) = _; rw [HR.out], ((Below.refl _ _).alloc (Nat.le_refl _) _).drew⟩
 · cases h
end Go.Proofs.YtkipkbggnfllkaaGreatDoor.P
end
section
namespace Go.Proofs.YtkipkbggnfllkaaGreatDoor.P
open Go.RowKit Go.Proofs.YtkipkbggnfllkaaGreatDoorW.PrintWords Go.Proofs.YtkipkbggnfllkaaGreatDoorW.PrintLast Go.Proofs.YtkipkbggnfllkaaGreatDoorW.PrintMore
attribute [local go_sem] max2_int min2_int max_two min_two max_three min_three max_four min_four
set_option linter.unusedVariables false
set_option linter.unusedSimpArgs false
def tmpl_piece.f (k : Nat) (a0 : ByteArray) : Option (Int) := (ucs_Take.f k a0).bind fun bt355 => (if a0.toList = ([] : List UInt8) then (some 0) else ((chars_Literal.f).bind fun t357 => (if 0 < (a0.size : Int) then ((chars_Set_Has.f t357 (bt a0 0)).bind fun t358 => (if t358 = true then (some 1) else ((pct_Triplet.f k a0).bind fun t359 => (if t359 = true then ((pct_One.f 0).bind fun t360 => (some (t360.size : Int))) else (some bt355.2))))) else (none))))
theorem tmpl_piece.mono : ∀ a0 k, LeO (tmpl_piece.f k a0) (tmpl_piece.f (k + 1) a0) := by
 intro a0 k
 unfold tmpl_piece.f
 repeat' first
  | (with_reducible exact pct_Triplet.mono _ _)
  | (with_reducible exact ucs_Take.mono _ _)
  | (with_reducible exact LeO.refl _)
  | (with_reducible exact LeO.none _)
  | (with_reducible refine LeO.ite ?_ ?_)
  | (with_reducible refine LeO.bind ?_ (fun _ => ?_))
  | exact pct_Triplet.mono _ _
  | exact ucs_Take.mono _ _
  | exact LeO.none _
  | refine LeO.ite ?_ ?_
  | refine LeO.bind ?_ (fun _ => ?_)
set_option maxHeartbeats 8000000 in
set_option maxRecDepth 100000 in
theorem tmpl_piece.calls (k : Nat) (a0 : ByteArray) (r : Int) (w : World) (h : tmpl_piece.f k a0 = some r) :
 Calls Tryz.prog 54 #[.string a0] w fun e w' => e = .returned (.int .i64 r) ∧ Below w.heap.size w w' := by
 have HB := Aside0.mk (Below.refl w.heap.size w)
 have H : ((ucs_Take.f k a0).bind fun bt355 => (if a0.toList = ([] : List UInt8) then (some 0) else ((chars_Literal.f).bind fun t357 => (if 0 < (a0.size : Int) then ((chars_Set_Has.f t357 (bt a0 0)).bind fun t358 => (if t358 = true then (some 1) else ((pct_Triplet.f k a0).bind fun t359 => (if t359 = true then ((pct_One.f 0).bind fun t360 => (some (t360.size : Int))) else (some bt355.2))))) else (none))))) = some r := h
 clear h
 replace H := Option.bind_eq_some_iff.mp H
 obtain ⟨⟨t355, t356⟩, A20, H⟩ := H
 replace H : (if a0.toList = ([] : List UInt8) then (some 0) else ((chars_Literal.f).bind fun t357 => (if 0 < (a0.size : Int) then ((chars_Set_Has.f t357 (bt a0 0)).bind fun t358 => (if t358 = true then (some 1) else ((pct_Triplet.f k a0).bind fun t359 => (if t359 = true then ((pct_One.f 0).bind fun t360 => (some (t360.size : Int))) else (some t356))))) else (none)))) = some r := H
 have A2 := Aside0.mk A20
 clear A20
 by_cases c3 : a0.toList = ([] : List UInt8)
 · rw [if_pos c3] at H
   have c3b0 : (a0.toList == ([] : List UInt8)) = true := beq_iff_eq.mpr c3
   have c3b1 : (a0.toList != ([] : List UInt8)) = false := bne_eq_false_iff_eq.mpr c3
   clear c3
   obtain rfl := Option.some.inj H
   go_enter Tryz.func54, Tryz.ntmps54
   go_wp2_with (first | ((with_reducible refine gate_callee (f := 73) rfl ?_); refine goesL_ (some 7) rfl rfl Tryz.func73 (by kernel_rfl) rfl #[.string a0] rfl (by (try simp only [List.map_toArray, List.map_cons, List.map_nil]); first | done | rfl | (simp only [List.length_drop, List.length_take]; rfl)) ?_; (with_reducible refine (ucs_Take.calls k a0 t355 t356 _ A2.out).mono ?_); rintro e w4 ⟨rfl, hb⟩; refine ⟨_, rfl, ?_⟩; have n0_ := Aside0.mk (below_step (by repeat (first | (with_reducible first | exact HB.out | apply below_alloc | apply pw_below_drewN | apply below_drew1) | exact HB.out)) hb); clear HB; have HB := n0_; clear n0_; (try clear hb); (try clear hb2); (try clear hk); (try clear hi)))
   go_ret
   exact ⟨by first | rfl | (simp [errW_none, errW_some] <;> rfl) | (simp [*, errW_none, errW_some] <;> rfl), by repeat (first | (with_reducible first | exact HB.out | apply below_alloc | apply pw_below_drewN | apply below_drew1) | exact HB.out)⟩
 · rw [if_neg c3] at H
   have c3b0 : (a0.toList == ([] : List UInt8)) = false := beq_eq_false_iff_ne.mpr c3
   have c3b1 : (a0.toList != ([] : List UInt8)) = true := bne_iff_ne.mpr c3
   replace H := Option.bind_eq_some_iff.mp H
   obtain ⟨t357, A50, H⟩ := H
   replace H : (if 0 < (a0.size : Int) then ((chars_Set_Has.f t357 (bt a0 0)).bind fun t358 => (if t358 = true then (some 1) else ((pct_Triplet.f k a0).bind fun t359 => (if t359 = true then ((pct_One.f 0).bind fun t360 => (some (t360.size : Int))) else (some t356))))) else (none)) = some r := H
   have A5 := Aside0.mk A50
   clear A50
   by_cases c6 : 0 < (a0.size : Int)
   · rw [if_pos c6] at H
     have c6b0 : decide (0 < (a0.size : Int)) = true := decide_eq_true c6
     have c6b1 : decide (0 < a0.size) = true := decide_eq_true (by omega)
     clear c6
     replace H := Option.bind_eq_some_iff.mp H
     obtain ⟨t358, A80, H⟩ := H
     replace H : (if t358 = true then (some 1) else ((pct_Triplet.f k a0).bind fun t359 => (if t359 = true then ((pct_One.f 0).bind fun t360 => (some (t360.size : Int))) else (some t356)))) = some r := H
     have A8 := Aside0.mk A80
     clear A80
     by_cases c9 : t358 = true
     · subst c9
       have H1 : (some 1) = some r := by rw [if_pos rfl] at H; exact H
       clear H
       have H := H1
       clear H1
       obtain rfl := Option.some.inj H
       go_enter Tryz.func54, Tryz.ntmps54
       try go_wp2_with (first | ((with_reducible refine gate_callee (f := 73) rfl ?_); refine goesL_ (some 7) rfl rfl Tryz.func73 (by kernel_rfl) rfl #[.string a0] rfl (by (try simp only [List.map_toArray, List.map_cons, List.map_nil]); first | done | rfl | (simp only [List.length_drop, List.length_take]; rfl)) ?_; (with_reducible refine (ucs_Take.calls k a0 t355 t356 _ A2.out).mono ?_); rintro e w10 ⟨rfl, hb⟩; refine ⟨_, rfl, ?_⟩; have n0_ := Aside0.mk (below_step (by repeat (first | (with_reducible first | exact HB.out | apply below_alloc | apply pw_below_drewN | apply below_drew1) | exact HB.out)) hb); clear HB; have HB := n0_; clear n0_; (try clear hb); (try clear hb2); (try clear hk); (try clear hi)))
       have n0_ := Aside0.mk (below_drew1 HB.out)
       clear HB
       have HB := n0_
       clear n0_
       have p7 : 0 ≤ (0 : Int) := (by omega)
       have q7 : 0 < a0.size := (by have : (0 : Int) < (a0.size : Int) := of_decide_eq_true (by first | (with_reducible assumption) | assumption); omega)
       have hx7 : ∀ h : 0 < a0.size, ((a0[0]'h).toNat : Int) = bt a0 0 := bt_at a0 0
       clear p7
       have qi7 : (0 < (a0.size : Int)) = True := eq_true (of_decide_eq_true (by first | (with_reducible assumption) | assumption))
       replace q7 := eq_true q7
       refine start_ (n := 5) (S := fun w' => True) (ds := []) #[false, false, false, false, false] (by kernel_rfl) rfl rfl trivial (fun hHeld => ?_)
       generalize w10.drew = w11 at HB hHeld ⊢
       refine pure_ (i := 1) (N := some 15) (v := ?_) (a' := ?_) #[false, true, false, false, false] rfl rfl (by kernel_rfl) (fun _ _ _ h => h) (Or.inl ⟨by rfl, ?_⟩) ?_ ?_
       rotate_left
       · intro w'
         go_simp
         with_reducible rfl
       rotate_left
       · simp only [Act.put, List.setIfInBounds_toArray, List.set_cons_zero, List.set_cons_succ, i64_w, i32_w]
         rfl
       refine take_ (i := 2) (N := some 16) (v := ?_) (a' := ?_) #[false, true, true, false, false] rfl rfl (by kernel_rfl) (fun _ _ _ h => h) (Or.inl ⟨by rfl, ?_⟩) hHeld ?_ ?_
       rotate_left
       · intro w' _
         go_simp
         with_reducible rfl
       rotate_left
       · simp only [Act.put, List.setIfInBounds_toArray, List.set_cons_zero, List.set_cons_succ, i64_w, i32_w]
         rfl
       refine one_ (i := 0) (N := some 14) #[true, true, true, false, false] rfl rfl (by kernel_rfl) (by decide) (fun K hK => ?_)
       refine goes_ Tryz.func74 (by kernel_rfl) rfl #[] (by rfl) rfl rfl (by (try simp only [List.map_toArray, List.map_cons, List.map_nil]); first | done | rfl | (simp only [List.length_drop, List.length_take]; rfl)) ?_
       with_reducible refine (chars_Literal.calls  t357 _ A5.out).mono ?_
       rintro e w12 ⟨rfl, hb⟩
       refine ⟨_, rfl, ?_⟩
       have n0_ := Aside0.mk (below_step (by repeat (first | (with_reducible first | exact HB.out | apply below_alloc | apply pw_below_drewN | apply below_drew1) | exact HB.out)) hb)
       clear HB
       have HB := n0_
       clear n0_
       (try clear hb)
       (try clear hb2)
       (try clear hk)
       (try clear hi)
       refine hK.out _ _ trivial (fun hHeld => ?_)
       clear hK K
       refine norm_ (a' := ?_) ?_ ?_
       rotate_left
       · show Act.put _ (some 14) _ = _
         simp only [Act.put, List.setIfInBounds_toArray, List.set_cons_zero, List.set_cons_succ, i64_w, i32_w]
         rfl
       refine one_ (i := 3) (N := some 17) #[true, true, true, true, false] rfl rfl (by kernel_rfl) (by decide) (fun K hK => ?_)
       refine goes_ Tryz.func56 (by kernel_rfl) rfl #[setV t357, .int .u8 (bt a0 0)] (by rfl) rfl rfl (by (try simp only [List.map_toArray, List.map_cons, List.map_nil]); first | done | rfl | (simp only [List.length_drop, List.length_take]; rfl)) ?_
       with_reducible refine (chars_Set_Has.calls t357 (bt a0 0) true _ A8.out).mono ?_
       rintro e w13 ⟨rfl, hb⟩
       refine ⟨_, rfl, ?_⟩
       have n0_ := Aside0.mk (below_step (by repeat (first | (with_reducible first | exact HB.out | apply below_alloc | apply pw_below_drewN | apply below_drew1) | exact HB.out)) hb)
       clear HB
       have HB := n0_
       clear n0_
       (try clear hb)
       (try clear hb2)
       (try clear hk)
       (try clear hi)
       refine hK.out _ _ trivial (fun hHeld => ?_)
       clear hK K
       refine norm_ (a' := ?_) ?_ ?_
       rotate_left
       · show Act.put _ (some 17) _ = _
         simp only [Act.put, List.setIfInBounds_toArray, List.set_cons_zero, List.set_cons_succ, i64_w, i32_w]
         rfl
       refine pure_ (i := 4) (N := some 13) (v := ?_) (a' := ?_) #[true, true, true, true, true] rfl rfl (by kernel_rfl) (fun _ _ _ h => h) (Or.inl ⟨by rfl, ?_⟩) ?_ ?_
       rotate_left
       · intro w'
         go_simp
         with_reducible rfl
       rotate_left
       · simp only [Act.put, List.setIfInBounds_toArray, List.set_cons_zero, List.set_cons_succ, i64_w, i32_w]
         rfl
       refine done_ (by kernel_rfl) ?_
       try go_wp2
       go_ret
       exact ⟨by first | rfl | (simp [errW_none, errW_some] <;> rfl) | (simp [*, errW_none, errW_some] <;> rfl), by repeat (first | (with_reducible first | exact HB.out | apply below_alloc | apply pw_below_drewN | apply below_drew1) | exact HB.out)⟩
     · replace c9 := Bool.eq_false_iff.mpr c9
       subst c9
       have H1 : ((pct_Triplet.f k a0).bind fun t359 => (if t359 = true then ((pct_One.f 0).bind fun t360 => (some (t360.size : Int))) else (some t356))) = some r := by rw [if_neg (show ¬ (false = true) by decide)] at H; exact H
       clear H
       have H := H1
       clear H1
       replace H := Option.bind_eq_some_iff.mp H
       obtain ⟨t359, A140, H⟩ := H
       replace H : (if t359 = true then ((pct_One.f 0).bind fun t360 => (some (t360.size : Int))) else (some t356)) = some r := H
       have A14 := Aside0.mk A140
       clear A140
       by_cases c15 : t359 = true
       · subst c15
         have H1 : ((pct_One.f 0).bind fun t360 => (some (t360.size : Int))) = some r := by rw [if_pos rfl] at H; exact H
         clear H
         have H := H1
         clear H1
         replace H := Option.bind_eq_some_iff.mp H
         obtain ⟨t360, A160, H⟩ := H
         replace H : (some (t360.size : Int)) = some r := H
         have A16 := Aside0.mk A160
         clear A160
         obtain rfl := Option.some.inj H
         go_enter Tryz.func54, Tryz.ntmps54
         try go_wp2_with (first | ((with_reducible refine gate_callee (f := 73) rfl ?_); refine goesL_ (some 7) rfl rfl Tryz.func73 (by kernel_rfl) rfl #[.string a0] rfl (by (try simp only [List.map_toArray, List.map_cons, List.map_nil]); first | done | rfl | (simp only [List.length_drop, List.length_take]; rfl)) ?_; (with_reducible refine (ucs_Take.calls k a0 t355 t356 _ A2.out).mono ?_); rintro e w17 ⟨rfl, hb⟩; refine ⟨_, rfl, ?_⟩; have n0_ := Aside0.mk (below_step (by repeat (first | (with_reducible first | exact HB.out | apply below_alloc | apply pw_below_drewN | apply below_drew1) | exact HB.out)) hb); clear HB; have HB := n0_; clear n0_; (try clear hb); (try clear hb2); (try clear hk); (try clear hi)))
         have n0_ := Aside0.mk (below_drew1 HB.out)
         clear HB
         have HB := n0_
         clear n0_
         have p7 : 0 ≤ (0 : Int) := (by omega)
         have q7 : 0 < a0.size := (by have : (0 : Int) < (a0.size : Int) := of_decide_eq_true (by first | (with_reducible assumption) | assumption); omega)
         have hx7 : ∀ h : 0 < a0.size, ((a0[0]'h).toNat : Int) = bt a0 0 := bt_at a0 0
         clear p7
         have qi7 : (0 < (a0.size : Int)) = True := eq_true (of_decide_eq_true (by first | (with_reducible assumption) | assumption))
         replace q7 := eq_true q7
         refine start_ (n := 5) (S := fun w' => True) (ds := []) #[false, false, false, false, false] (by kernel_rfl) rfl rfl trivial (fun hHeld => ?_)
         generalize w17.drew = w18 at HB hHeld ⊢
         refine pure_ (i := 1) (N := some 15) (v := ?_) (a' := ?_) #[false, true, false, false, false] rfl rfl (by kernel_rfl) (fun _ _ _ h => h) (Or.inl ⟨by rfl, ?_⟩) ?_ ?_
         rotate_left
         · intro w'
           go_simp
           with_reducible rfl
         rotate_left
         · simp only [Act.put, List.setIfInBounds_toArray, List.set_cons_zero, List.set_cons_succ, i64_w, i32_w]
           rfl
         refine take_ (i := 2) (N := some 16) (v := ?_) (a' := ?_) #[false, true, true, false, false] rfl rfl (by kernel_rfl) (fun _ _ _ h => h) (Or.inl ⟨by rfl, ?_⟩) hHeld ?_ ?_
         rotate_left
         · intro w' _
           go_simp
           with_reducible rfl
         rotate_left
         · simp only [Act.put, List.setIfInBounds_toArray, List.set_cons_zero, List.set_cons_succ, i64_w, i32_w]
           rfl
         refine one_ (i := 0) (N := some 14) #[true, true, true, false, false] rfl rfl (by kernel_rfl) (by decide) (fun K hK => ?_)
         refine goes_ Tryz.func74 (by kernel_rfl) rfl #[] (by rfl) rfl rfl (by (try simp only [List.map_toArray, List.map_cons, List.map_nil]); first | done | rfl | (simp only [List.length_drop, List.length_take]; rfl)) ?_
         with_reducible refine (chars_Literal.calls  t357 _ A5.out).mono ?_
         rintro e w19 ⟨rfl, hb⟩
         refine ⟨_, rfl, ?_⟩
         have n0_ := Aside0.mk (below_step (by repeat (first | (with_reducible first | exact HB.out | apply below_alloc | apply pw_below_drewN | apply below_drew1) | exact HB.out)) hb)
         clear HB
         have HB := n0_
         clear n0_
         (try clear hb)
         (try clear hb2)
         (try clear hk)
         (try clear hi)
         refine hK.out _ _ trivial (fun hHeld => ?_)
         clear hK K
         refine norm_ (a' := ?_) ?_ ?_
         rotate_left
         · show Act.put _ (some 14) _ = _
           simp only [Act.put, List.setIfInBounds_toArray, List.set_cons_zero, List.set_cons_succ, i64_w, i32_w]
           rfl
         refine one_ (i := 3) (N := some 17) #[true, true, true, true, false] rfl rfl (by kernel_rfl) (by decide) (fun K hK => ?_)
         refine goes_ Tryz.func56 (by kernel_rfl) rfl #[setV t357, .int .u8 (bt a0 0)] (by rfl) rfl rfl (by (try simp only [List.map_toArray, List.map_cons, List.map_nil]); first | done | rfl | (simp only [List.length_drop, List.length_take]; rfl)) ?_
         with_reducible refine (chars_Set_Has.calls t357 (bt a0 0) false _ A8.out).mono ?_
         rintro e w20 ⟨rfl, hb⟩
         refine ⟨_, rfl, ?_⟩
         have n0_ := Aside0.mk (below_step (by repeat (first | (with_reducible first | exact HB.out | apply below_alloc | apply pw_below_drewN | apply below_drew1) | exact HB.out)) hb)
         clear HB
         have HB := n0_
         clear n0_
         (try clear hb)
         (try clear hb2)
         (try clear hk)
         (try clear hi)
         refine hK.out _ _ trivial (fun hHeld => ?_)
         clear hK K
         refine norm_ (a' := ?_) ?_ ?_
         rotate_left
         · show Act.put _ (some 17) _ = _
           simp only [Act.put, List.setIfInBounds_toArray, List.set_cons_zero, List.set_cons_succ, i64_w, i32_w]
           rfl
         refine pure_ (i := 4) (N := some 13) (v := ?_) (a' := ?_) #[true, true, true, true, true] rfl rfl (by kernel_rfl) (fun _ _ _ h => h) (Or.inl ⟨by rfl, ?_⟩) ?_ ?_
         rotate_left
         · intro w'
           go_simp
           with_reducible rfl
         rotate_left
         · simp only [Act.put, List.setIfInBounds_toArray, List.set_cons_zero, List.set_cons_succ, i64_w, i32_w]
           rfl
         refine done_ (by kernel_rfl) ?_
         try go_wp2_with (first | ((with_reducible refine gate_callee (f := 75) rfl ?_); refine goesL_ (some 20) rfl rfl Tryz.func75 (by kernel_rfl) rfl #[.string a0] rfl (by (try simp only [List.map_toArray, List.map_cons, List.map_nil]); first | done | rfl | (simp only [List.length_drop, List.length_take]; rfl)) ?_; (with_reducible refine (pct_Triplet.calls k a0 true _ A14.out).mono ?_); rintro e w' ⟨rfl, ⟨nd, rfl⟩⟩; refine ⟨_, rfl, ?_⟩) | ((with_reducible refine gate_callee (f := 76) rfl ?_); refine goesL_ (some 21) rfl rfl Tryz.func76 (by kernel_rfl) rfl #[.int .u8 0] rfl (by (try simp only [List.map_toArray, List.map_cons, List.map_nil]); first | done | rfl | (simp only [List.length_drop, List.length_take]; rfl)) ?_; (with_reducible refine (pct_One.calls 0 t360 _ A16.out).mono ?_); rintro e w21 ⟨rfl, hb⟩; refine ⟨_, rfl, ?_⟩; have n0_ := Aside0.mk (below_step (by repeat (first | (with_reducible first | exact HB.out | apply below_alloc | apply pw_below_drewN | apply below_drew1) | exact HB.out)) hb); clear HB; have HB := n0_; clear n0_; (try clear hb); (try clear hb2); (try clear hk); (try clear hi)))
         go_ret
         exact ⟨by first | rfl | (simp [errW_none, errW_some] <;> rfl) | (simp [*, errW_none, errW_some] <;> rfl), by repeat (first | (with_reducible first | exact HB.out | apply below_alloc | apply pw_below_drewN | apply below_drew1) | exact HB.out)⟩
       · replace c15 := Bool.eq_false_iff.mpr c15
         subst c15
         have H1 : (some t356) = some r := by rw [if_neg (show ¬ (false = true) by decide)] at H; exact H
         clear H
         have H := H1
         clear H1
         obtain rfl := Option.some.inj H
         go_enter Tryz.func54, Tryz.ntmps54
         try go_wp2_with (first | ((with_reducible refine gate_callee (f := 73) rfl ?_); refine goesL_ (some 7) rfl rfl Tryz.func73 (by kernel_rfl) rfl #[.string a0] rfl (by (try simp only [List.map_toArray, List.map_cons, List.map_nil]); first | done | rfl | (simp only [List.length_drop, List.length_take]; rfl)) ?_; (with_reducible refine (ucs_Take.calls k a0 t355 t356 _ A2.out).mono ?_); rintro e w22 ⟨rfl, hb⟩; refine ⟨_, rfl, ?_⟩; have n0_ := Aside0.mk (below_step (by repeat (first | (with_reducible first | exact HB.out | apply below_alloc | apply pw_below_drewN | apply below_drew1) | exact HB.out)) hb); clear HB; have HB := n0_; clear n0_; (try clear hb); (try clear hb2); (try clear hk); (try clear hi)))
         have n0_ := Aside0.mk (below_drew1 HB.out)
         clear HB
         have HB := n0_
         clear n0_
         have p7 : 0 ≤ (0 : Int) := (by omega)
         have q7 : 0 < a0.size := (by have : (0 : Int) < (a0.size : Int) := of_decide_eq_true (by first | (with_reducible assumption) | assumption); omega)
         have hx7 : ∀ h : 0 < a0.size, ((a0[0]'h).toNat : Int) = bt a0 0 := bt_at a0 0
         clear p7
         have qi7 : (0 < (a0.size : Int)) = True := eq_true (of_decide_eq_true (by first | (with_reducible assumption) | assumption))
         replace q7 := eq_true q7
         refine start_ (n := 5) (S := fun w' => True) (ds := []) #[false, false, false, false, false] (by kernel_rfl) rfl rfl trivial (fun hHeld => ?_)
         generalize w22.drew = w23 at HB hHeld ⊢
         refine pure_ (i := 1) (N := some 15) (v := ?_) (a' := ?_) #[false, true, false, false, false] rfl rfl (by kernel_rfl) (fun _ _ _ h => h) (Or.inl ⟨by rfl, ?_⟩) ?_ ?_
         rotate_left
         · intro w'
           go_simp
           with_reducible rfl
         rotate_left
         · simp only [Act.put, List.setIfInBounds_toArray, List.set_cons_zero, List.set_cons_succ, i64_w, i32_w]
           rfl
         refine take_ (i := 2) (N := some 16) (v := ?_) (a' := ?_) #[false, true, true, false, false] rfl rfl (by kernel_rfl) (fun _ _ _ h => h) (Or.inl ⟨by rfl, ?_⟩) hHeld ?_ ?_
         rotate_left
         · intro w' _
           go_simp
           with_reducible rfl
         rotate_left
         · simp only [Act.put, List.setIfInBounds_toArray, List.set_cons_zero, List.set_cons_succ, i64_w, i32_w]
           rfl
         refine one_ (i := 0) (N := some 14) #[true, true, true, false, false] rfl rfl (by kernel_rfl) (by decide) (fun K hK => ?_)
         refine goes_ Tryz.func74 (by kernel_rfl) rfl #[] (by rfl) rfl rfl (by (try simp only [List.map_toArray, List.map_cons, List.map_nil]); first | done | rfl | (simp only [List.length_drop, List.length_take]; rfl)) ?_
         with_reducible refine (chars_Literal.calls  t357 _ A5.out).mono ?_
         rintro e w24 ⟨rfl, hb⟩
         refine ⟨_, rfl, ?_⟩
         have n0_ := Aside0.mk (below_step (by repeat (first | (with_reducible first | exact HB.out | apply below_alloc | apply pw_below_drewN | apply below_drew1) | exact HB.out)) hb)
         clear HB
         have HB := n0_
         clear n0_
         (try clear hb)
         (try clear hb2)
         (try clear hk)
         (try clear hi)
         refine hK.out _ _ trivial (fun hHeld => ?_)
         clear hK K
         refine norm_ (a' := ?_) ?_ ?_
         rotate_left
         · show Act.put _ (some 14) _ = _
           simp only [Act.put, List.setIfInBounds_toArray, List.set_cons_zero, List.set_cons_succ, i64_w, i32_w]
           rfl
         refine one_ (i := 3) (N := some 17) #[true, true, true, true, false] rfl rfl (by kernel_rfl) (by decide) (fun K hK => ?_)
         refine goes_ Tryz.func56 (by kernel_rfl) rfl #[setV t357, .int .u8 (bt a0 0)] (by rfl) rfl rfl (by (try simp only [List.map_toArray, List.map_cons, List.map_nil]); first | done | rfl | (simp only [List.length_drop, List.length_take]; rfl)) ?_
         with_reducible refine (chars_Set_Has.calls t357 (bt a0 0) false _ A8.out).mono ?_
         rintro e w25 ⟨rfl, hb⟩
         refine ⟨_, rfl, ?_⟩
         have n0_ := Aside0.mk (below_step (by repeat (first | (with_reducible first | exact HB.out | apply below_alloc | apply pw_below_drewN | apply below_drew1) | exact HB.out)) hb)
         clear HB
         have HB := n0_
         clear n0_
         (try clear hb)
         (try clear hb2)
         (try clear hk)
         (try clear hi)
         refine hK.out _ _ trivial (fun hHeld => ?_)
         clear hK K
         refine norm_ (a' := ?_) ?_ ?_
         rotate_left
         · show Act.put _ (some 17) _ = _
           simp only [Act.put, List.setIfInBounds_toArray, List.set_cons_zero, List.set_cons_succ, i64_w, i32_w]
           rfl
         refine pure_ (i := 4) (N := some 13) (v := ?_) (a' := ?_) #[true, true, true, true, true] rfl rfl (by kernel_rfl) (fun _ _ _ h => h) (Or.inl ⟨by rfl, ?_⟩) ?_ ?_
         rotate_left
         · intro w'
           go_simp
           with_reducible rfl
         rotate_left
         · simp only [Act.put, List.setIfInBounds_toArray, List.set_cons_zero, List.set_cons_succ, i64_w, i32_w]
           rfl
         refine done_ (by kernel_rfl) ?_
         try go_wp2_with (first | ((with_reducible refine gate_callee (f := 75) rfl ?_); refine goesL_ (some 20) rfl rfl Tryz.func75 (by kernel_rfl) rfl #[.string a0] rfl (by (try simp only [List.map_toArray, List.map_cons, List.map_nil]); first | done | rfl | (simp only [List.length_drop, List.length_take]; rfl)) ?_; (with_reducible refine (pct_Triplet.calls k a0 false _ A14.out).mono ?_); rintro e w' ⟨rfl, ⟨nd, rfl⟩⟩; refine ⟨_, rfl, ?_⟩))
         go_ret
         exact ⟨by first | rfl | (simp [errW_none, errW_some] <;> rfl) | (simp [*, errW_none, errW_some] <;> rfl), by repeat (first | (with_reducible first | exact HB.out | apply below_alloc | apply pw_below_drewN | apply below_drew1) | exact HB.out)⟩
   · rw [if_neg c6] at H
     exact absurd H (by simp)
def tmpl_pieces.l0 : Nat → ByteArray → Int → Int → Option (Int)
 | 0, _, _, _ => none
 | k + 1, x0, x3, x4 => if x4 > 0 then (if 0 ≤ (wrap64 (x3 + x4)) then (if (wrap64 (x3 + x4)) ≤ (x0.size : Int) then ((tmpl_piece.f k (x0.extract ((wrap64 (x3 + x4)) : Int).toNat x0.size)).bind fun t362 => (tmpl_pieces.l0 k x0 (wrap64 (x3 + x4)) t362)) else (none)) else (none)) else (some x3)
def tmpl_pieces.f (k : Nat) (a0 : ByteArray) : Option (Int) := (tmpl_piece.f k a0).bind fun t361 => (tmpl_pieces.l0 k a0 0 t361)
theorem tmpl_pieces.mono_l : ∀ k, (∀ y0 y1 y2, LeO (tmpl_pieces.l0 k y0 y1 y2) (tmpl_pieces.l0 (k + 1) y0 y1 y2))
 | 0 => fun _ _ _ r h => by simp [tmpl_pieces.l0] at h
 | k + 1 => by
  have ih0 := tmpl_pieces.mono_l k
  · intro y0 y1 y2
    unfold tmpl_pieces.l0
    repeat' first
    | (with_reducible exact ih0 _ _ _)
    | (with_reducible exact tmpl_piece.mono _ _)
    | (with_reducible exact LeO.refl _)
    | (with_reducible exact LeO.none _)
    | (with_reducible refine LeO.ite ?_ ?_)
    | (with_reducible refine LeO.bind ?_ (fun _ => ?_))
    | exact ih0 _ _ _
    | exact tmpl_piece.mono _ _
    | exact LeO.none _
    | refine LeO.ite ?_ ?_
    | refine LeO.bind ?_ (fun _ => ?_)
theorem tmpl_pieces.mono : ∀ a0 k, LeO (tmpl_pieces.f k a0) (tmpl_pieces.f (k + 1) a0) := by
 intro a0 k
 have ih0 := tmpl_pieces.mono_l k
 unfold tmpl_pieces.f
 repeat' first
  | (with_reducible exact ih0 _ _ _)
  | (with_reducible exact tmpl_piece.mono _ _)
  | (with_reducible exact LeO.refl _)
  | (with_reducible exact LeO.none _)
  | (with_reducible refine LeO.ite ?_ ?_)
  | (with_reducible refine LeO.bind ?_ (fun _ => ?_))
  | exact ih0 _ _ _
  | exact tmpl_piece.mono _ _
  | exact LeO.none _
  | refine LeO.ite ?_ ?_
  | refine LeO.bind ?_ (fun _ => ?_)
set_option maxHeartbeats 8000000 in
set_option maxRecDepth 100000 in
theorem tmpl_pieces.calls (k : Nat) (a0 : ByteArray) (r : Int) (w : World) (h : tmpl_pieces.f k a0 = some r) :
 Calls Tryz.prog 39 #[.string a0] w fun e w' => e = .returned (.int .i64 r) ∧ Below w.heap.size w w' := by
 have HB := Aside0.mk (Below.refl w.heap.size w)
 have H : ((tmpl_piece.f k a0).bind fun t361 => (tmpl_pieces.l0 k a0 0 t361)) = some r := h
 clear h
 replace H := Option.bind_eq_some_iff.mp H
 obtain ⟨t361, A20, H⟩ := H
 replace H : (tmpl_pieces.l0 k a0 0 t361) = some r := H
 have A2 := Aside0.mk A20
 clear A20
 have H' := Aside0.mk H
 clear H
 go_enter Tryz.func39, Tryz.ntmps39
 go_wp2_with (first | ((with_reducible refine gate_callee (f := 54) rfl ?_); refine goesL_ (some 6) rfl rfl Tryz.func54 (by kernel_rfl) rfl #[.string a0] rfl (by (try simp only [List.map_toArray, List.map_cons, List.map_nil]); first | done | rfl | (simp only [List.length_drop, List.length_take]; rfl)) ?_; (with_reducible refine (tmpl_piece.calls k a0 t361 _ A2.out).mono ?_); rintro e w3 ⟨rfl, hb⟩; refine ⟨_, rfl, ?_⟩; have n0_ := Aside0.mk (below_step (by repeat (first | (with_reducible first | exact HB.out | apply below_alloc | apply pw_below_drewN | apply below_drew1) | exact HB.out)) hb); clear HB; have HB := n0_; clear n0_; (try clear hb); (try clear hb2); (try clear hk); (try clear hi)))
 go_loopg [3, 4] k (fun kq v3 v4 w' => ∃ (x3_1 : Int) (x4_1 : Int), v3 = .int .i64 x3_1 ∧ v4 = .int .i64 x4_1 ∧ Aside0 (tmpl_pieces.l0 kq a0 x3_1 x4_1 = some r) ∧ Aside0 (kq ≤ k) ∧ Aside0 (Below w.heap.size w w'))
 case atStart => exact ⟨(0), (t361), (by first | rfl | (simp; done) | (simp [*]; done)), (by first | rfl | (simp; done) | (simp [*]; done)), H', ⟨Nat.le_refl _⟩, ⟨by repeat (first | (with_reducible first | exact HB.out | apply below_alloc | apply pw_below_drewN | apply below_drew1) | exact HB.out)⟩⟩
 case round =>
  clear H'
  try clear p2
  try clear c3
  obtain ⟨x3_1, x4_1, rfl, rfl, HA, HK1, HB⟩ := hrel
  cases gk with
  | zero => exact absurd HA.out (by simp [tmpl_pieces.l0])
  | succ k1 =>
   have H := HA.out
   clear HA
   simp only [tmpl_pieces.l0] at H
   by_cases c4 : x4_1 > 0
   · rw [if_pos c4] at H
     have c4b0 : decide (0 < x4_1) = true := decide_eq_true c4
     clear c4
     obtain ⟨ji5, hji5⟩ : ∃ j_ : Int, (wrap64 (x3_1 + x4_1)) = j_ := ⟨_, rfl⟩
     replace H : (if 0 ≤ (ji5) then (if (ji5) ≤ (a0.size : Int) then ((tmpl_piece.f k1 (a0.extract ((ji5) : Int).toNat a0.size)).bind fun t362 => (tmpl_pieces.l0 k1 a0 ji5 t362)) else (none)) else (none)) = some r := by first | (rw [hji5] at H; exact H) | (simp only [hji5] at H ⊢; exact H)
     have hji5w : (IntKind.i64.wrap (x3_1 + x4_1)) = ji5 := (i64_w _).trans hji5
     by_cases c6 : 0 ≤ (ji5)
     · rw [if_pos c6] at H
       have c6b0 := eq_true c6
       have c6b1 : decide (0 ≤ (ji5)) = true := decide_eq_true c6
       clear c6
       by_cases c7 : (ji5) ≤ (a0.size : Int)
       · rw [if_pos c7] at H
         have c7b0 := eq_true c7
         have c7b1 : decide ((ji5) ≤ (a0.size : Int)) = true := decide_eq_true c7
         clear c7
         replace H := Option.bind_eq_some_iff.mp H
         obtain ⟨t362, A80, H⟩ := H
         replace H : (tmpl_pieces.l0 k1 a0 ji5 t362) = some r := H
         have A8 := Aside0.mk A80
         clear A80
         have H' := Aside0.mk H
         clear H
         go_wp2_with (first | ((with_reducible refine gate_callee (f := 54) rfl ?_); refine goesL_ (some 12) rfl rfl Tryz.func54 (by kernel_rfl) rfl #[.string (a0.extract ((ji5) : Int).toNat a0.size)] rfl (by (try simp only [List.map_toArray, List.map_cons, List.map_nil]); first | done | (simp only [hji5]; rfl) | rfl | (simp only [List.length_drop, List.length_take]; rfl)) ?_; (with_reducible refine (tmpl_piece.calls k1 (a0.extract ((ji5) : Int).toNat a0.size) t362 _ A8.out).mono ?_); rintro e w9 ⟨rfl, hb⟩; refine ⟨_, rfl, ?_⟩; have n0_ := Aside0.mk (below_step (by repeat (first | (with_reducible first | exact HB.out | apply below_alloc | apply pw_below_drewN | apply below_drew1) | exact HB.out)) hb); clear HB; have HB := n0_; clear n0_; (try clear hb); (try clear hb2); (try clear hk); (try clear hi)))
         go_roundg k1
         case measure => have := HK1.out; omega
         case rel => exact ⟨(ji5), (t362), (by first | rfl | (simp; done) | (simp only [← hji5] <;> (first | rfl | simp)) | (simp [*]; done)), (by first | rfl | (simp; done) | (simp [*]; done)), H', ⟨by have := HK1.out; omega⟩, ⟨by repeat (first | (with_reducible first | exact HB.out | apply below_alloc | apply pw_below_drewN | apply below_drew1) | exact HB.out)⟩⟩
       · rw [if_neg c7] at H
         exact absurd H (by simp)
     · rw [if_neg c6] at H
       exact absurd H (by simp)
   · rw [if_neg c4] at H
     have c4b0 : decide (0 < x4_1) = false := decide_eq_false c4
     clear c4
     obtain rfl := Option.some.inj H
     go_wp2
     go_ret
     exact ⟨by first | rfl | (simp [errW_none, errW_some] <;> rfl) | (simp [*, errW_none, errW_some] <;> rfl), by repeat (first | (with_reducible first | exact HB.out | apply below_alloc | apply pw_below_drewN | apply below_drew1) | exact HB.out)⟩
theorem eqA43 (d : Nat) (w : World) (x0 y0 : ByteArray) (x1 y1 : Int) (x2 y2 : Bool) :
 (Op.equalIn (d + 2) 43 (.agg #[.string x0, .int .i64 x1, .bool x2]) (.agg #[.string y0, .int .i64 y1, .bool y2])).run Tryz.prog w = .ok (x0.toList == y0.toList && (x1 == y1 && (x2 == y2))) w := by
 refine eqA_of Tryz.underlying43 (by kernel_rfl) ?_
 refine eqf_cons (by rfl) (by go_simp; rfl) (by go_simp; rfl) (by go_simp) ?_
 refine eqf_cons (by rfl) (by go_simp; rfl) (by go_simp; rfl) (by go_simp) ?_
 exact eqf_last (by rfl) (by go_simp; rfl) (by go_simp; rfl) (by go_simp)
def rf04_size.j0 : Nat → Int → Bool → Option (Int)
 | 0, _, _ => none
 | k + 1, x0, x8 => if x8 = true then (some 0) else (if x0 < 224 then (some 2) else (if x0 < 240 then (some 3) else (some 4)))
def rf04_size.f (k : Nat) (a0 : Int) : Option (Int) := if a0 < 192 then (rf04_size.j0 k a0 true) else (rf04_size.j0 k a0 (decide (a0 > 247)))
set_option maxHeartbeats 8000000 in
set_option maxRecDepth 100000 in
theorem rf04_size.calls (k : Nat) (a0 : Int) (r : Int) (w : World) (h : rf04_size.f k a0 = some r) :
 Calls Tryz.prog 62 #[.int .u8 a0] w fun e w' => e = .returned (.int .i64 r) ∧ Drawn0 w w' := by
 have H : (if a0 < 192 then (rf04_size.j0 k a0 true) else (rf04_size.j0 k a0 (decide (a0 > 247)))) = some r := h
 clear h
 have HC2 := Aside0.mk H
 clear H
 go_enter Tryz.func62, Tryz.ntmps62
 go_upto_region 1 with (fail)
 go_cut [8] (fun v8 wc => ∃ (kq : Nat) (x8_1 : Bool), v8 = .bool x8_1 ∧ Aside0 (rf04_size.j0 kq a0 x8_1 = some r) ∧ Aside0 (kq ≤ k) ∧ Drawn0 w wc)
 case first =>
  have H := HC2.out
  clear HC2
  by_cases c3 : a0 < 192
  · rw [if_pos c3] at H
    have c3b0 : decide (a0 < 192) = true := decide_eq_true c3
    clear c3
    (first | rw [c3b0] | (simp only [i64_w, i32_w]; rw [c3b0]) | skip)
    have H' := Aside0.mk H
    clear H
    go_wp2
    go_meet
    case rel => exact ⟨_, (true), (by first | rfl | (simp; done) | (simp [*]; done)), H', ⟨by first | omega | exact Nat.le_refl _⟩, by repeat (first | exact Drawn0.refl _ | apply Drawn0.step)⟩
  · rw [if_neg c3] at H
    have c3b0 : decide (a0 < 192) = false := decide_eq_false c3
    clear c3
    (first | rw [c3b0] | (simp only [i64_w, i32_w]; rw [c3b0]) | skip)
    have H' := Aside0.mk H
    clear H
    go_wp2
    go_meet
    case rel => exact ⟨_, (decide (a0 > 247)), (by first | rfl | (simp; done) | (simp [*]; done)), H', ⟨by first | omega | exact Nat.le_refl _⟩, by repeat (first | exact Drawn0.refl _ | apply Drawn0.step)⟩
 case rest =>
  clear HC2
  try clear p2
  try clear c3
  try clear c3b0
  obtain ⟨kq, x8_1, rfl, HA, HJ1, ⟨mc1, rfl⟩⟩ := hcut
  cases kq with
  | zero => exact absurd HA.out (by simp [rf04_size.j0])
  | succ kj1 =>
   have H := HA.out
   clear HA
   simp only [rf04_size.j0] at H
   by_cases c4 : x8_1 = true
   · subst c4
     have H1 : (some 0) = some r := by rw [if_pos rfl] at H; exact H
     clear H
     have H := H1
     clear H1
     obtain rfl := Option.some.inj H
     go_wp2
     go_ret
     exact ⟨by first | rfl | (simp; done) | (simp [*]; done), by repeat (first | exact Drawn0.refl _ | apply Drawn0.step)⟩
   · replace c4 := Bool.eq_false_iff.mpr c4
     subst c4
     have H1 : (if a0 < 224 then (some 2) else (if a0 < 240 then (some 3) else (some 4))) = some r := by rw [if_neg (show ¬ (false = true) by decide)] at H; exact H
     clear H
     have H := H1
     clear H1
     by_cases c5 : a0 < 224
     · rw [if_pos c5] at H
       have c5b0 : decide (a0 < 224) = true := decide_eq_true c5
       clear c5
       obtain rfl := Option.some.inj H
       go_wp2
       go_ret
       exact ⟨by first | rfl | (simp; done) | (simp [*]; done), by repeat (first | exact Drawn0.refl _ | apply Drawn0.step)⟩
     · rw [if_neg c5] at H
       have c5b0 : decide (a0 < 224) = false := decide_eq_false c5
       clear c5
       by_cases c6 : a0 < 240
       · rw [if_pos c6] at H
         have c6b0 : decide (a0 < 240) = true := decide_eq_true c6
         clear c6
         obtain rfl := Option.some.inj H
         go_wp2
         go_ret
         exact ⟨by first | rfl | (simp; done) | (simp [*]; done), by repeat (first | exact Drawn0.refl _ | apply Drawn0.step)⟩
       · rw [if_neg c6] at H
         have c6b0 : decide (a0 < 240) = false := decide_eq_false c6
         clear c6
         obtain rfl := Option.some.inj H
         go_wp2
         go_ret
         exact ⟨by first | rfl | (simp; done) | (simp [*]; done), by repeat (first | exact Drawn0.refl _ | apply Drawn0.step)⟩
def rf04_May.f (a0 : Int) : Option (Bool) := if a0 < 65536 then (if a0 ≥ 160 then (if a0 ≤ 55295 then (some true) else (if a0 ≥ 57344 then (if a0 ≤ 64975 then (some true) else (if a0 ≥ 65008 then (some (decide (a0 ≤ 65519))) else (some false))) else (if a0 ≥ 65008 then (some (decide (a0 ≤ 65519))) else (some false)))) else (if a0 ≥ 57344 then (if a0 ≤ 64975 then (some true) else (if a0 ≥ 65008 then (some (decide (a0 ≤ 65519))) else (some false))) else (if a0 ≥ 65008 then (some (decide (a0 ≤ 65519))) else (some false)))) else (if a0 ≥ 917504 then (if a0 < 921600 then (some false) else (if a0 ≤ 1114109 then (some (decide ((Int.tmod a0 65536) ≤ 65533))) else (some false))) else (if a0 ≤ 1114109 then (some (decide ((Int.tmod a0 65536) ≤ 65533))) else (some false)))
set_option maxHeartbeats 8000000 in
set_option maxRecDepth 100000 in
theorem rf04_May.calls (a0 : Int) (r : Bool) (w : World) (h : rf04_May.f a0 = some r) :
 Calls Tryz.prog 85 #[.int .i64 a0] w fun e w' => e = .returned (.bool r) ∧ Drawn0 w w' := by
 have H : (if a0 < 65536 then (if a0 ≥ 160 then (if a0 ≤ 55295 then (some true) else (if a0 ≥ 57344 then (if a0 ≤ 64975 then (some true) else (if a0 ≥ 65008 then (some (decide (a0 ≤ 65519))) else (some false))) else (if a0 ≥ 65008 then (some (decide (a0 ≤ 65519))) else (some false)))) else (if a0 ≥ 57344 then (if a0 ≤ 64975 then (some true) else (if a0 ≥ 65008 then (some (decide (a0 ≤ 65519))) else (some false))) else (if a0 ≥ 65008 then (some (decide (a0 ≤ 65519))) else (some false)))) else (if a0 ≥ 917504 then (if a0 < 921600 then (some false) else (if a0 ≤ 1114109 then (some (decide ((Int.tmod a0 65536) ≤ 65533))) else (some false))) else (if a0 ≤ 1114109 then (some (decide ((Int.tmod a0 65536) ≤ 65533))) else (some false)))) = some r := h
 clear h
 by_cases c2 : a0 < 65536
 · rw [if_pos c2] at H
   have c2b0 : decide (a0 < 65536) = true := decide_eq_true c2
   clear c2
   by_cases c3 : a0 ≥ 160
   · rw [if_pos c3] at H
     have c3b0 : decide (160 ≤ a0) = true := decide_eq_true c3
     clear c3
     by_cases c4 : a0 ≤ 55295
     · rw [if_pos c4] at H
       have c4b0 : decide (a0 ≤ 55295) = true := decide_eq_true c4
       clear c4
       obtain rfl := Option.some.inj H
       go_enter Tryz.func85, Tryz.ntmps85
       go_wp2
       go_ret
       exact ⟨by first | rfl | (simp; done) | (simp [*]; done), by repeat (first | exact Drawn0.refl _ | apply Drawn0.step)⟩
     · rw [if_neg c4] at H
       have c4b0 : decide (a0 ≤ 55295) = false := decide_eq_false c4
       clear c4
       by_cases c5 : a0 ≥ 57344
       · rw [if_pos c5] at H
         have c5b0 : decide (57344 ≤ a0) = true := decide_eq_true c5
         clear c5
         by_cases c6 : a0 ≤ 64975
         · rw [if_pos c6] at H
           have c6b0 : decide (a0 ≤ 64975) = true := decide_eq_true c6
           clear c6
           obtain rfl := Option.some.inj H
           go_enter Tryz.func85, Tryz.ntmps85
           go_wp2
           go_ret
           exact ⟨by first | rfl | (simp; done) | (simp [*]; done), by repeat (first | exact Drawn0.refl _ | apply Drawn0.step)⟩
         · rw [if_neg c6] at H
           have c6b0 : decide (a0 ≤ 64975) = false := decide_eq_false c6
           clear c6
           by_cases c7 : a0 ≥ 65008
           · rw [if_pos c7] at H
             have c7b0 : decide (65008 ≤ a0) = true := decide_eq_true c7
             clear c7
             obtain rfl := Option.some.inj H
             go_enter Tryz.func85, Tryz.ntmps85
             go_wp2
             go_ret
             exact ⟨by first | rfl | (simp; done) | (simp [*]; done), by repeat (first | exact Drawn0.refl _ | apply Drawn0.step)⟩
           · rw [if_neg c7] at H
             have c7b0 : decide (65008 ≤ a0) = false := decide_eq_false c7
             clear c7
             obtain rfl := Option.some.inj H
             go_enter Tryz.func85, Tryz.ntmps85
             go_wp2
             go_ret
             exact ⟨by first | rfl | (simp; done) | (simp [*]; done), by repeat (first | exact Drawn0.refl _ | apply Drawn0.step)⟩
       · rw [if_neg c5] at H
         have c5b0 : decide (57344 ≤ a0) = false := decide_eq_false c5
         clear c5
         by_cases c8 : a0 ≥ 65008
         · rw [if_pos c8] at H
           have c8b0 : decide (65008 ≤ a0) = true := decide_eq_true c8
           clear c8
           obtain rfl := Option.some.inj H
           go_enter Tryz.func85, Tryz.ntmps85
           go_wp2
           go_ret
           exact ⟨by first | rfl | (simp; done) | (simp [*]; done), by repeat (first | exact Drawn0.refl _ | apply Drawn0.step)⟩
         · rw [if_neg c8] at H
           have c8b0 : decide (65008 ≤ a0) = false := decide_eq_false c8
           clear c8
           obtain rfl := Option.some.inj H
           go_enter Tryz.func85, Tryz.ntmps85
           go_wp2
           go_ret
           exact ⟨by first | rfl | (simp; done) | (simp [*]; done), by repeat (first | exact Drawn0.refl _ | apply Drawn0.step)⟩
   · rw [if_neg c3] at H
     have c3b0 : decide (160 ≤ a0) = false := decide_eq_false c3
     clear c3
     by_cases c9 : a0 ≥ 57344
     · rw [if_pos c9] at H
       have c9b0 : decide (57344 ≤ a0) = true := decide_eq_true c9
       clear c9
       by_cases c10 : a0 ≤ 64975
       · rw [if_pos c10] at H
         have c10b0 : decide (a0 ≤ 64975) = true := decide_eq_true c10
         clear c10
         obtain rfl := Option.some.inj H
         go_enter Tryz.func85, Tryz.ntmps85
         go_wp2
         go_ret
         exact ⟨by first | rfl | (simp; done) | (simp [*]; done), by repeat (first | exact Drawn0.refl _ | apply Drawn0.step)⟩
       · rw [if_neg c10] at H
         have c10b0 : decide (a0 ≤ 64975) = false := decide_eq_false c10
         clear c10
         by_cases c11 : a0 ≥ 65008
         · rw [if_pos c11] at H
           have c11b0 : decide (65008 ≤ a0) = true := decide_eq_true c11
           clear c11
           obtain rfl := Option.some.inj H
           go_enter Tryz.func85, Tryz.ntmps85
           go_wp2
           go_ret
           exact ⟨by first | rfl | (simp; done) | (simp [*]; done), by repeat (first | exact Drawn0.refl _ | apply Drawn0.step)⟩
         · rw [if_neg c11] at H
           have c11b0 : decide (65008 ≤ a0) = false := decide_eq_false c11
           clear c11
           obtain rfl := Option.some.inj H
           go_enter Tryz.func85, Tryz.ntmps85
           go_wp2
           go_ret
           exact ⟨by first | rfl | (simp; done) | (simp [*]; done), by repeat (first | exact Drawn0.refl _ | apply Drawn0.step)⟩
     · rw [if_neg c9] at H
       have c9b0 : decide (57344 ≤ a0) = false := decide_eq_false c9
       clear c9
       by_cases c12 : a0 ≥ 65008
       · rw [if_pos c12] at H
         have c12b0 : decide (65008 ≤ a0) = true := decide_eq_true c12
         clear c12
         obtain rfl := Option.some.inj H
         go_enter Tryz.func85, Tryz.ntmps85
         go_wp2
         go_ret
         exact ⟨by first | rfl | (simp; done) | (simp [*]; done), by repeat (first | exact Drawn0.refl _ | apply Drawn0.step)⟩
       · rw [if_neg c12] at H
         have c12b0 : decide (65008 ≤ a0) = false := decide_eq_false c12
         clear c12
         obtain rfl := Option.some.inj H
         go_enter Tryz.func85, Tryz.ntmps85
         go_wp2
         go_ret
         exact ⟨by first | rfl | (simp; done) | (simp [*]; done), by repeat (first | exact Drawn0.refl _ | apply Drawn0.step)⟩
 · rw [if_neg c2] at H
   have c2b0 : decide (a0 < 65536) = false := decide_eq_false c2
   clear c2
   by_cases c13 : a0 ≥ 917504
   · rw [if_pos c13] at H
     have c13b0 : decide (917504 ≤ a0) = true := decide_eq_true c13
     clear c13
     by_cases c14 : a0 < 921600
     · rw [if_pos c14] at H
       have c14b0 : decide (a0 < 921600) = true := decide_eq_true c14
       clear c14
       obtain rfl := Option.some.inj H
       go_enter Tryz.func85, Tryz.ntmps85
       go_wp2
       go_ret
       exact ⟨by first | rfl | (simp; done) | (simp [*]; done), by repeat (first | exact Drawn0.refl _ | apply Drawn0.step)⟩
     · rw [if_neg c14] at H
       have c14b0 : decide (a0 < 921600) = false := decide_eq_false c14
       clear c14
       by_cases c15 : a0 ≤ 1114109
       · rw [if_pos c15] at H
         have c15b0 : decide (a0 ≤ 1114109) = true := decide_eq_true c15
         clear c15
         obtain rfl := Option.some.inj H
         go_enter Tryz.func85, Tryz.ntmps85
         go_wp2
         go_ret
         exact ⟨by first | rfl | (simp; done) | (simp [*]; done), by repeat (first | exact Drawn0.refl _ | apply Drawn0.step)⟩
       · rw [if_neg c15] at H
         have c15b0 : decide (a0 ≤ 1114109) = false := decide_eq_false c15
         clear c15
         obtain rfl := Option.some.inj H
         go_enter Tryz.func85, Tryz.ntmps85
         go_wp2
         go_ret
         exact ⟨by first | rfl | (simp; done) | (simp [*]; done), by repeat (first | exact Drawn0.refl _ | apply Drawn0.step)⟩
   · rw [if_neg c13] at H
     have c13b0 : decide (917504 ≤ a0) = false := decide_eq_false c13
     clear c13
     by_cases c16 : a0 ≤ 1114109
     · rw [if_pos c16] at H
       have c16b0 : decide (a0 ≤ 1114109) = true := decide_eq_true c16
       clear c16
       obtain rfl := Option.some.inj H
       go_enter Tryz.func85, Tryz.ntmps85
       go_wp2
       go_ret
       exact ⟨by first | rfl | (simp; done) | (simp [*]; done), by repeat (first | exact Drawn0.refl _ | apply Drawn0.step)⟩
     · rw [if_neg c16] at H
       have c16b0 : decide (a0 ≤ 1114109) = false := decide_eq_false c16
       clear c16
       obtain rfl := Option.some.inj H
       go_enter Tryz.func85, Tryz.ntmps85
       go_wp2
       go_ret
       exact ⟨by first | rfl | (simp; done) | (simp [*]; done), by repeat (first | exact Drawn0.refl _ | apply Drawn0.step)⟩
def rf04_some.l0 : Nat → Int → Int → Option (Bool)
 | 0, _, _ => none
 | k + 1, x1, x5 => if x5 ≤ x1 then ((rf04_May.f x5).bind fun t205 => (if t205 = true then (some true) else (rf04_some.l0 k x1 (wrap64 (x5 + 1))))) else (some false)
def rf04_some.f (k : Nat) (a0 : Int) (a1 : Int) : Option (Bool) := rf04_some.l0 k a1 a0
set_option maxHeartbeats 8000000 in
set_option maxRecDepth 100000 in
theorem rf04_some.calls (k : Nat) (a0 : Int) (a1 : Int) (r : Bool) (w : World) (h : rf04_some.f k a0 a1 = some r) :
 Calls Tryz.prog 63 #[.int .i64 a0, .int .i64 a1] w fun e w' => e = .returned (.bool r) ∧ Drawn0 w w' := by
 have H : (rf04_some.l0 k a1 a0) = some r := h
 clear h
 have H' := Aside0.mk H
 clear H
 go_enter Tryz.func63, Tryz.ntmps63
 go_wp2
 go_loopg [5] k (fun kq v5 w' => ∃ (x5_1 : Int), v5 = .int .i64 x5_1 ∧ Aside0 (rf04_some.l0 kq a1 x5_1 = some r) ∧ Aside0 (kq ≤ k) ∧ Drawn0 w w')
 case atStart => exact ⟨(a0), (by first | rfl | (simp; done) | (simp [*]; done)), H', ⟨Nat.le_refl _⟩, by repeat (first | exact Drawn0.refl _ | apply Drawn0.step)⟩
 case round =>
  clear H'
  try clear p2
  obtain ⟨x5_1, rfl, HA, HK1, ⟨m1, rfl⟩⟩ := hrel
  cases gk with
  | zero => exact absurd HA.out (by simp [rf04_some.l0])
  | succ k1 =>
   have H := HA.out
   clear HA
   simp only [rf04_some.l0] at H
   by_cases c3 : x5_1 ≤ a1
   · rw [if_pos c3] at H
     have c3b0 : decide (x5_1 ≤ a1) = true := decide_eq_true c3
     clear c3
     replace H := Option.bind_eq_some_iff.mp H
     obtain ⟨t205, A40, H⟩ := H
     replace H : (if t205 = true then (some true) else (rf04_some.l0 k1 a1 (wrap64 (x5_1 + 1)))) = some r := H
     have A4 := Aside0.mk A40
     clear A40
     by_cases c5 : t205 = true
     · subst c5
       have H1 : (some true) = some r := by rw [if_pos rfl] at H; exact H
       clear H
       have H := H1
       clear H1
       obtain rfl := Option.some.inj H
       go_wp2_with (first | ((with_reducible refine gate_callee (f := 85) rfl ?_); refine goesL_ (some 13) rfl rfl Tryz.func85 (by kernel_rfl) rfl #[.int .i64 x5_1] rfl (by (try simp only [List.map_toArray, List.map_cons, List.map_nil]); first | done | rfl | (simp only [List.length_drop, List.length_take]; rfl)) ?_; (with_reducible refine (rf04_May.calls x5_1 true _ A4.out).mono ?_); rintro e w' ⟨rfl, ⟨nd, rfl⟩⟩; refine ⟨_, rfl, ?_⟩))
       go_ret
       exact ⟨by first | rfl | (simp; done) | (simp [*]; done), by repeat (first | exact Drawn0.refl _ | apply Drawn0.step)⟩
     · replace c5 := Bool.eq_false_iff.mpr c5
       subst c5
       have H1 : (rf04_some.l0 k1 a1 (wrap64 (x5_1 + 1))) = some r := by rw [if_neg (show ¬ (false = true) by decide)] at H; exact H
       clear H
       have H := H1
       clear H1
       have H' := Aside0.mk H
       clear H
       go_wp2_with (first | ((with_reducible refine gate_callee (f := 85) rfl ?_); refine goesL_ (some 13) rfl rfl Tryz.func85 (by kernel_rfl) rfl #[.int .i64 x5_1] rfl (by (try simp only [List.map_toArray, List.map_cons, List.map_nil]); first | done | rfl | (simp only [List.length_drop, List.length_take]; rfl)) ?_; (with_reducible refine (rf04_May.calls x5_1 false _ A4.out).mono ?_); rintro e w' ⟨rfl, ⟨nd, rfl⟩⟩; refine ⟨_, rfl, ?_⟩))
       go_roundg k1
       case measure => have := HK1.out; omega
       case rel => exact ⟨(wrap64 (x5_1 + 1)), (by first | rfl | (simp; done) | (simp [*]; done)), H', ⟨by have := HK1.out; omega⟩, by repeat (first | exact Drawn0.refl _ | apply Drawn0.step)⟩
   · rw [if_neg c3] at H
     have c3b0 : decide (x5_1 ≤ a1) = false := decide_eq_false c3
     clear c3
     obtain rfl := Option.some.inj H
     go_wp2
     go_ret
     exact ⟨by first | rfl | (simp; done) | (simp [*]; done), by repeat (first | exact Drawn0.refl _ | apply Drawn0.step)⟩
end Go.Proofs.YtkipkbggnfllkaaGreatDoor.P
end
