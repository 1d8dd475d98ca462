/- What is proved here is used by the law's card: Fphalaroperef06Is, Fphalaroperef07Operator, Fphalaroperef07inside, Fphalaroperef07Is, Fphalaroperef07Begins, Fphalaroperef07Parse. -/
import Derived.Test.YtkipkbggnfllkaaGreatDoorCa2
section
namespace Go.Proofs.YtkipkbggnfllkaaGreatDoor.P
open Go.RowKit Go.Proofs.YtkipkbggnfllkaaGreatDoorW.PrintWords Go.Proofs.YtkipkbggnfllkaaGreatDoorW.PrintLast Go.Proofs.YtkipkbggnfllkaaGreatDoorW.PrintMore
attribute [local go_sem] max2_int min2_int max_two min_two max_three min_three max_four min_four
set_option linter.unusedVariables false
set_option linter.unusedSimpArgs false
mutual
def rf06_Is.j0 : Nat → ByteArray → Int → ByteArray → ByteArray → Int → Bool → Option (ByteArray × Int × Bool × Bool)
 | 0, _, _, _, _, _, _ => none
 | k + 1, x0, x4, x6, x144000, x144001, x144002 => rf06_Is.l0 k x0 x4 x6 1 x144000 x144001 x144002
def rf06_Is.l0 : Nat → ByteArray → Int → ByteArray → Int → ByteArray → Int → Bool → Option (ByteArray × Int × Bool × Bool)
 | 0, _, _, _, _, _, _, _ => none
 | k + 1, x0, x4, x6, x7, x144000, x144001, x144002 => if x7 < (x6.size : Int) then (if x7 < 6 then (if 0 ≤ x7 then (rf06_Is.l0 k x0 x4 x6 (wrap64 (x7 + 1)) x144000 (wrap64 ((wrap64 ((wrap64 (10 * x144001)) + (wrap64 (bt x6 x7)))) - 48)) x144002) else (none)) else (if x4 > 0 then ((rf06_May.f k x144000 x144001 x144002).bind fun t144 => (if t144 = true then ((rf06_Put.f k x144000 x144001 x144002).bind fun t145 => (some (x144000, x144001, x144002, (t145.toList == x0.toList)))) else (some (x144000, x144001, x144002, false)))) else (some (x144000, x144001, x144002, false)))) else (if x4 > 0 then ((rf06_May.f k x144000 x144001 x144002).bind fun t146 => (if t146 = true then ((rf06_Put.f k x144000 x144001 x144002).bind fun t147 => (some (x144000, x144001, x144002, (t147.toList == x0.toList)))) else (some (x144000, x144001, x144002, false)))) else (some (x144000, x144001, x144002, false)))
end
def rf06_Is.f (k : Nat) (a0 : ByteArray) : Option (ByteArray × Int × Bool × Bool) := (rf05_End.f k a0).bind fun t142 => (if 0 ≤ t142 then (if t142 ≤ (a0.size : Int) then (if (a0.extract (t142 : Int).toNat a0.size).toList = ([42] : List UInt8) then (rf06_Is.j0 k a0 t142 (a0.extract (t142 : Int).toNat a0.size) (a0.extract 0 (t142 : Int).toNat) 0 true) else (rf06_Is.j0 k a0 t142 (a0.extract (t142 : Int).toNat a0.size) (a0.extract 0 (t142 : Int).toNat) 0 false)) else (none)) else (none))
def rf06_Is.T9 : Bool × List (List Nat × List Nat) := (true, [([], []), ([0], [0]), ([1], [1]), ([], []), ([], []), ([3, 4], [3, 4]), ([5], [5]), ([2, 6], [2, 6]), ([7], [7]), ([0, 1, 2, 3, 4, 5, 6, 7, 8], []), ([9, 8, 0, 1, 2, 3, 4, 5, 6, 7, 8], [8, 9])])
def rf06_Is.B9 : List Nat := [0, 1, 3, 0, 0, 24, 56, 127, 255, 511, 1023]
theorem rf06_Is.tab9 : rtab .any (opsOf Tryz.f58 9) = rf06_Is.T9 := by kernel_rfl
theorem rf06_Is.bits9 : waitsOk rf06_Is.T9.2 rf06_Is.B9 = true := by kernel_rfl
def rf06_Is.T10 : Bool × List (List Nat × List Nat) := (true, [([], []), ([], []), ([1], [1]), ([2], [2]), ([3], [3]), ([4, 3, 3], [3, 4]), ([3, 5], [3, 5]), ([6, 5], [6]), ([7], [7]), ([8, 7, 7], [7, 8]), ([7], [7]), ([9, 10, 7], [7, 9, 10]), ([7, 11], [7, 11]), ([0, 9, 0], [0]), ([12, 13, 0, 1, 2, 3, 4, 5, 6, 7, 8, 9, 10, 11, 12, 13], [12])])
def rf06_Is.B10 : List Nat := [0, 0, 2, 6, 14, 30, 62, 126, 254, 510, 254, 2046, 4094, 1023, 16383]
theorem rf06_Is.tab10 : rtab .any (opsOf Tryz.f58 10) = rf06_Is.T10 := by kernel_rfl
theorem rf06_Is.bits10 : waitsOk rf06_Is.T10.2 rf06_Is.B10 = true := by kernel_rfl
set_option maxHeartbeats 8000000 in
set_option maxRecDepth 100000 in
theorem rf06_Is.calls (k : Nat) (a0 : ByteArray) (r1 : ByteArray) (r2 : Int) (r3 : Bool) (r4 : Bool) (w : World) (h : rf06_Is.f k a0 = some (r1, r2, r3, r4)) :
 Calls Tryz.prog 58 #[.string a0] w fun e w' => e = .returned (.tuple #[.agg #[.string r1, .int .i64 r2, .bool r3], .bool r4]) ∧ Below w.heap.size w w' := by
 have hu43 := Tryz.underlying43
 have HB := Aside0.mk (Below.refl w.heap.size w)
 have H : ((rf05_End.f k a0).bind fun t142 => (if 0 ≤ t142 then (if t142 ≤ (a0.size : Int) then (if (a0.extract (t142 : Int).toNat a0.size).toList = ([42] : List UInt8) then (rf06_Is.j0 k a0 t142 (a0.extract (t142 : Int).toNat a0.size) (a0.extract 0 (t142 : Int).toNat) 0 true) else (rf06_Is.j0 k a0 t142 (a0.extract (t142 : Int).toNat a0.size) (a0.extract 0 (t142 : Int).toNat) 0 false)) else (none)) else (none))) = some (r1, r2, r3, r4) := h
 clear h
 replace H := Option.bind_eq_some_iff.mp H
 obtain ⟨t142, A20, H⟩ := H
 replace H : (if 0 ≤ t142 then (if t142 ≤ (a0.size : Int) then (if (a0.extract (t142 : Int).toNat a0.size).toList = ([42] : List UInt8) then (rf06_Is.j0 k a0 t142 (a0.extract (t142 : Int).toNat a0.size) (a0.extract 0 (t142 : Int).toNat) 0 true) else (rf06_Is.j0 k a0 t142 (a0.extract (t142 : Int).toNat a0.size) (a0.extract 0 (t142 : Int).toNat) 0 false)) else (none)) else (none)) = some (r1, r2, r3, r4) := H
 have A2 := Aside0.mk A20
 clear A20
 by_cases c3 : 0 ≤ t142
 · rw [if_pos c3] at H
   have c3b0 := eq_true c3
   have c3b1 : decide (0 ≤ t142) = true := decide_eq_true c3
   clear c3
   by_cases c4 : t142 ≤ (a0.size : Int)
   · rw [if_pos c4] at H
     have c4b0 := eq_true c4
     have c4b1 : decide (t142 ≤ (a0.size : Int)) = true := decide_eq_true c4
     clear c4
     have c5b0 := eq_true (of_decide_eq_true (by first | (with_reducible assumption) | assumption) : 0 ≤ t142)
     have c6b0 := eq_true (of_decide_eq_true (by first | (with_reducible assumption) | assumption) : t142 ≤ (a0.size : Int))
     have HC7 := Aside0.mk H
     clear H
     go_enter Tryz.func58, Tryz.ntmps58
     go_upto_if 18 with (first | ((with_reducible refine gate_dst (N := 2) rfl ?_); refine box_event ?hg (N := 2) ?hd (cs := #[.string (⟨#[]⟩ : ByteArray), .int .i64 0, .bool false]) (t := 43) ?hr ?_; (case hd => rfl); (case hg => rfl); (case hr => first | (go_simp; done) | (go_simp; rfl)); intro gb141 hg w8 hbox hb; have n0_ := Aside0.mk (below_step (by repeat (first | (with_reducible first | exact HB.out | apply below_alloc | apply pw_below_drewN | apply below_drew1) | exact HB.out)) hb); have n1_ := Aside0.mk (hbox); have n2_ := Aside0.mk ((by rw [hg]; exact (below_size (by repeat (first | (with_reducible first | exact HB.out | apply below_alloc | apply pw_below_drewN | apply below_drew1) | exact HB.out))) : w.heap.size ≤ gb141)); have n3_ := Aside0.mk ((by rw [hg]; exact (below_size (by repeat (first | (with_reducible first | exact HB.out | apply below_alloc | apply pw_below_drewN | apply below_drew1) | exact HB.out))) : w.heap.size ≤ gb141)); clear HB; have HB := n0_; have BK141 := n1_; have GW141 := n2_; have GE141 := n3_; clear n0_ n1_ n2_ n3_; clear hb hbox hg) | ((with_reducible refine gate_callee (f := 82) rfl ?_); refine goesL_ (some 9) rfl rfl Tryz.func82 (by kernel_rfl) rfl #[.string a0] rfl (by (try simp only [List.map_toArray, List.map_cons, List.map_nil]); first | done | rfl | (simp only [List.length_drop, List.length_take]; rfl)) ?_; (with_reducible refine (rf05_End.calls k a0 t142 _ A2.out).mono ?_); rintro e w' ⟨rfl, ⟨nd, rfl⟩⟩; refine ⟨_, rfl, ?_⟩; (try (rw [drewN_self w8]; generalize hq_ : World.drewN w8 _ = w8; have n0_ : Aside0 (w8.heap[gb141]? = some (.cells #[.string (⟨#[]⟩ : ByteArray), .int .i64 0, .bool false] 43 (0, 0))) := ⟨by rw [← hq_]; exact (by (with_reducible repeat (first | refine blk_drewN ?_ _ | refine blk_drew ?_ | refine blk_alloc ?_ _)); exact BK141.out)⟩; have n1_ : Aside0 (Below w.heap.size w w8) := ⟨by rw [← hq_]; exact (by repeat (first | (with_reducible first | exact HB.out | apply below_alloc | apply pw_below_drewN | apply below_drew1 | refine below_set ?_ GE141.out) | exact HB.out))⟩; clear BK141 HB hq_; have BK141 := n0_; have HB := n1_; clear n0_ n1_))) | ((with_reducible refine gate_dst (N := 5) rfl ?_); refine box_event ?hg (N := 5) ?hd (cs := #[.string (⟨#[]⟩ : ByteArray), .int .i64 0, .bool false]) (t := 43) ?hr ?_; (case hd => rfl); (case hg => rfl); (case hr => first | (go_simp; done) | (go_simp; rfl)); intro gb143 hg w9 hbox hb; have n0_ := Aside0.mk (blk_below (g := gb141) (o := .cells #[.string (⟨#[]⟩ : ByteArray), .int .i64 0, .bool false] 43 (0, 0)) (by (with_reducible repeat (first | refine blk_drewN ?_ _ | refine blk_drew ?_ | refine blk_alloc ?_ _)); exact BK141.out) hb); have n1_ := Aside0.mk (below_step (by repeat (first | (with_reducible first | exact HB.out | apply below_alloc | apply pw_below_drewN | apply below_drew1 | refine below_set ?_ GE141.out) | exact HB.out)) hb); have n2_ := Aside0.mk (hbox); have n3_ := Aside0.mk ((by rw [hg]; exact (below_size (by repeat (first | (with_reducible first | exact HB.out | apply below_alloc | apply pw_below_drewN | apply below_drew1 | refine below_set ?_ GE141.out) | exact HB.out))) : w.heap.size ≤ gb143)); have n4_ := Aside0.mk ((by rw [hg]; exact (below_size (by repeat (first | (with_reducible first | exact HB.out | apply below_alloc | apply pw_below_drewN | apply below_drew1 | refine below_set ?_ GE141.out) | exact HB.out))) : w.heap.size ≤ gb143)); have n5_ := Aside0.mk ((by rw [hg]; exact Nat.ne_of_lt (blk_lt (g := gb141) (o := .cells #[.string (⟨#[]⟩ : ByteArray), .int .i64 0, .bool false] 43 (0, 0)) (by (with_reducible repeat (first | refine blk_drewN ?_ _ | refine blk_drew ?_ | refine blk_alloc ?_ _)); exact BK141.out)) : gb141 ≠ gb143)); have n6_ := Aside0.mk ((by rw [hg]; exact Nat.ne_of_gt (blk_lt (g := gb141) (o := .cells #[.string (⟨#[]⟩ : ByteArray), .int .i64 0, .bool false] 43 (0, 0)) (by (with_reducible repeat (first | refine blk_drewN ?_ _ | refine blk_drew ?_ | refine blk_alloc ?_ _)); exact BK141.out)) : gb143 ≠ gb141)); clear BK141; clear HB; have BK141 := n0_; have HB := n1_; have BK143 := n2_; have GW143 := n3_; have GE143 := n4_; have NB141_143 := n5_; have NB143_141 := n6_; clear n0_ n1_ n2_ n3_ n4_ n5_ n6_; clear hb hbox hg; have hnb10 := NB143_141.out; have hnc10 := NB141_143.out; have hcz11_0 : w9.cell? ⟨gb143, 0, none⟩ = some (.string (⟨#[]⟩ : ByteArray)) := (blk_cell BK143.out 0).trans rfl; have hcz11_1 : w9.cell? ⟨gb143, 1, none⟩ = some (.int .i64 0) := (blk_cell BK143.out 1).trans rfl; have hcz11_2 : w9.cell? ⟨gb143, 2, none⟩ = some (.bool false) := (blk_cell BK143.out 2).trans rfl; have hfz11_0 := blk_frozen BK143.out 0; have hfz11_1 := blk_frozen BK143.out 1; have hfz11_2 := blk_frozen BK143.out 2))
     (try simp only [Act.put, List.setIfInBounds_toArray, List.set_cons_zero, List.set_cons_succ])
     go_cut [] (fun wc => ∃ (kq : Nat) (x144002_6 : Bool), Aside0 (rf06_Is.j0 kq a0 t142 (a0.extract (t142 : Int).toNat a0.size) (a0.extract 0 (t142 : Int).toNat) 0 x144002_6 = some (r1, r2, r3, r4)) ∧ Aside0 (kq ≤ k) ∧ Aside0 (wc.heap[gb141]? = some (.cells #[.string (⟨#[]⟩ : ByteArray), .int .i64 0, .bool false] 43 (0, 0))) ∧ Aside0 (wc.heap[gb143]? = some (.cells #[.string (a0.extract 0 (t142 : Int).toNat), .int .i64 0, .bool x144002_6] 43 (0, 0))) ∧ Aside0 (Below w.heap.size w wc))
     case first =>
      have H := HC7.out
      clear HC7
      by_cases c12 : (a0.extract (t142 : Int).toNat a0.size).toList = ([42] : List UInt8)
      · rw [if_pos c12] at H
        have c12b0 : ((a0.extract (t142 : Int).toNat a0.size).toList == ([42] : List UInt8)) = true := beq_iff_eq.mpr c12
        try (have c12b0s := c12b0; simp only [ByteArray.size_extract, Nat.min_self] at c12b0s)
        have c12b1 : ((a0.extract (t142 : Int).toNat a0.size).toList != ([42] : List UInt8)) = false := bne_eq_false_iff_eq.mpr c12
        try (have c12b1s := c12b1; simp only [ByteArray.size_extract, Nat.min_self] at c12b1s)
        clear c12
        (first | rw [c12b0] | (simp only [i64_w, i32_w]; rw [c12b0]) | skip)
        have H' := Aside0.mk H
        clear H
        have hnb13 := NB143_141.out
        have hnc13 := NB141_143.out
        have hcz14_0 : w9.cell? ⟨gb143, 0, none⟩ = some (.string (⟨#[]⟩ : ByteArray)) := (blk_cell BK143.out 0).trans rfl
        have hcz14_1 : w9.cell? ⟨gb143, 1, none⟩ = some (.int .i64 0) := (blk_cell BK143.out 1).trans rfl
        have hcz14_2 : w9.cell? ⟨gb143, 2, none⟩ = some (.bool false) := (blk_cell BK143.out 2).trans rfl
        have hfz14_0 := blk_frozen BK143.out 0
        have hfz14_1 := blk_frozen BK143.out 1
        have hfz14_2 := blk_frozen BK143.out 2
        go_wp2
        go_meet
        case rel => exact ⟨_, (true), H', ⟨by first | omega | exact Nat.le_refl _⟩, ⟨by (with_reducible repeat (first | refine blk_drewN ?_ _ | refine blk_drew ?_ | refine blk_alloc ?_ _)); refine blk_far ?_ NB141_143.out _; (with_reducible repeat (first | refine blk_drewN ?_ _ | refine blk_drew ?_ | refine blk_alloc ?_ _)); refine blk_far ?_ NB141_143.out _; (with_reducible repeat (first | refine blk_drewN ?_ _ | refine blk_drew ?_ | refine blk_alloc ?_ _)); refine blk_far ?_ NB141_143.out _; (with_reducible repeat (first | refine blk_drewN ?_ _ | refine blk_drew ?_ | refine blk_alloc ?_ _)); refine blk_far ?_ NB141_143.out _; (with_reducible repeat (first | refine blk_drewN ?_ _ | refine blk_drew ?_ | refine blk_alloc ?_ _)); exact BK141.out⟩, ⟨by (with_reducible repeat (first | refine blk_drewN ?_ _ | refine blk_drew ?_ | refine blk_alloc ?_ _)); refine blk_put (cs := #[.string (a0.extract 0 (t142 : Int).toNat), .int .i64 0, .bool false]) ?_ 2 _ rfl; (with_reducible repeat (first | refine blk_drewN ?_ _ | refine blk_drew ?_ | refine blk_alloc ?_ _)); refine blk_put (cs := #[.string (a0.extract 0 (t142 : Int).toNat), .int .i64 0, .bool false]) ?_ 2 _ rfl; (with_reducible repeat (first | refine blk_drewN ?_ _ | refine blk_drew ?_ | refine blk_alloc ?_ _)); refine blk_put (cs := #[.string (a0.extract 0 (t142 : Int).toNat), .int .i64 0, .bool false]) ?_ 1 _ rfl; (with_reducible repeat (first | refine blk_drewN ?_ _ | refine blk_drew ?_ | refine blk_alloc ?_ _)); refine blk_put (cs := #[.string (⟨#[]⟩ : ByteArray), .int .i64 0, .bool false]) ?_ 0 _ rfl; (with_reducible repeat (first | refine blk_drewN ?_ _ | refine blk_drew ?_ | refine blk_alloc ?_ _)); exact BK143.out⟩, ⟨by repeat (first | (with_reducible first | exact HB.out | apply below_alloc | apply pw_below_drewN | apply below_drew1 | refine below_set ?_ GE141.out | refine below_set ?_ GE143.out) | exact HB.out)⟩⟩
      · rw [if_neg c12] at H
        have c12b0 : ((a0.extract (t142 : Int).toNat a0.size).toList == ([42] : List UInt8)) = false := beq_eq_false_iff_ne.mpr c12
        try (have c12b0s := c12b0; simp only [ByteArray.size_extract, Nat.min_self] at c12b0s)
        have c12b1 : ((a0.extract (t142 : Int).toNat a0.size).toList != ([42] : List UInt8)) = true := bne_iff_ne.mpr c12
        try (have c12b1s := c12b1; simp only [ByteArray.size_extract, Nat.min_self] at c12b1s)
        (first | rw [c12b0] | (simp only [i64_w, i32_w]; rw [c12b0]) | skip)
        have H' := Aside0.mk H
        clear H
        go_wp2
        go_meet
        case rel => exact ⟨_, (false), H', ⟨by first | omega | exact Nat.le_refl _⟩, ⟨by (with_reducible repeat (first | refine blk_drewN ?_ _ | refine blk_drew ?_ | refine blk_alloc ?_ _)); refine blk_far ?_ NB141_143.out _; (with_reducible repeat (first | refine blk_drewN ?_ _ | refine blk_drew ?_ | refine blk_alloc ?_ _)); refine blk_far ?_ NB141_143.out _; (with_reducible repeat (first | refine blk_drewN ?_ _ | refine blk_drew ?_ | refine blk_alloc ?_ _)); refine blk_far ?_ NB141_143.out _; (with_reducible repeat (first | refine blk_drewN ?_ _ | refine blk_drew ?_ | refine blk_alloc ?_ _)); exact BK141.out⟩, ⟨by (with_reducible repeat (first | refine blk_drewN ?_ _ | refine blk_drew ?_ | refine blk_alloc ?_ _)); refine blk_put (cs := #[.string (a0.extract 0 (t142 : Int).toNat), .int .i64 0, .bool false]) ?_ 2 _ rfl; (with_reducible repeat (first | refine blk_drewN ?_ _ | refine blk_drew ?_ | refine blk_alloc ?_ _)); refine blk_put (cs := #[.string (a0.extract 0 (t142 : Int).toNat), .int .i64 0, .bool false]) ?_ 1 _ rfl; (with_reducible repeat (first | refine blk_drewN ?_ _ | refine blk_drew ?_ | refine blk_alloc ?_ _)); refine blk_put (cs := #[.string (⟨#[]⟩ : ByteArray), .int .i64 0, .bool false]) ?_ 0 _ rfl; (with_reducible repeat (first | refine blk_drewN ?_ _ | refine blk_drew ?_ | refine blk_alloc ?_ _)); exact BK143.out⟩, ⟨by repeat (first | (with_reducible first | exact HB.out | apply below_alloc | apply pw_below_drewN | apply below_drew1 | refine below_set ?_ GE141.out | refine below_set ?_ GE143.out) | exact HB.out)⟩⟩
     case rest =>
      clear HC7
      try clear c1
      try clear p2
      try clear c3
      try clear c3b0
      try clear c3b1
      try clear c4
      try clear c4b0
      try clear c4b1
      try clear c5
      try clear c5b0
      try clear c6
      try clear c6b0
      try clear c8
      try clear c10
      try clear c12
      try clear c12b0
      try clear c12b1
      try clear c13
      try clear hcz11_0
      try clear hcz11_1
      try clear hcz11_2
      try clear hcz14_0
      try clear hcz14_1
      try clear hcz14_2
      try clear hfz11_0
      try clear hfz11_1
      try clear hfz11_2
      try clear hfz14_0
      try clear hfz14_1
      try clear hfz14_2
      obtain ⟨kq, x144002_6, HA, HJ6, BK141, BK143, HB⟩ := hcut
      cases kq with
      | zero => exact absurd HA.out (by simp [rf06_Is.j0])
      | succ kj6 =>
       have H := HA.out
       clear HA
       simp only [rf06_Is.j0] at H
       have H' := Aside0.mk H
       clear H
       go_wp2
       go_loopg [7] kj6 (fun kq v7 w' => ∃ (x7_2 : Int) (x144001_2 : Int), v7 = .int .i64 x7_2 ∧ Aside0 (rf06_Is.l0 kq a0 t142 (a0.extract (t142 : Int).toNat a0.size) x7_2 (a0.extract 0 (t142 : Int).toNat) x144001_2 x144002_6 = some (r1, r2, r3, r4)) ∧ Aside0 (kq ≤ kj6) ∧ Aside0 (w'.heap[gb141]? = some (.cells #[.string (⟨#[]⟩ : ByteArray), .int .i64 0, .bool false] 43 (0, 0))) ∧ Aside0 (w'.heap[gb143]? = some (.cells #[.string (a0.extract 0 (t142 : Int).toNat), .int .i64 x144001_2, .bool x144002_6] 43 (0, 0))) ∧ Aside0 (Below w.heap.size w w'))
       case atStart => exact ⟨(1), (0), (by first | rfl | (simp; done) | (simp [*]; done)), H', ⟨Nat.le_refl _⟩, ⟨by (with_reducible repeat (first | refine blk_drewN ?_ _ | refine blk_drew ?_ | refine blk_alloc ?_ _)); exact BK141.out⟩, ⟨by (with_reducible repeat (first | refine blk_drewN ?_ _ | refine blk_drew ?_ | refine blk_alloc ?_ _)); exact BK143.out⟩, ⟨by repeat (first | (with_reducible first | exact HB.out | apply below_alloc | apply pw_below_drewN | apply below_drew1 | refine below_set ?_ GE141.out | refine below_set ?_ GE143.out) | exact HB.out)⟩⟩
       case round =>
        clear H'
        try clear c1
        try clear p2
        try clear c3
        try clear c3b0
        try clear c3b1
        try clear c4
        try clear c4b0
        try clear c4b1
        try clear c5
        try clear c5b0
        try clear c6
        try clear c6b0
        try clear c8
        try clear c10
        try clear c12
        try clear c12b0
        try clear c12b1
        try clear c13
        try clear hcz11_0
        try clear hcz11_1
        try clear hcz11_2
        try clear hcz14_0
        try clear hcz14_1
        try clear hcz14_2
        try clear hfz11_0
        try clear hfz11_1
        try clear hfz11_2
        try clear hfz14_0
        try clear hfz14_1
        try clear hfz14_2
        try clear p2
        obtain ⟨x7_2, x144001_2, rfl, HA, HK2, BK141, BK143, HB⟩ := hrel
        cases gk with
        | zero => exact absurd HA.out (by simp [rf06_Is.l0])
        | succ k2 =>
         have H := HA.out
         clear HA
         simp only [rf06_Is.l0] at H
         by_cases c15 : x7_2 < ((a0.extract (t142 : Int).toNat a0.size).size : Int)
         · rw [if_pos c15] at H
           have c15b0 : decide (x7_2 < ((a0.extract (t142 : Int).toNat a0.size).size : Int)) = true := decide_eq_true c15
           try (have c15b0s := c15b0; simp only [ByteArray.size_extract, Nat.min_self] at c15b0s)
           clear c15
           by_cases c16 : x7_2 < 6
           · rw [if_pos c16] at H
             have c16b0 : decide (x7_2 < 6) = true := decide_eq_true c16
             clear c16
             by_cases c17 : 0 ≤ x7_2
             · rw [if_pos c17] at H
               have c17b0 : decide (0 ≤ x7_2) = true := decide_eq_true c17
               clear c17
               have H' := Aside0.mk H
               clear H
               try go_wp2
               have n0_ := Aside0.mk (blk_drew BK141.out)
               have n1_ := Aside0.mk (blk_drew BK143.out)
               have n2_ := Aside0.mk (below_drew1 HB.out)
               clear BK141
               clear BK143
               clear HB
               have BK141 := n0_
               have BK143 := n1_
               have HB := n2_
               clear n0_ n1_ n2_
               have p18 : 0 ≤ (x7_2 : Int) := of_decide_eq_true (by first | (with_reducible assumption) | assumption)
               have q18 : x7_2 < ((a0.extract (t142 : Int).toNat a0.size).size : Int) := of_decide_eq_true (by first | (with_reducible assumption) | assumption)
               try (have q18s := q18; simp only [ByteArray.size_extract, Nat.min_self] at q18s)
               have hx18 := bt_at (a0.extract (t142 : Int).toNat a0.size) x7_2
               replace p18 := eq_true p18
               replace q18 := eq_true q18
               refine start_ (n := 11) (S := fun w' => w'.cell? ⟨gb143, 0, none⟩ = some (.string (a0.extract 0 (t142 : Int).toNat)) ∧ w'.cell? ⟨gb143, 1, none⟩ = some (.int .i64 x144001_2) ∧ w'.cell? ⟨gb143, 2, none⟩ = some (.bool x144002_6)) (ds := [10]) #[false, false, false, false, false, false, false, false, false, false, false] (by kernel_rfl) rfl rfl ⟨(blk_cell BK143.out 0).trans rfl, (blk_cell BK143.out 1).trans rfl, (blk_cell BK143.out 2).trans rfl⟩ (fun hHeld => ?_); refine with_tabW rf06_Is.tab9 rf06_Is.bits9 (fun HT_ HW_ => ?_)
               generalize wr.drew = w19 at BK141 BK143 HB hHeld ⊢
               refine pure_ (i := 0) (N := some 30) (v := ?_) (a' := ?_) #[true, false, false, false, false, false, false, false, false, false, false] rfl rfl (any_of HT_.out (by kernel_rfl)) (fun _ _ _ h => h) (Or.inl ⟨by rfl, ?_⟩) ?_ ?_
               rotate_left
               · intro w'
                 go_simp
                 with_reducible rfl
               rotate_left
               · simp only [Act.put, List.setIfInBounds_toArray, List.set_cons_zero, List.set_cons_succ, i64_w, i32_w]
                 rfl
               refine pure_ (i := 3) (N := some 33) (v := ?_) (a' := ?_) #[true, false, false, true, false, false, false, false, false, false, false] rfl rfl (any_of HT_.out (by kernel_rfl)) (fun _ _ _ h => h) (Or.inl ⟨by rfl, ?_⟩) ?_ ?_
               rotate_left
               · intro w'
                 go_simp
                 with_reducible rfl
               rotate_left
               · simp only [Act.put, List.setIfInBounds_toArray, List.set_cons_zero, List.set_cons_succ, i64_w, i32_w]
                 rfl
               refine pure_ (i := 4) (N := some 34) (v := ?_) (a' := ?_) #[true, false, false, true, true, false, false, false, false, false, false] rfl rfl (any_of HT_.out (by kernel_rfl)) (fun _ _ _ h => h) (Or.inl ⟨by rfl, ?_⟩) ?_ ?_
               rotate_left
               · intro w'
                 go_simp
                 with_reducible rfl
               rotate_left
               · simp only [Act.put, List.setIfInBounds_toArray, List.set_cons_zero, List.set_cons_succ, i64_w, i32_w]
                 rfl
               refine take_ (i := 1) (N := some 31) (v := ?_) (a' := ?_) #[true, true, false, true, true, false, false, false, false, false, false] rfl rfl (take_ofW HT_.out HW_.out (by kernel_rfl)) (fun _ _ _ h => h) (Or.inl ⟨by rfl, ?_⟩) hHeld ?_ ?_
               rotate_left
               · rintro w' ⟨s0, s1, s2⟩
                 go_simp
                 with_reducible rfl
               rotate_left
               · simp only [Act.put, List.setIfInBounds_toArray, List.set_cons_zero, List.set_cons_succ, i64_w, i32_w]
                 rfl
               refine pure_ (i := 2) (N := some 32) (v := ?_) (a' := ?_) #[true, true, true, true, true, false, false, false, false, false, false] rfl rfl (any_of HT_.out (by kernel_rfl)) (fun _ _ _ h => h) (Or.inl ⟨by rfl, ?_⟩) ?_ ?_
               rotate_left
               · intro w'
                 go_simp
                 with_reducible rfl
               rotate_left
               · simp only [Act.put, List.setIfInBounds_toArray, List.set_cons_zero, List.set_cons_succ, i64_w, i32_w]
                 rfl
               refine take_ (i := 5) (N := some 35) (v := ?_) (a' := ?_) #[true, true, true, true, true, true, false, false, false, false, false] rfl rfl (take_ofW HT_.out HW_.out (by kernel_rfl)) (fun _ _ _ h => h) (Or.inl ⟨by rfl, ?_⟩) hHeld ?_ ?_
               rotate_left
               · rintro w' ⟨s0, s1, s2⟩
                 go_simp
                 with_reducible rfl
               rotate_left
               · simp only [Act.put, List.setIfInBounds_toArray, List.set_cons_zero, List.set_cons_succ, i64_w, i32_w]
                 rfl
               refine pure_ (i := 6) (N := some 36) (v := ?_) (a' := ?_) #[true, true, true, true, true, true, true, false, false, false, false] rfl rfl (any_of HT_.out (by kernel_rfl)) (fun _ _ _ h => h) (Or.inl ⟨by rfl, ?_⟩) ?_ ?_
               rotate_left
               · intro w'
                 go_simp
                 with_reducible rfl
               rotate_left
               · simp only [Act.put, List.setIfInBounds_toArray, List.set_cons_zero, List.set_cons_succ, i64_w, i32_w]
                 rfl
               refine pure_ (i := 7) (N := some 37) (v := ?_) (a' := ?_) #[true, true, true, true, true, true, true, true, false, false, false] rfl rfl (any_of HT_.out (by kernel_rfl)) (fun _ _ _ h => h) (Or.inl ⟨by rfl, ?_⟩) ?_ ?_
               rotate_left
               · intro w'
                 go_simp
                 with_reducible rfl
               rotate_left
               · simp only [Act.put, List.setIfInBounds_toArray, List.set_cons_zero, List.set_cons_succ, i64_w, i32_w]
                 rfl
               refine pure_ (i := 8) (N := some 38) (v := ?_) (a' := ?_) #[true, true, true, true, true, true, true, true, true, false, false] rfl rfl (any_of HT_.out (by kernel_rfl)) (fun _ _ _ h => h) (Or.inl ⟨by rfl, ?_⟩) ?_ ?_
               rotate_left
               · intro w'
                 go_simp
                 with_reducible rfl
               rotate_left
               · simp only [Act.put, List.setIfInBounds_toArray, List.set_cons_zero, List.set_cons_succ, i64_w, i32_w]
                 rfl
               refine pure_ (i := 9) (N := some 39) (v := ?_) (a' := ?_) #[true, true, true, true, true, true, true, true, true, true, false] rfl rfl (any_of HT_.out (by kernel_rfl)) (fun _ _ _ h => h) (Or.inl ⟨by rfl, ?_⟩) ?_ ?_
               rotate_left
               · intro w'
                 go_simp
                 with_reducible rfl
               rotate_left
               · simp only [Act.put, List.setIfInBounds_toArray, List.set_cons_zero, List.set_cons_succ, i64_w, i32_w]
                 rfl
               refine last_ (i := 10) (N := none) #[true, true, true, true, true, true, true, true, true, true, true] rfl rfl (one_of HT_.out (by kernel_rfl)) (by decide) (fun K hK => ?_)
               have hs20 : w19.cell? ⟨gb143, 1, none⟩ = some (.int .i64 x144001_2) := (blk_cell BK143.out 1).trans rfl
               have hfs20 := blk_frozen BK143.out 1
               have hns20_0 := NB141_143.out
               have hms20_0 := NB143_141.out
               refine skip_ (w1 := ?_) (by rfl) rfl ?_ ?_
               rotate_left
               · go_simp
                 rfl
               refine hK.out _ _ ?_
               clear hK K
               refine done_ (done_of HT_.out (by kernel_rfl)) ?_
               try go_wp2
               go_roundg k2
               case measure => have := HJ6.out; have := HK2.out; omega
               case rel => exact ⟨(wrap64 (x7_2 + 1)), (wrap64 ((wrap64 ((wrap64 (10 * x144001_2)) + (wrap64 (bt (a0.extract (t142 : Int).toNat a0.size) x7_2)))) - 48)), (by first | rfl | (simp; done) | (simp [*]; done)), H', ⟨by have := HJ6.out; have := HK2.out; omega⟩, ⟨by (with_reducible repeat (first | refine blk_drewN ?_ _ | refine blk_drew ?_ | refine blk_alloc ?_ _)); refine blk_far ?_ NB141_143.out _; (with_reducible repeat (first | refine blk_drewN ?_ _ | refine blk_drew ?_ | refine blk_alloc ?_ _)); exact BK141.out⟩, ⟨by (with_reducible repeat (first | refine blk_drewN ?_ _ | refine blk_drew ?_ | refine blk_alloc ?_ _)); refine blk_put (cs := #[.string (a0.extract 0 (t142 : Int).toNat), .int .i64 x144001_2, .bool x144002_6]) ?_ 1 _ rfl; (with_reducible repeat (first | refine blk_drewN ?_ _ | refine blk_drew ?_ | refine blk_alloc ?_ _)); exact BK143.out⟩, ⟨by repeat (first | (with_reducible first | exact HB.out | apply below_alloc | apply pw_below_drewN | apply below_drew1 | refine below_set ?_ GE141.out | refine below_set ?_ GE143.out) | exact HB.out)⟩⟩
             · rw [if_neg c17] at H
               exact absurd H (by simp)
           · rw [if_neg c16] at H
             have c16b0 : decide (x7_2 < 6) = false := decide_eq_false c16
             clear c16
             by_cases c21 : t142 > 0
             · rw [if_pos c21] at H
               have c21b0 : decide (0 < t142) = true := decide_eq_true c21
               clear c21
               replace H := Option.bind_eq_some_iff.mp H
               obtain ⟨t144, A220, H⟩ := H
               replace H : (if t144 = true then ((rf06_Put.f k2 (a0.extract 0 (t142 : Int).toNat) x144001_2 x144002_6).bind fun t145 => (some ((a0.extract 0 (t142 : Int).toNat), x144001_2, x144002_6, (t145.toList == a0.toList)))) else (some ((a0.extract 0 (t142 : Int).toNat), x144001_2, x144002_6, false))) = some (r1, r2, r3, r4) := H
               have A22 := Aside0.mk A220
               clear A220
               by_cases c23 : t144 = true
               · subst c23
                 have H1 : ((rf06_Put.f k2 (a0.extract 0 (t142 : Int).toNat) x144001_2 x144002_6).bind fun t145 => (some ((a0.extract 0 (t142 : Int).toNat), x144001_2, x144002_6, (t145.toList == a0.toList)))) = some (r1, r2, r3, r4) := by rw [if_pos rfl] at H; exact H
                 clear H
                 have H := H1
                 clear H1
                 replace H := Option.bind_eq_some_iff.mp H
                 obtain ⟨t145, A240, H⟩ := H
                 replace H : (some ((a0.extract 0 (t142 : Int).toNat), x144001_2, x144002_6, (t145.toList == a0.toList))) = some (r1, r2, r3, r4) := H
                 have A24 := Aside0.mk A240
                 clear A240
                 simp only [Option.some.injEq, Prod.mk.injEq] at H
                 obtain ⟨rfl, rfl, rfl, rfl⟩ := H
                 try go_wp2
                 have n0_ := Aside0.mk (blk_drew BK141.out)
                 have n1_ := Aside0.mk (blk_drew BK143.out)
                 have n2_ := Aside0.mk (below_drew1 HB.out)
                 clear BK141
                 clear BK143
                 clear HB
                 have BK141 := n0_
                 have BK143 := n1_
                 have HB := n2_
                 clear n0_ n1_ n2_
                 refine start_ (n := 15) (S := fun w' => w'.cell? ⟨gb143, 0, none⟩ = some (.string (a0.extract 0 (t142 : Int).toNat)) ∧ w'.cell? ⟨gb143, 1, none⟩ = some (.int .i64 x144001_2) ∧ w'.cell? ⟨gb143, 2, none⟩ = some (.bool x144002_6)) (ds := []) #[false, false, false, false, false, false, false, false, false, false, false, false, false, false, false] (by kernel_rfl) rfl rfl ⟨(blk_cell BK143.out 0).trans rfl, (blk_cell BK143.out 1).trans rfl, (blk_cell BK143.out 2).trans rfl⟩ (fun hHeld => ?_); refine with_tabW rf06_Is.tab10 rf06_Is.bits10 (fun HT_ HW_ => ?_)
                 generalize wr.drew = w25 at BK141 BK143 HB hHeld ⊢
                 refine pure_ (i := 1) (N := some 41) (v := ?_) (a' := ?_) #[false, true, false, false, false, false, false, false, false, false, false, false, false, false, false] rfl rfl (any_of HT_.out (by kernel_rfl)) (fun _ _ _ h => h) (Or.inl ⟨by rfl, ?_⟩) ?_ ?_
                 rotate_left
                 · intro w'
                   go_simp
                   with_reducible rfl
                 rotate_left
                 · simp only [Act.put, List.setIfInBounds_toArray, List.set_cons_zero, List.set_cons_succ, i64_w, i32_w]
                   rfl
                 refine pure_ (i := 2) (N := some 42) (v := ?_) (a' := ?_) #[false, true, true, false, false, false, false, false, false, false, false, false, false, false, false] rfl rfl (any_of HT_.out (by kernel_rfl)) (fun _ _ _ h => h) (Or.inl ⟨by rfl, ?_⟩) ?_ ?_
                 rotate_left
                 · intro w'
                   go_simp
                   with_reducible rfl
                 rotate_left
                 · simp only [Act.put, List.setIfInBounds_toArray, List.set_cons_zero, List.set_cons_succ, i64_w, i32_w]
                   rfl
                 refine pure_ (i := 3) (N := some 43) (v := ?_) (a' := ?_) #[false, true, true, true, false, false, false, false, false, false, false, false, false, false, false] rfl rfl (any_of HT_.out (by kernel_rfl)) (fun _ _ _ h => h) (Or.inl ⟨by rfl, ?_⟩) ?_ ?_
                 rotate_left
                 · intro w'
                   go_simp
                   with_reducible rfl
                 rotate_left
                 · simp only [Act.put, List.setIfInBounds_toArray, List.set_cons_zero, List.set_cons_succ, i64_w, i32_w]
                   rfl
                 refine take_ (i := 0) (N := some 40) (v := ?_) (a' := ?_) #[true, true, true, true, false, false, false, false, false, false, false, false, false, false, false] rfl rfl (take_ofW HT_.out HW_.out (by kernel_rfl)) (fun _ _ _ h => h) (Or.inl ⟨by rfl, ?_⟩) hHeld ?_ ?_
                 rotate_left
                 · rintro w' ⟨s0, s1, s2⟩
                   go_simp
                   with_reducible rfl
                 rotate_left
                 · simp only [Act.put, List.setIfInBounds_toArray, List.set_cons_zero, List.set_cons_succ, i64_w, i32_w]
                   rfl
                 refine take_ (i := 4) (N := some 44) (v := ?_) (a' := ?_) #[true, true, true, true, true, false, false, false, false, false, false, false, false, false, false] rfl rfl (take_ofW HT_.out HW_.out (by kernel_rfl)) (fun _ _ _ h => h) (Or.inl ⟨by rfl, ?_⟩) hHeld ?_ ?_
                 rotate_left
                 · rintro w' ⟨s0, s1, s2⟩
                   go_simp
                   with_reducible rfl
                 rotate_left
                 · simp only [Act.put, List.setIfInBounds_toArray, List.set_cons_zero, List.set_cons_succ, i64_w, i32_w]
                   rfl
                 refine one_ (i := 5) (N := some 45) #[true, true, true, true, true, true, false, false, false, false, false, false, false, false, false] rfl rfl (one_of HT_.out (by kernel_rfl)) (by decide) (fun K hK => ?_)
                 refine goes_ Tryz.func29 (by kernel_rfl) rfl #[.agg #[.string (a0.extract 0 (t142 : Int).toNat), .int .i64 x144001_2, .bool x144002_6]] (by rfl) rfl rfl (by (try simp only [List.map_toArray, List.map_cons, List.map_nil]); first | done | rfl | (simp only [List.length_drop, List.length_take]; rfl)) ?_
                 with_reducible refine (rf06_May.calls k2 (a0.extract 0 (t142 : Int).toNat) x144001_2 x144002_6 true _ A22.out).mono ?_
                 rintro e w26 ⟨rfl, hb⟩
                 refine ⟨_, rfl, ?_⟩
                 have n0_ := Aside0.mk (blk_below (g := gb141) (o := .cells #[.string (⟨#[]⟩ : ByteArray), .int .i64 0, .bool false] 43 (0, 0)) (by (with_reducible repeat (first | refine blk_drewN ?_ _ | refine blk_drew ?_ | refine blk_alloc ?_ _)); exact BK141.out) hb)
                 have n1_ := Aside0.mk (blk_below (g := gb143) (o := .cells #[.string (a0.extract 0 (t142 : Int).toNat), .int .i64 x144001_2, .bool x144002_6] 43 (0, 0)) (by (with_reducible repeat (first | refine blk_drewN ?_ _ | refine blk_drew ?_ | refine blk_alloc ?_ _)); exact BK143.out) hb)
                 have n2_ := Aside0.mk (below_step (by repeat (first | (with_reducible first | exact HB.out | apply below_alloc | apply pw_below_drewN | apply below_drew1 | refine below_set ?_ GE141.out | refine below_set ?_ GE143.out) | exact HB.out)) hb)
                 clear BK141
                 clear BK143
                 clear HB
                 have BK141 := n0_
                 have BK143 := n1_
                 have HB := n2_
                 clear n0_ n1_ n2_
                 (try clear hb)
                 (try clear hb2)
                 (try clear hk)
                 (try clear hi)
                 refine hK.out _ _ ⟨(blk_cell BK143.out 0).trans rfl, (blk_cell BK143.out 1).trans rfl, (blk_cell BK143.out 2).trans rfl⟩ (fun hHeld => ?_)
                 clear hK K
                 refine norm_ (a' := ?_) ?_ ?_
                 rotate_left
                 · show Act.put _ (some 45) _ = _
                   simp only [Act.put, List.setIfInBounds_toArray, List.set_cons_zero, List.set_cons_succ, i64_w, i32_w]
                   rfl
                 refine pure_ (i := 6) (N := some 46) (v := ?_) (a' := ?_) #[true, true, true, true, true, true, true, false, false, false, false, false, false, false, false] rfl rfl (any_of HT_.out (by kernel_rfl)) (fun _ _ _ h => h) (Or.inl ⟨by rfl, ?_⟩) ?_ ?_
                 rotate_left
                 · intro w'
                   go_simp
                   with_reducible rfl
                 rotate_left
                 · simp only [Act.put, List.setIfInBounds_toArray, List.set_cons_zero, List.set_cons_succ, i64_w, i32_w]
                   rfl
                 refine pure_ (i := 7) (N := some 47) (v := ?_) (a' := ?_) #[true, true, true, true, true, true, true, true, false, false, false, false, false, false, false] rfl rfl (any_of HT_.out (by kernel_rfl)) (fun _ _ _ h => h) (Or.inl ⟨by rfl, ?_⟩) ?_ ?_
                 rotate_left
                 · intro w'
                   go_simp
                   with_reducible rfl
                 rotate_left
                 · simp only [Act.put, List.setIfInBounds_toArray, List.set_cons_zero, List.set_cons_succ, i64_w, i32_w]
                   rfl
                 refine pure_ (i := 10) (N := some 50) (v := ?_) (a' := ?_) #[true, true, true, true, true, true, true, true, false, false, true, false, false, false, false] rfl rfl (any_of HT_.out (by kernel_rfl)) (fun _ _ _ h => h) (Or.inl ⟨by rfl, ?_⟩) ?_ ?_
                 rotate_left
                 · intro w'
                   go_simp
                   with_reducible rfl
                 rotate_left
                 · simp only [Act.put, List.setIfInBounds_toArray, List.set_cons_zero, List.set_cons_succ, i64_w, i32_w]
                   rfl
                 refine take_ (i := 8) (N := some 48) (v := ?_) (a' := ?_) #[true, true, true, true, true, true, true, true, true, false, true, false, false, false, false] rfl rfl (take_ofW HT_.out HW_.out (by kernel_rfl)) (fun _ _ _ h => h) (Or.inl ⟨by rfl, ?_⟩) hHeld ?_ ?_
                 rotate_left
                 · rintro w' ⟨s0, s1, s2⟩
                   go_simp
                   with_reducible rfl
                 rotate_left
                 · simp only [Act.put, List.setIfInBounds_toArray, List.set_cons_zero, List.set_cons_succ, i64_w, i32_w]
                   rfl
                 refine one_ (i := 9) (N := some 49) #[true, true, true, true, true, true, true, true, true, true, true, false, false, false, false] rfl rfl (one_of HT_.out (by kernel_rfl)) (by decide) (fun K hK => ?_)
                 refine goes_ Tryz.func34 (by kernel_rfl) rfl #[.agg #[.string (a0.extract 0 (t142 : Int).toNat), .int .i64 x144001_2, .bool x144002_6]] (by rfl) rfl rfl (by (try simp only [List.map_toArray, List.map_cons, List.map_nil]); first | done | rfl | (simp only [List.length_drop, List.length_take]; rfl)) ?_
                 with_reducible refine (rf06_Put.calls k2 (a0.extract 0 (t142 : Int).toNat) x144001_2 x144002_6 t145 _ A24.out).mono ?_
                 rintro e w27 ⟨rfl, hb⟩
                 refine ⟨_, rfl, ?_⟩
                 have n0_ := Aside0.mk (blk_below (g := gb141) (o := .cells #[.string (⟨#[]⟩ : ByteArray), .int .i64 0, .bool false] 43 (0, 0)) (by (with_reducible repeat (first | refine blk_drewN ?_ _ | refine blk_drew ?_ | refine blk_alloc ?_ _)); exact BK141.out) hb)
                 have n1_ := Aside0.mk (blk_below (g := gb143) (o := .cells #[.string (a0.extract 0 (t142 : Int).toNat), .int .i64 x144001_2, .bool x144002_6] 43 (0, 0)) (by (with_reducible repeat (first | refine blk_drewN ?_ _ | refine blk_drew ?_ | refine blk_alloc ?_ _)); exact BK143.out) hb)
                 have n2_ := Aside0.mk (below_step (by repeat (first | (with_reducible first | exact HB.out | apply below_alloc | apply pw_below_drewN | apply below_drew1 | refine below_set ?_ GE141.out | refine below_set ?_ GE143.out) | exact HB.out)) hb)
                 clear BK141
                 clear BK143
                 clear HB
                 have BK141 := n0_
                 have BK143 := n1_
                 have HB := n2_
                 clear n0_ n1_ n2_
                 (try clear hb)
                 (try clear hb2)
                 (try clear hk)
                 (try clear hi)
                 refine hK.out _ _ ⟨(blk_cell BK143.out 0).trans rfl, (blk_cell BK143.out 1).trans rfl, (blk_cell BK143.out 2).trans rfl⟩ (fun hHeld => ?_)
                 clear hK K
                 refine norm_ (a' := ?_) ?_ ?_
                 rotate_left
                 · show Act.put _ (some 49) _ = _
                   simp only [Act.put, List.setIfInBounds_toArray, List.set_cons_zero, List.set_cons_succ, i64_w, i32_w]
                   rfl
                 refine pure_ (i := 11) (N := some 51) (v := ?_) (a' := ?_) #[true, true, true, true, true, true, true, true, true, true, true, true, false, false, false] rfl rfl (any_of HT_.out (by kernel_rfl)) (fun _ _ _ h => h) (Or.inl ⟨by rfl, ?_⟩) ?_ ?_
                 rotate_left
                 · intro w'
                   go_simp
                   with_reducible rfl
                 rotate_left
                 · simp only [Act.put, List.setIfInBounds_toArray, List.set_cons_zero, List.set_cons_succ, i64_w, i32_w]
                   rfl
                 refine pure_ (i := 12) (N := some 52) (v := ?_) (a' := ?_) #[true, true, true, true, true, true, true, true, true, true, true, true, true, false, false] rfl rfl (any_of HT_.out (by kernel_rfl)) (fun _ _ _ h => h) (Or.inl ⟨by rfl, ?_⟩) ?_ ?_
                 rotate_left
                 · intro w'
                   go_simp
                   with_reducible rfl
                 rotate_left
                 · simp only [Act.put, List.setIfInBounds_toArray, List.set_cons_zero, List.set_cons_succ, i64_w, i32_w]
                   rfl
                 refine one_ (i := 13) (N := none) #[true, true, true, true, true, true, true, true, true, true, true, true, true, true, false] rfl rfl (one_of HT_.out (by kernel_rfl)) (by decide) (fun K hK => ?_)
                 have hs28 : w27.cell? ⟨gb141, 0, none⟩ = some (.string (⟨#[]⟩ : ByteArray)) := (blk_cell BK141.out 0).trans rfl
                 have hfs28 := blk_frozen BK141.out 0
                 have hns28_1 := NB143_141.out
                 have hms28_1 := NB141_143.out
                 have hs29 : w27.cell? ⟨gb141, 1, none⟩ = some (.int .i64 0) := (blk_cell BK141.out 1).trans rfl
                 have hfs29 := blk_frozen BK141.out 1
                 have hns29_1 := NB143_141.out
                 have hms29_1 := NB141_143.out
                 have hs30 : w27.cell? ⟨gb141, 2, none⟩ = some (.bool false) := (blk_cell BK141.out 2).trans rfl
                 have hfs30 := blk_frozen BK141.out 2
                 have hns30_1 := NB143_141.out
                 have hms30_1 := NB141_143.out
                 refine skip_ (w1 := ?_) (by rfl) rfl ?_ ?_
                 rotate_left
                 · go_simp
                   rfl
                 refine hK.out _ _ ⟨((cell_far (p := ⟨gb141, _, none⟩) NB143_141.out _).trans (((cell_far (p := ⟨gb141, _, none⟩) NB143_141.out _).trans (((cell_far (p := ⟨gb141, _, none⟩) NB143_141.out _).trans (hHeld.1)))))), ((cell_far (p := ⟨gb141, _, none⟩) NB143_141.out _).trans (((cell_far (p := ⟨gb141, _, none⟩) NB143_141.out _).trans (((cell_far (p := ⟨gb141, _, none⟩) NB143_141.out _).trans (hHeld.2.1)))))), ((cell_far (p := ⟨gb141, _, none⟩) NB143_141.out _).trans (((cell_far (p := ⟨gb141, _, none⟩) NB143_141.out _).trans (((cell_far (p := ⟨gb141, _, none⟩) NB143_141.out _).trans (hHeld.2.2))))))⟩ (fun hHeld => ?_)
                 clear hK K
                 refine pure_ (i := 14) (N := some 3) (v := ?_) (a' := ?_) #[true, true, true, true, true, true, true, true, true, true, true, true, true, true, true] rfl rfl (any_of HT_.out (by kernel_rfl)) (fun _ _ _ h => h) (Or.inl ⟨by rfl, ?_⟩) ?_ ?_
                 rotate_left
                 · intro w'
                   go_simp
                   with_reducible rfl
                 rotate_left
                 · simp only [Act.put, List.setIfInBounds_toArray, List.set_cons_zero, List.set_cons_succ, i64_w, i32_w]
                   rfl
                 refine done_ (done_of HT_.out (by kernel_rfl)) ?_
                 try go_wp2
                 refine bodyPost_ret (results_ct rfl _ _ gb141 43 #[.string (a0.extract 0 (t142 : Int).toNat), .int .i64 x144001_2, .bool x144002_6] (0, 0) _ rfl (by (with_reducible repeat (first | refine blk_drewN ?_ _ | refine blk_drew ?_ | refine blk_alloc ?_ _)); refine blk_put (cs := #[.string (a0.extract 0 (t142 : Int).toNat), .int .i64 x144001_2, .bool false]) ?_ 2 _ rfl; (with_reducible repeat (first | refine blk_drewN ?_ _ | refine blk_drew ?_ | refine blk_alloc ?_ _)); refine blk_put (cs := #[.string (a0.extract 0 (t142 : Int).toNat), .int .i64 0, .bool false]) ?_ 1 _ rfl; (with_reducible repeat (first | refine blk_drewN ?_ _ | refine blk_drew ?_ | refine blk_alloc ?_ _)); refine blk_put (cs := #[.string (⟨#[]⟩ : ByteArray), .int .i64 0, .bool false]) ?_ 0 _ rfl; (with_reducible repeat (first | refine blk_drewN ?_ _ | refine blk_drew ?_ | refine blk_alloc ?_ _)); exact BK141.out) Tryz.underlying43 rfl (by kernel_rfl)) rfl ?_
                 exact ⟨by first | rfl | (simp [errW_none, errW_some] <;> rfl) | (simp [*, errW_none, errW_some] <;> rfl), by repeat (first | (with_reducible first | exact HB.out | apply below_alloc | apply pw_below_drewN | apply below_drew1 | refine below_set ?_ GE141.out | refine below_set ?_ GE143.out) | exact HB.out)⟩
               · replace c23 := Bool.eq_false_iff.mpr c23
                 subst c23
                 have H1 : (some ((a0.extract 0 (t142 : Int).toNat), x144001_2, x144002_6, false)) = some (r1, r2, r3, r4) := by rw [if_neg (show ¬ (false = true) by decide)] at H; exact H
                 clear H
                 have H := H1
                 clear H1
                 simp only [Option.some.injEq, Prod.mk.injEq] at H
                 obtain ⟨rfl, rfl, rfl, rfl⟩ := H
                 try go_wp2
                 have n0_ := Aside0.mk (blk_drew BK141.out)
                 have n1_ := Aside0.mk (blk_drew BK143.out)
                 have n2_ := Aside0.mk (below_drew1 HB.out)
                 clear BK141
                 clear BK143
                 clear HB
                 have BK141 := n0_
                 have BK143 := n1_
                 have HB := n2_
                 clear n0_ n1_ n2_
                 refine start_ (n := 15) (S := fun w' => w'.cell? ⟨gb143, 0, none⟩ = some (.string (a0.extract 0 (t142 : Int).toNat)) ∧ w'.cell? ⟨gb143, 1, none⟩ = some (.int .i64 x144001_2) ∧ w'.cell? ⟨gb143, 2, none⟩ = some (.bool x144002_6)) (ds := []) #[false, false, false, false, false, false, false, false, false, false, false, false, false, false, false] (by kernel_rfl) rfl rfl ⟨(blk_cell BK143.out 0).trans rfl, (blk_cell BK143.out 1).trans rfl, (blk_cell BK143.out 2).trans rfl⟩ (fun hHeld => ?_); refine with_tabW rf06_Is.tab10 rf06_Is.bits10 (fun HT_ HW_ => ?_)
                 generalize wr.drew = w31 at BK141 BK143 HB hHeld ⊢
                 refine pure_ (i := 1) (N := some 41) (v := ?_) (a' := ?_) #[false, true, false, false, false, false, false, false, false, false, false, false, false, false, false] rfl rfl (any_of HT_.out (by kernel_rfl)) (fun _ _ _ h => h) (Or.inl ⟨by rfl, ?_⟩) ?_ ?_
                 rotate_left
                 · intro w'
                   go_simp
                   with_reducible rfl
                 rotate_left
                 · simp only [Act.put, List.setIfInBounds_toArray, List.set_cons_zero, List.set_cons_succ, i64_w, i32_w]
                   rfl
                 refine pure_ (i := 2) (N := some 42) (v := ?_) (a' := ?_) #[false, true, true, false, false, false, false, false, false, false, false, false, false, false, false] rfl rfl (any_of HT_.out (by kernel_rfl)) (fun _ _ _ h => h) (Or.inl ⟨by rfl, ?_⟩) ?_ ?_
                 rotate_left
                 · intro w'
                   go_simp
                   with_reducible rfl
                 rotate_left
                 · simp only [Act.put, List.setIfInBounds_toArray, List.set_cons_zero, List.set_cons_succ, i64_w, i32_w]
                   rfl
                 refine pure_ (i := 3) (N := some 43) (v := ?_) (a' := ?_) #[false, true, true, true, false, false, false, false, false, false, false, false, false, false, false] rfl rfl (any_of HT_.out (by kernel_rfl)) (fun _ _ _ h => h) (Or.inl ⟨by rfl, ?_⟩) ?_ ?_
                 rotate_left
                 · intro w'
                   go_simp
                   with_reducible rfl
                 rotate_left
                 · simp only [Act.put, List.setIfInBounds_toArray, List.set_cons_zero, List.set_cons_succ, i64_w, i32_w]
                   rfl
                 refine take_ (i := 0) (N := some 40) (v := ?_) (a' := ?_) #[true, true, true, true, false, false, false, false, false, false, false, false, false, false, false] rfl rfl (take_ofW HT_.out HW_.out (by kernel_rfl)) (fun _ _ _ h => h) (Or.inl ⟨by rfl, ?_⟩) hHeld ?_ ?_
                 rotate_left
                 · rintro w' ⟨s0, s1, s2⟩
                   go_simp
                   with_reducible rfl
                 rotate_left
                 · simp only [Act.put, List.setIfInBounds_toArray, List.set_cons_zero, List.set_cons_succ, i64_w, i32_w]
                   rfl
                 refine take_ (i := 4) (N := some 44) (v := ?_) (a' := ?_) #[true, true, true, true, true, false, false, false, false, false, false, false, false, false, false] rfl rfl (take_ofW HT_.out HW_.out (by kernel_rfl)) (fun _ _ _ h => h) (Or.inl ⟨by rfl, ?_⟩) hHeld ?_ ?_
                 rotate_left
                 · rintro w' ⟨s0, s1, s2⟩
                   go_simp
                   with_reducible rfl
                 rotate_left
                 · simp only [Act.put, List.setIfInBounds_toArray, List.set_cons_zero, List.set_cons_succ, i64_w, i32_w]
                   rfl
                 refine one_ (i := 5) (N := some 45) #[true, true, true, true, true, true, false, false, false, false, false, false, false, false, false] rfl rfl (one_of HT_.out (by kernel_rfl)) (by decide) (fun K hK => ?_)
                 refine goes_ Tryz.func29 (by kernel_rfl) rfl #[.agg #[.string (a0.extract 0 (t142 : Int).toNat), .int .i64 x144001_2, .bool x144002_6]] (by rfl) rfl rfl (by (try simp only [List.map_toArray, List.map_cons, List.map_nil]); first | done | rfl | (simp only [List.length_drop, List.length_take]; rfl)) ?_
                 with_reducible refine (rf06_May.calls k2 (a0.extract 0 (t142 : Int).toNat) x144001_2 x144002_6 false _ A22.out).mono ?_
                 rintro e w32 ⟨rfl, hb⟩
                 refine ⟨_, rfl, ?_⟩
                 have n0_ := Aside0.mk (blk_below (g := gb141) (o := .cells #[.string (⟨#[]⟩ : ByteArray), .int .i64 0, .bool false] 43 (0, 0)) (by (with_reducible repeat (first | refine blk_drewN ?_ _ | refine blk_drew ?_ | refine blk_alloc ?_ _)); exact BK141.out) hb)
                 have n1_ := Aside0.mk (blk_below (g := gb143) (o := .cells #[.string (a0.extract 0 (t142 : Int).toNat), .int .i64 x144001_2, .bool x144002_6] 43 (0, 0)) (by (with_reducible repeat (first | refine blk_drewN ?_ _ | refine blk_drew ?_ | refine blk_alloc ?_ _)); exact BK143.out) hb)
                 have n2_ := Aside0.mk (below_step (by repeat (first | (with_reducible first | exact HB.out | apply below_alloc | apply pw_below_drewN | apply below_drew1 | refine below_set ?_ GE141.out | refine below_set ?_ GE143.out) | exact HB.out)) hb)
                 clear BK141
                 clear BK143
                 clear HB
                 have BK141 := n0_
                 have BK143 := n1_
                 have HB := n2_
                 clear n0_ n1_ n2_
                 (try clear hb)
                 (try clear hb2)
                 (try clear hk)
                 (try clear hi)
                 refine hK.out _ _ ⟨(blk_cell BK143.out 0).trans rfl, (blk_cell BK143.out 1).trans rfl, (blk_cell BK143.out 2).trans rfl⟩ (fun hHeld => ?_)
                 clear hK K
                 refine norm_ (a' := ?_) ?_ ?_
                 rotate_left
                 · show Act.put _ (some 45) _ = _
                   simp only [Act.put, List.setIfInBounds_toArray, List.set_cons_zero, List.set_cons_succ, i64_w, i32_w]
                   rfl
                 refine pure_ (i := 6) (N := some 46) (v := ?_) (a' := ?_) #[true, true, true, true, true, true, true, false, false, false, false, false, false, false, false] rfl rfl (any_of HT_.out (by kernel_rfl)) (fun _ _ _ h => h) (Or.inl ⟨by rfl, ?_⟩) ?_ ?_
                 rotate_left
                 · intro w'
                   go_simp
                   with_reducible rfl
                 rotate_left
                 · simp only [Act.put, List.setIfInBounds_toArray, List.set_cons_zero, List.set_cons_succ, i64_w, i32_w]
                   rfl
                 refine pure_ (i := 7) (N := some 47) (v := ?_) (a' := ?_) #[true, true, true, true, true, true, true, true, false, false, false, false, false, false, false] rfl rfl (any_of HT_.out (by kernel_rfl)) (fun _ _ _ h => h) (Or.inl ⟨by rfl, ?_⟩) ?_ ?_
                 rotate_left
                 · intro w'
                   go_simp
                   with_reducible rfl
                 rotate_left
                 · simp only [Act.put, List.setIfInBounds_toArray, List.set_cons_zero, List.set_cons_succ, i64_w, i32_w]
                   rfl
                 refine pure_ (i := 8) (N := some 48) (v := undef) (a' := ?_) #[true, true, true, true, true, true, true, true, true, false, false, false, false, false, false] rfl rfl (any_of HT_.out (by kernel_rfl)) (fun _ _ _ h => h) (Or.inr ⟨by rfl, rfl⟩) ?_ ?_
                 rotate_left
                 · simp only [Act.put, List.setIfInBounds_toArray, List.set_cons_zero, List.set_cons_succ, i64_w, i32_w]
                   rfl
                 refine pure_ (i := 9) (N := some 49) (v := undef) (a' := ?_) #[true, true, true, true, true, true, true, true, true, true, false, false, false, false, false] rfl rfl (any_of HT_.out (by kernel_rfl)) (fun _ _ _ h => h) (Or.inr ⟨by rfl, rfl⟩) ?_ ?_
                 rotate_left
                 · simp only [Act.put, List.setIfInBounds_toArray, List.set_cons_zero, List.set_cons_succ, i64_w, i32_w]
                   rfl
                 refine pure_ (i := 10) (N := some 50) (v := undef) (a' := ?_) #[true, true, true, true, true, true, true, true, true, true, true, false, false, false, false] rfl rfl (any_of HT_.out (by kernel_rfl)) (fun _ _ _ h => h) (Or.inr ⟨by rfl, rfl⟩) ?_ ?_
                 rotate_left
                 · simp only [Act.put, List.setIfInBounds_toArray, List.set_cons_zero, List.set_cons_succ, i64_w, i32_w]
                   rfl
                 refine pure_ (i := 11) (N := some 51) (v := undef) (a' := ?_) #[true, true, true, true, true, true, true, true, true, true, true, true, false, false, false] rfl rfl (any_of HT_.out (by kernel_rfl)) (fun _ _ _ h => h) (Or.inr ⟨by rfl, rfl⟩) ?_ ?_
                 rotate_left
                 · simp only [Act.put, List.setIfInBounds_toArray, List.set_cons_zero, List.set_cons_succ, i64_w, i32_w]
                   rfl
                 refine pure_ (i := 12) (N := some 52) (v := ?_) (a' := ?_) #[true, true, true, true, true, true, true, true, true, true, true, true, true, false, false] rfl rfl (any_of HT_.out (by kernel_rfl)) (fun _ _ _ h => h) (Or.inl ⟨by rfl, ?_⟩) ?_ ?_
                 rotate_left
                 · intro w'
                   go_simp
                   with_reducible rfl
                 rotate_left
                 · simp only [Act.put, List.setIfInBounds_toArray, List.set_cons_zero, List.set_cons_succ, i64_w, i32_w]
                   rfl
                 refine one_ (i := 13) (N := none) #[true, true, true, true, true, true, true, true, true, true, true, true, true, true, false] rfl rfl (one_of HT_.out (by kernel_rfl)) (by decide) (fun K hK => ?_)
                 have hs33 : w32.cell? ⟨gb141, 0, none⟩ = some (.string (⟨#[]⟩ : ByteArray)) := (blk_cell BK141.out 0).trans rfl
                 have hfs33 := blk_frozen BK141.out 0
                 have hns33_1 := NB143_141.out
                 have hms33_1 := NB141_143.out
                 have hs34 : w32.cell? ⟨gb141, 1, none⟩ = some (.int .i64 0) := (blk_cell BK141.out 1).trans rfl
                 have hfs34 := blk_frozen BK141.out 1
                 have hns34_1 := NB143_141.out
                 have hms34_1 := NB141_143.out
                 have hs35 : w32.cell? ⟨gb141, 2, none⟩ = some (.bool false) := (blk_cell BK141.out 2).trans rfl
                 have hfs35 := blk_frozen BK141.out 2
                 have hns35_1 := NB143_141.out
                 have hms35_1 := NB141_143.out
                 refine skip_ (w1 := ?_) (by rfl) rfl ?_ ?_
                 rotate_left
                 · go_simp
                   rfl
                 refine hK.out _ _ ⟨((cell_far (p := ⟨gb141, _, none⟩) NB143_141.out _).trans (((cell_far (p := ⟨gb141, _, none⟩) NB143_141.out _).trans (((cell_far (p := ⟨gb141, _, none⟩) NB143_141.out _).trans (hHeld.1)))))), ((cell_far (p := ⟨gb141, _, none⟩) NB143_141.out _).trans (((cell_far (p := ⟨gb141, _, none⟩) NB143_141.out _).trans (((cell_far (p := ⟨gb141, _, none⟩) NB143_141.out _).trans (hHeld.2.1)))))), ((cell_far (p := ⟨gb141, _, none⟩) NB143_141.out _).trans (((cell_far (p := ⟨gb141, _, none⟩) NB143_141.out _).trans (((cell_far (p := ⟨gb141, _, none⟩) NB143_141.out _).trans (hHeld.2.2))))))⟩ (fun hHeld => ?_)
                 clear hK K
                 refine pure_ (i := 14) (N := some 3) (v := ?_) (a' := ?_) #[true, true, true, true, true, true, true, true, true, true, true, true, true, true, true] rfl rfl (any_of HT_.out (by kernel_rfl)) (fun _ _ _ h => h) (Or.inl ⟨by rfl, ?_⟩) ?_ ?_
                 rotate_left
                 · intro w'
                   go_simp
                   with_reducible rfl
                 rotate_left
                 · simp only [Act.put, List.setIfInBounds_toArray, List.set_cons_zero, List.set_cons_succ, i64_w, i32_w]
                   rfl
                 refine done_ (done_of HT_.out (by kernel_rfl)) ?_
                 try go_wp2
                 refine bodyPost_ret (results_ct rfl _ _ gb141 43 #[.string (a0.extract 0 (t142 : Int).toNat), .int .i64 x144001_2, .bool x144002_6] (0, 0) _ rfl (by (with_reducible repeat (first | refine blk_drewN ?_ _ | refine blk_drew ?_ | refine blk_alloc ?_ _)); refine blk_put (cs := #[.string (a0.extract 0 (t142 : Int).toNat), .int .i64 x144001_2, .bool false]) ?_ 2 _ rfl; (with_reducible repeat (first | refine blk_drewN ?_ _ | refine blk_drew ?_ | refine blk_alloc ?_ _)); refine blk_put (cs := #[.string (a0.extract 0 (t142 : Int).toNat), .int .i64 0, .bool false]) ?_ 1 _ rfl; (with_reducible repeat (first | refine blk_drewN ?_ _ | refine blk_drew ?_ | refine blk_alloc ?_ _)); refine blk_put (cs := #[.string (⟨#[]⟩ : ByteArray), .int .i64 0, .bool false]) ?_ 0 _ rfl; (with_reducible repeat (first | refine blk_drewN ?_ _ | refine blk_drew ?_ | refine blk_alloc ?_ _)); exact BK141.out) Tryz.underlying43 rfl (by kernel_rfl)) rfl ?_
                 exact ⟨by first | rfl | (simp [errW_none, errW_some] <;> rfl) | (simp [*, errW_none, errW_some] <;> rfl), by repeat (first | (with_reducible first | exact HB.out | apply below_alloc | apply pw_below_drewN | apply below_drew1 | refine below_set ?_ GE141.out | refine below_set ?_ GE143.out) | exact HB.out)⟩
             · rw [if_neg c21] at H
               have c21b0 : decide (0 < t142) = false := decide_eq_false c21
               clear c21
               simp only [Option.some.injEq, Prod.mk.injEq] at H
               obtain ⟨rfl, rfl, rfl, rfl⟩ := H
               try go_wp2
               have n0_ := Aside0.mk (blk_drew BK141.out)
               have n1_ := Aside0.mk (blk_drew BK143.out)
               have n2_ := Aside0.mk (below_drew1 HB.out)
               clear BK141
               clear BK143
               clear HB
               have BK141 := n0_
               have BK143 := n1_
               have HB := n2_
               clear n0_ n1_ n2_
               refine start_ (n := 15) (S := fun w' => w'.cell? ⟨gb143, 0, none⟩ = some (.string (a0.extract 0 (t142 : Int).toNat)) ∧ w'.cell? ⟨gb143, 1, none⟩ = some (.int .i64 x144001_2) ∧ w'.cell? ⟨gb143, 2, none⟩ = some (.bool x144002_6)) (ds := []) #[false, false, false, false, false, false, false, false, false, false, false, false, false, false, false] (by kernel_rfl) rfl rfl ⟨(blk_cell BK143.out 0).trans rfl, (blk_cell BK143.out 1).trans rfl, (blk_cell BK143.out 2).trans rfl⟩ (fun hHeld => ?_); refine with_tabW rf06_Is.tab10 rf06_Is.bits10 (fun HT_ HW_ => ?_)
               generalize wr.drew = w36 at BK141 BK143 HB hHeld ⊢
               refine pure_ (i := 1) (N := some 41) (v := ?_) (a' := ?_) #[false, true, false, false, false, false, false, false, false, false, false, false, false, false, false] rfl rfl (any_of HT_.out (by kernel_rfl)) (fun _ _ _ h => h) (Or.inl ⟨by rfl, ?_⟩) ?_ ?_
               rotate_left
               · intro w'
                 go_simp
                 with_reducible rfl
               rotate_left
               · simp only [Act.put, List.setIfInBounds_toArray, List.set_cons_zero, List.set_cons_succ, i64_w, i32_w]
                 rfl
               refine pure_ (i := 2) (N := some 42) (v := ?_) (a' := ?_) #[false, true, true, false, false, false, false, false, false, false, false, false, false, false, false] rfl rfl (any_of HT_.out (by kernel_rfl)) (fun _ _ _ h => h) (Or.inl ⟨by rfl, ?_⟩) ?_ ?_
               rotate_left
               · intro w'
                 go_simp
                 with_reducible rfl
               rotate_left
               · simp only [Act.put, List.setIfInBounds_toArray, List.set_cons_zero, List.set_cons_succ, i64_w, i32_w]
                 rfl
               refine pure_ (i := 3) (N := some 43) (v := ?_) (a' := ?_) #[false, true, true, true, false, false, false, false, false, false, false, false, false, false, false] rfl rfl (any_of HT_.out (by kernel_rfl)) (fun _ _ _ h => h) (Or.inl ⟨by rfl, ?_⟩) ?_ ?_
               rotate_left
               · intro w'
                 go_simp
                 with_reducible rfl
               rotate_left
               · simp only [Act.put, List.setIfInBounds_toArray, List.set_cons_zero, List.set_cons_succ, i64_w, i32_w]
                 rfl
               refine pure_ (i := 4) (N := some 44) (v := undef) (a' := ?_) #[false, true, true, true, true, false, false, false, false, false, false, false, false, false, false] rfl rfl (any_of HT_.out (by kernel_rfl)) (fun _ _ _ h => h) (Or.inr ⟨by rfl, rfl⟩) ?_ ?_
               rotate_left
               · simp only [Act.put, List.setIfInBounds_toArray, List.set_cons_zero, List.set_cons_succ, i64_w, i32_w]
                 rfl
               refine pure_ (i := 5) (N := some 45) (v := undef) (a' := ?_) #[false, true, true, true, true, true, false, false, false, false, false, false, false, false, false] rfl rfl (any_of HT_.out (by kernel_rfl)) (fun _ _ _ h => h) (Or.inr ⟨by rfl, rfl⟩) ?_ ?_
               rotate_left
               · simp only [Act.put, List.setIfInBounds_toArray, List.set_cons_zero, List.set_cons_succ, i64_w, i32_w]
                 rfl
               refine pure_ (i := 6) (N := some 46) (v := ?_) (a' := ?_) #[false, true, true, true, true, true, true, false, false, false, false, false, false, false, false] rfl rfl (any_of HT_.out (by kernel_rfl)) (fun _ _ _ h => h) (Or.inl ⟨by rfl, ?_⟩) ?_ ?_
               rotate_left
               · intro w'
                 go_simp
                 with_reducible rfl
               rotate_left
               · simp only [Act.put, List.setIfInBounds_toArray, List.set_cons_zero, List.set_cons_succ, i64_w, i32_w]
                 rfl
               refine pure_ (i := 7) (N := some 47) (v := ?_) (a' := ?_) #[false, true, true, true, true, true, true, true, false, false, false, false, false, false, false] rfl rfl (any_of HT_.out (by kernel_rfl)) (fun _ _ _ h => h) (Or.inl ⟨by rfl, ?_⟩) ?_ ?_
               rotate_left
               · intro w'
                 go_simp
                 with_reducible rfl
               rotate_left
               · simp only [Act.put, List.setIfInBounds_toArray, List.set_cons_zero, List.set_cons_succ, i64_w, i32_w]
                 rfl
               refine pure_ (i := 8) (N := some 48) (v := undef) (a' := ?_) #[false, true, true, true, true, true, true, true, true, false, false, false, false, false, false] rfl rfl (any_of HT_.out (by kernel_rfl)) (fun _ _ _ h => h) (Or.inr ⟨by rfl, rfl⟩) ?_ ?_
               rotate_left
               · simp only [Act.put, List.setIfInBounds_toArray, List.set_cons_zero, List.set_cons_succ, i64_w, i32_w]
                 rfl
               refine pure_ (i := 9) (N := some 49) (v := undef) (a' := ?_) #[false, true, true, true, true, true, true, true, true, true, false, false, false, false, false] rfl rfl (any_of HT_.out (by kernel_rfl)) (fun _ _ _ h => h) (Or.inr ⟨by rfl, rfl⟩) ?_ ?_
               rotate_left
               · simp only [Act.put, List.setIfInBounds_toArray, List.set_cons_zero, List.set_cons_succ, i64_w, i32_w]
                 rfl
               refine pure_ (i := 10) (N := some 50) (v := undef) (a' := ?_) #[false, true, true, true, true, true, true, true, true, true, true, false, false, false, false] rfl rfl (any_of HT_.out (by kernel_rfl)) (fun _ _ _ h => h) (Or.inr ⟨by rfl, rfl⟩) ?_ ?_
               rotate_left
               · simp only [Act.put, List.setIfInBounds_toArray, List.set_cons_zero, List.set_cons_succ, i64_w, i32_w]
                 rfl
               refine pure_ (i := 11) (N := some 51) (v := undef) (a' := ?_) #[false, true, true, true, true, true, true, true, true, true, true, true, false, false, false] rfl rfl (any_of HT_.out (by kernel_rfl)) (fun _ _ _ h => h) (Or.inr ⟨by rfl, rfl⟩) ?_ ?_
               rotate_left
               · simp only [Act.put, List.setIfInBounds_toArray, List.set_cons_zero, List.set_cons_succ, i64_w, i32_w]
                 rfl
               refine pure_ (i := 12) (N := some 52) (v := ?_) (a' := ?_) #[false, true, true, true, true, true, true, true, true, true, true, true, true, false, false] rfl rfl (any_of HT_.out (by kernel_rfl)) (fun _ _ _ h => h) (Or.inl ⟨by rfl, ?_⟩) ?_ ?_
               rotate_left
               · intro w'
                 go_simp
                 with_reducible rfl
               rotate_left
               · simp only [Act.put, List.setIfInBounds_toArray, List.set_cons_zero, List.set_cons_succ, i64_w, i32_w]
                 rfl
               refine take_ (i := 0) (N := some 40) (v := ?_) (a' := ?_) #[true, true, true, true, true, true, true, true, true, true, true, true, true, false, false] rfl rfl (take_ofW HT_.out HW_.out (by kernel_rfl)) (fun _ _ _ h => h) (Or.inl ⟨by rfl, ?_⟩) hHeld ?_ ?_
               rotate_left
               · rintro w' ⟨s0, s1, s2⟩
                 go_simp
                 with_reducible rfl
               rotate_left
               · simp only [Act.put, List.setIfInBounds_toArray, List.set_cons_zero, List.set_cons_succ, i64_w, i32_w]
                 rfl
               refine one_ (i := 13) (N := none) #[true, true, true, true, true, true, true, true, true, true, true, true, true, true, false] rfl rfl (one_of HT_.out (by kernel_rfl)) (by decide) (fun K hK => ?_)
               have hs37 : w36.cell? ⟨gb141, 0, none⟩ = some (.string (⟨#[]⟩ : ByteArray)) := (blk_cell BK141.out 0).trans rfl
               have hfs37 := blk_frozen BK141.out 0
               have hns37_1 := NB143_141.out
               have hms37_1 := NB141_143.out
               have hs38 : w36.cell? ⟨gb141, 1, none⟩ = some (.int .i64 0) := (blk_cell BK141.out 1).trans rfl
               have hfs38 := blk_frozen BK141.out 1
               have hns38_1 := NB143_141.out
               have hms38_1 := NB141_143.out
               have hs39 : w36.cell? ⟨gb141, 2, none⟩ = some (.bool false) := (blk_cell BK141.out 2).trans rfl
               have hfs39 := blk_frozen BK141.out 2
               have hns39_1 := NB143_141.out
               have hms39_1 := NB141_143.out
               refine skip_ (w1 := ?_) (by rfl) rfl ?_ ?_
               rotate_left
               · go_simp
                 rfl
               refine hK.out _ _ ⟨((cell_far (p := ⟨gb141, _, none⟩) NB143_141.out _).trans (((cell_far (p := ⟨gb141, _, none⟩) NB143_141.out _).trans (((cell_far (p := ⟨gb141, _, none⟩) NB143_141.out _).trans (hHeld.1)))))), ((cell_far (p := ⟨gb141, _, none⟩) NB143_141.out _).trans (((cell_far (p := ⟨gb141, _, none⟩) NB143_141.out _).trans (((cell_far (p := ⟨gb141, _, none⟩) NB143_141.out _).trans (hHeld.2.1)))))), ((cell_far (p := ⟨gb141, _, none⟩) NB143_141.out _).trans (((cell_far (p := ⟨gb141, _, none⟩) NB143_141.out _).trans (((cell_far (p := ⟨gb141, _, none⟩) NB143_141.out _).trans (hHeld.2.2))))))⟩ (fun hHeld => ?_)
               clear hK K
               refine pure_ (i := 14) (N := some 3) (v := ?_) (a' := ?_) #[true, true, true, true, true, true, true, true, true, true, true, true, true, true, true] rfl rfl (any_of HT_.out (by kernel_rfl)) (fun _ _ _ h => h) (Or.inl ⟨by rfl, ?_⟩) ?_ ?_
               rotate_left
               · intro w'
                 go_simp
                 with_reducible rfl
               rotate_left
               · simp only [Act.put, List.setIfInBounds_toArray, List.set_cons_zero, List.set_cons_succ, i64_w, i32_w]
                 rfl
               refine done_ (done_of HT_.out (by kernel_rfl)) ?_
               try go_wp2
               refine bodyPost_ret (results_ct rfl _ _ gb141 43 #[.string (a0.extract 0 (t142 : Int).toNat), .int .i64 x144001_2, .bool x144002_6] (0, 0) _ rfl (by (with_reducible repeat (first | refine blk_drewN ?_ _ | refine blk_drew ?_ | refine blk_alloc ?_ _)); refine blk_put (cs := #[.string (a0.extract 0 (t142 : Int).toNat), .int .i64 x144001_2, .bool false]) ?_ 2 _ rfl; (with_reducible repeat (first | refine blk_drewN ?_ _ | refine blk_drew ?_ | refine blk_alloc ?_ _)); refine blk_put (cs := #[.string (a0.extract 0 (t142 : Int).toNat), .int .i64 0, .bool false]) ?_ 1 _ rfl; (with_reducible repeat (first | refine blk_drewN ?_ _ | refine blk_drew ?_ | refine blk_alloc ?_ _)); refine blk_put (cs := #[.string (⟨#[]⟩ : ByteArray), .int .i64 0, .bool false]) ?_ 0 _ rfl; (with_reducible repeat (first | refine blk_drewN ?_ _ | refine blk_drew ?_ | refine blk_alloc ?_ _)); exact BK141.out) Tryz.underlying43 rfl (by kernel_rfl)) rfl ?_
               exact ⟨by first | rfl | (simp [errW_none, errW_some] <;> rfl) | (simp [*, errW_none, errW_some] <;> rfl), by repeat (first | (with_reducible first | exact HB.out | apply below_alloc | apply pw_below_drewN | apply below_drew1 | refine below_set ?_ GE141.out | refine below_set ?_ GE143.out) | exact HB.out)⟩
         · rw [if_neg c15] at H
           have c15b0 : decide (x7_2 < ((a0.extract (t142 : Int).toNat a0.size).size : Int)) = false := decide_eq_false c15
           try (have c15b0s := c15b0; simp only [ByteArray.size_extract, Nat.min_self] at c15b0s)
           clear c15
           by_cases c40 : t142 > 0
           · rw [if_pos c40] at H
             have c40b0 : decide (0 < t142) = true := decide_eq_true c40
             clear c40
             replace H := Option.bind_eq_some_iff.mp H
             obtain ⟨t146, A410, H⟩ := H
             replace H : (if t146 = true then ((rf06_Put.f k2 (a0.extract 0 (t142 : Int).toNat) x144001_2 x144002_6).bind fun t147 => (some ((a0.extract 0 (t142 : Int).toNat), x144001_2, x144002_6, (t147.toList == a0.toList)))) else (some ((a0.extract 0 (t142 : Int).toNat), x144001_2, x144002_6, false))) = some (r1, r2, r3, r4) := H
             have A41 := Aside0.mk A410
             clear A410
             by_cases c42 : t146 = true
             · subst c42
               have H1 : ((rf06_Put.f k2 (a0.extract 0 (t142 : Int).toNat) x144001_2 x144002_6).bind fun t147 => (some ((a0.extract 0 (t142 : Int).toNat), x144001_2, x144002_6, (t147.toList == a0.toList)))) = some (r1, r2, r3, r4) := by rw [if_pos rfl] at H; exact H
               clear H
               have H := H1
               clear H1
               replace H := Option.bind_eq_some_iff.mp H
               obtain ⟨t147, A430, H⟩ := H
               replace H : (some ((a0.extract 0 (t142 : Int).toNat), x144001_2, x144002_6, (t147.toList == a0.toList))) = some (r1, r2, r3, r4) := H
               have A43 := Aside0.mk A430
               clear A430
               simp only [Option.some.injEq, Prod.mk.injEq] at H
               obtain ⟨rfl, rfl, rfl, rfl⟩ := H
               try go_wp2
               have n0_ := Aside0.mk (blk_drew BK141.out)
               have n1_ := Aside0.mk (blk_drew BK143.out)
               have n2_ := Aside0.mk (below_drew1 HB.out)
               clear BK141
               clear BK143
               clear HB
               have BK141 := n0_
               have BK143 := n1_
               have HB := n2_
               clear n0_ n1_ n2_
               refine start_ (n := 15) (S := fun w' => w'.cell? ⟨gb143, 0, none⟩ = some (.string (a0.extract 0 (t142 : Int).toNat)) ∧ w'.cell? ⟨gb143, 1, none⟩ = some (.int .i64 x144001_2) ∧ w'.cell? ⟨gb143, 2, none⟩ = some (.bool x144002_6)) (ds := []) #[false, false, false, false, false, false, false, false, false, false, false, false, false, false, false] (by kernel_rfl) rfl rfl ⟨(blk_cell BK143.out 0).trans rfl, (blk_cell BK143.out 1).trans rfl, (blk_cell BK143.out 2).trans rfl⟩ (fun hHeld => ?_); refine with_tabW rf06_Is.tab10 rf06_Is.bits10 (fun HT_ HW_ => ?_)
               generalize wr.drew = w44 at BK141 BK143 HB hHeld ⊢
               refine pure_ (i := 1) (N := some 41) (v := ?_) (a' := ?_) #[false, true, false, false, false, false, false, false, false, false, false, false, false, false, false] rfl rfl (any_of HT_.out (by kernel_rfl)) (fun _ _ _ h => h) (Or.inl ⟨by rfl, ?_⟩) ?_ ?_
               rotate_left
               · intro w'
                 go_simp
                 with_reducible rfl
               rotate_left
               · simp only [Act.put, List.setIfInBounds_toArray, List.set_cons_zero, List.set_cons_succ, i64_w, i32_w]
                 rfl
               refine pure_ (i := 2) (N := some 42) (v := ?_) (a' := ?_) #[false, true, true, false, false, false, false, false, false, false, false, false, false, false, false] rfl rfl (any_of HT_.out (by kernel_rfl)) (fun _ _ _ h => h) (Or.inl ⟨by rfl, ?_⟩) ?_ ?_
               rotate_left
               · intro w'
                 go_simp
                 with_reducible rfl
               rotate_left
               · simp only [Act.put, List.setIfInBounds_toArray, List.set_cons_zero, List.set_cons_succ, i64_w, i32_w]
                 rfl
               refine pure_ (i := 3) (N := some 43) (v := ?_) (a' := ?_) #[false, true, true, true, false, false, false, false, false, false, false, false, false, false, false] rfl rfl (any_of HT_.out (by kernel_rfl)) (fun _ _ _ h => h) (Or.inl ⟨by rfl, ?_⟩) ?_ ?_
               rotate_left
               · intro w'
                 go_simp
                 with_reducible rfl
               rotate_left
               · simp only [Act.put, List.setIfInBounds_toArray, List.set_cons_zero, List.set_cons_succ, i64_w, i32_w]
                 rfl
               refine take_ (i := 0) (N := some 40) (v := ?_) (a' := ?_) #[true, true, true, true, false, false, false, false, false, false, false, false, false, false, false] rfl rfl (take_ofW HT_.out HW_.out (by kernel_rfl)) (fun _ _ _ h => h) (Or.inl ⟨by rfl, ?_⟩) hHeld ?_ ?_
               rotate_left
               · rintro w' ⟨s0, s1, s2⟩
                 go_simp
                 with_reducible rfl
               rotate_left
               · simp only [Act.put, List.setIfInBounds_toArray, List.set_cons_zero, List.set_cons_succ, i64_w, i32_w]
                 rfl
               refine take_ (i := 4) (N := some 44) (v := ?_) (a' := ?_) #[true, true, true, true, true, false, false, false, false, false, false, false, false, false, false] rfl rfl (take_ofW HT_.out HW_.out (by kernel_rfl)) (fun _ _ _ h => h) (Or.inl ⟨by rfl, ?_⟩) hHeld ?_ ?_
               rotate_left
               · rintro w' ⟨s0, s1, s2⟩
                 go_simp
                 with_reducible rfl
               rotate_left
               · simp only [Act.put, List.setIfInBounds_toArray, List.set_cons_zero, List.set_cons_succ, i64_w, i32_w]
                 rfl
               refine one_ (i := 5) (N := some 45) #[true, true, true, true, true, true, false, false, false, false, false, false, false, false, false] rfl rfl (one_of HT_.out (by kernel_rfl)) (by decide) (fun K hK => ?_)
               refine goes_ Tryz.func29 (by kernel_rfl) rfl #[.agg #[.string (a0.extract 0 (t142 : Int).toNat), .int .i64 x144001_2, .bool x144002_6]] (by rfl) rfl rfl (by (try simp only [List.map_toArray, List.map_cons, List.map_nil]); first | done | rfl | (simp only [List.length_drop, List.length_take]; rfl)) ?_
               with_reducible refine (rf06_May.calls k2 (a0.extract 0 (t142 : Int).toNat) x144001_2 x144002_6 true _ A41.out).mono ?_
               rintro e w45 ⟨rfl, hb⟩
               refine ⟨_, rfl, ?_⟩
               have n0_ := Aside0.mk (blk_below (g := gb141) (o := .cells #[.string (⟨#[]⟩ : ByteArray), .int .i64 0, .bool false] 43 (0, 0)) (by (with_reducible repeat (first | refine blk_drewN ?_ _ | refine blk_drew ?_ | refine blk_alloc ?_ _)); exact BK141.out) hb)
               have n1_ := Aside0.mk (blk_below (g := gb143) (o := .cells #[.string (a0.extract 0 (t142 : Int).toNat), .int .i64 x144001_2, .bool x144002_6] 43 (0, 0)) (by (with_reducible repeat (first | refine blk_drewN ?_ _ | refine blk_drew ?_ | refine blk_alloc ?_ _)); exact BK143.out) hb)
               have n2_ := Aside0.mk (below_step (by repeat (first | (with_reducible first | exact HB.out | apply below_alloc | apply pw_below_drewN | apply below_drew1 | refine below_set ?_ GE141.out | refine below_set ?_ GE143.out) | exact HB.out)) hb)
               clear BK141
               clear BK143
               clear HB
               have BK141 := n0_
               have BK143 := n1_
               have HB := n2_
               clear n0_ n1_ n2_
               (try clear hb)
               (try clear hb2)
               (try clear hk)
               (try clear hi)
               refine hK.out _ _ ⟨(blk_cell BK143.out 0).trans rfl, (blk_cell BK143.out 1).trans rfl, (blk_cell BK143.out 2).trans rfl⟩ (fun hHeld => ?_)
               clear hK K
               refine norm_ (a' := ?_) ?_ ?_
               rotate_left
               · show Act.put _ (some 45) _ = _
                 simp only [Act.put, List.setIfInBounds_toArray, List.set_cons_zero, List.set_cons_succ, i64_w, i32_w]
                 rfl
               refine pure_ (i := 6) (N := some 46) (v := ?_) (a' := ?_) #[true, true, true, true, true, true, true, false, false, false, false, false, false, false, false] rfl rfl (any_of HT_.out (by kernel_rfl)) (fun _ _ _ h => h) (Or.inl ⟨by rfl, ?_⟩) ?_ ?_
               rotate_left
               · intro w'
                 go_simp
                 with_reducible rfl
               rotate_left
               · simp only [Act.put, List.setIfInBounds_toArray, List.set_cons_zero, List.set_cons_succ, i64_w, i32_w]
                 rfl
               refine pure_ (i := 7) (N := some 47) (v := ?_) (a' := ?_) #[true, true, true, true, true, true, true, true, false, false, false, false, false, false, false] rfl rfl (any_of HT_.out (by kernel_rfl)) (fun _ _ _ h => h) (Or.inl ⟨by rfl, ?_⟩) ?_ ?_
               rotate_left
               · intro w'
                 go_simp
                 with_reducible rfl
               rotate_left
               · simp only [Act.put, List.setIfInBounds_toArray, List.set_cons_zero, List.set_cons_succ, i64_w, i32_w]
                 rfl
               refine pure_ (i := 10) (N := some 50) (v := ?_) (a' := ?_) #[true, true, true, true, true, true, true, true, false, false, true, false, false, false, false] rfl rfl (any_of HT_.out (by kernel_rfl)) (fun _ _ _ h => h) (Or.inl ⟨by rfl, ?_⟩) ?_ ?_
               rotate_left
               · intro w'
                 go_simp
                 with_reducible rfl
               rotate_left
               · simp only [Act.put, List.setIfInBounds_toArray, List.set_cons_zero, List.set_cons_succ, i64_w, i32_w]
                 rfl
               refine take_ (i := 8) (N := some 48) (v := ?_) (a' := ?_) #[true, true, true, true, true, true, true, true, true, false, true, false, false, false, false] rfl rfl (take_ofW HT_.out HW_.out (by kernel_rfl)) (fun _ _ _ h => h) (Or.inl ⟨by rfl, ?_⟩) hHeld ?_ ?_
               rotate_left
               · rintro w' ⟨s0, s1, s2⟩
                 go_simp
                 with_reducible rfl
               rotate_left
               · simp only [Act.put, List.setIfInBounds_toArray, List.set_cons_zero, List.set_cons_succ, i64_w, i32_w]
                 rfl
               refine one_ (i := 9) (N := some 49) #[true, true, true, true, true, true, true, true, true, true, true, false, false, false, false] rfl rfl (one_of HT_.out (by kernel_rfl)) (by decide) (fun K hK => ?_)
               refine goes_ Tryz.func34 (by kernel_rfl) rfl #[.agg #[.string (a0.extract 0 (t142 : Int).toNat), .int .i64 x144001_2, .bool x144002_6]] (by rfl) rfl rfl (by (try simp only [List.map_toArray, List.map_cons, List.map_nil]); first | done | rfl | (simp only [List.length_drop, List.length_take]; rfl)) ?_
               with_reducible refine (rf06_Put.calls k2 (a0.extract 0 (t142 : Int).toNat) x144001_2 x144002_6 t147 _ A43.out).mono ?_
               rintro e w46 ⟨rfl, hb⟩
               refine ⟨_, rfl, ?_⟩
               have n0_ := Aside0.mk (blk_below (g := gb141) (o := .cells #[.string (⟨#[]⟩ : ByteArray), .int .i64 0, .bool false] 43 (0, 0)) (by (with_reducible repeat (first | refine blk_drewN ?_ _ | refine blk_drew ?_ | refine blk_alloc ?_ _)); exact BK141.out) hb)
               have n1_ := Aside0.mk (blk_below (g := gb143) (o := .cells #[.string (a0.extract 0 (t142 : Int).toNat), .int .i64 x144001_2, .bool x144002_6] 43 (0, 0)) (by (with_reducible repeat (first | refine blk_drewN ?_ _ | refine blk_drew ?_ | refine blk_alloc ?_ _)); exact BK143.out) hb)
               have n2_ := Aside0.mk (below_step (by repeat (first | (with_reducible first | exact HB.out | apply below_alloc | apply pw_below_drewN | apply below_drew1 | refine below_set ?_ GE141.out | refine below_set ?_ GE143.out) | exact HB.out)) hb)
               clear BK141
               clear BK143
               clear HB
               have BK141 := n0_
               have BK143 := n1_
               have HB := n2_
               clear n0_ n1_ n2_
               (try clear hb)
               (try clear hb2)
               (try clear hk)
               (try clear hi)
               refine hK.out _ _ ⟨(blk_cell BK143.out 0).trans rfl, (blk_cell BK143.out 1).trans rfl, (blk_cell BK143.out 2).trans rfl⟩ (fun hHeld => ?_)
               clear hK K
               refine norm_ (a' := ?_) ?_ ?_
               rotate_left
               · show Act.put _ (some 49) _ = _
                 simp only [Act.put, List.setIfInBounds_toArray, List.set_cons_zero, List.set_cons_succ, i64_w, i32_w]
                 rfl
               refine pure_ (i := 11) (N := some 51) (v := ?_) (a' := ?_) #[true, true, true, true, true, true, true, true, true, true, true, true, false, false, false] rfl rfl (any_of HT_.out (by kernel_rfl)) (fun _ _ _ h => h) (Or.inl ⟨by rfl, ?_⟩) ?_ ?_
               rotate_left
               · intro w'
                 go_simp
                 with_reducible rfl
               rotate_left
               · simp only [Act.put, List.setIfInBounds_toArray, List.set_cons_zero, List.set_cons_succ, i64_w, i32_w]
                 rfl
               refine pure_ (i := 12) (N := some 52) (v := ?_) (a' := ?_) #[true, true, true, true, true, true, true, true, true, true, true, true, true, false, false] rfl rfl (any_of HT_.out (by kernel_rfl)) (fun _ _ _ h => h) (Or.inl ⟨by rfl, ?_⟩) ?_ ?_
               rotate_left
               · intro w'
                 go_simp
                 with_reducible rfl
               rotate_left
               · simp only [Act.put, List.setIfInBounds_toArray, List.set_cons_zero, List.set_cons_succ, i64_w, i32_w]
                 rfl
               refine one_ (i := 13) (N := none) #[true, true, true, true, true, true, true, true, true, true, true, true, true, true, false] rfl rfl (one_of HT_.out (by kernel_rfl)) (by decide) (fun K hK => ?_)
               have hs47 : w46.cell? ⟨gb141, 0, none⟩ = some (.string (⟨#[]⟩ : ByteArray)) := (blk_cell BK141.out 0).trans rfl
               have hfs47 := blk_frozen BK141.out 0
               have hns47_1 := NB143_141.out
               have hms47_1 := NB141_143.out
               have hs48 : w46.cell? ⟨gb141, 1, none⟩ = some (.int .i64 0) := (blk_cell BK141.out 1).trans rfl
               have hfs48 := blk_frozen BK141.out 1
               have hns48_1 := NB143_141.out
               have hms48_1 := NB141_143.out
               have hs49 : w46.cell? ⟨gb141, 2, none⟩ = some (.bool false) := (blk_cell BK141.out 2).trans rfl
               have hfs49 := blk_frozen BK141.out 2
               have hns49_1 := NB143_141.out
               have hms49_1 := NB141_143.out
               refine skip_ (w1 := ?_) (by rfl) rfl ?_ ?_
               rotate_left
               · go_simp
                 rfl
               refine hK.out _ _ ⟨((cell_far (p := ⟨gb141, _, none⟩) NB143_141.out _).trans (((cell_far (p := ⟨gb141, _, none⟩) NB143_141.out _).trans (((cell_far (p := ⟨gb141, _, none⟩) NB143_141.out _).trans (hHeld.1)))))), ((cell_far (p := ⟨gb141, _, none⟩) NB143_141.out _).trans (((cell_far (p := ⟨gb141, _, none⟩) NB143_141.out _).trans (((cell_far (p := ⟨gb141, _, none⟩) NB143_141.out _).trans (hHeld.2.1)))))), ((cell_far (p := ⟨gb141, _, none⟩) NB143_141.out _).trans (((cell_far (p := ⟨gb141, _, none⟩) NB143_141.out _).trans (((cell_far (p := ⟨gb141, _, none⟩) NB143_141.out _).trans (hHeld.2.2))))))⟩ (fun hHeld => ?_)
               clear hK K
               refine pure_ (i := 14) (N := some 3) (v := ?_) (a' := ?_) #[true, true, true, true, true, true, true, true, true, true, true, true, true, true, true] rfl rfl (any_of HT_.out (by kernel_rfl)) (fun _ _ _ h => h) (Or.inl ⟨by rfl, ?_⟩) ?_ ?_
               rotate_left
               · intro w'
                 go_simp
                 with_reducible rfl
               rotate_left
               · simp only [Act.put, List.setIfInBounds_toArray, List.set_cons_zero, List.set_cons_succ, i64_w, i32_w]
                 rfl
               refine done_ (done_of HT_.out (by kernel_rfl)) ?_
               try go_wp2
               refine bodyPost_ret (results_ct rfl _ _ gb141 43 #[.string (a0.extract 0 (t142 : Int).toNat), .int .i64 x144001_2, .bool x144002_6] (0, 0) _ rfl (by (with_reducible repeat (first | refine blk_drewN ?_ _ | refine blk_drew ?_ | refine blk_alloc ?_ _)); refine blk_put (cs := #[.string (a0.extract 0 (t142 : Int).toNat), .int .i64 x144001_2, .bool false]) ?_ 2 _ rfl; (with_reducible repeat (first | refine blk_drewN ?_ _ | refine blk_drew ?_ | refine blk_alloc ?_ _)); refine blk_put (cs := #[.string (a0.extract 0 (t142 : Int).toNat), .int .i64 0, .bool false]) ?_ 1 _ rfl; (with_reducible repeat (first | refine blk_drewN ?_ _ | refine blk_drew ?_ | refine blk_alloc ?_ _)); refine blk_put (cs := #[.string (⟨#[]⟩ : ByteArray), .int .i64 0, .bool false]) ?_ 0 _ rfl; (with_reducible repeat (first | refine blk_drewN ?_ _ | refine blk_drew ?_ | refine blk_alloc ?_ _)); exact BK141.out) Tryz.underlying43 rfl (by kernel_rfl)) rfl ?_
               exact ⟨by first | rfl | (simp [errW_none, errW_some] <;> rfl) | (simp [*, errW_none, errW_some] <;> rfl), by repeat (first | (with_reducible first | exact HB.out | apply below_alloc | apply pw_below_drewN | apply below_drew1 | refine below_set ?_ GE141.out | refine below_set ?_ GE143.out) | exact HB.out)⟩
             · replace c42 := Bool.eq_false_iff.mpr c42
               subst c42
               have H1 : (some ((a0.extract 0 (t142 : Int).toNat), x144001_2, x144002_6, false)) = some (r1, r2, r3, r4) := by rw [if_neg (show ¬ (false = true) by decide)] at H; exact H
               clear H
               have H := H1
               clear H1
               simp only [Option.some.injEq, Prod.mk.injEq] at H
               obtain ⟨rfl, rfl, rfl, rfl⟩ := H
               try go_wp2
               have n0_ := Aside0.mk (blk_drew BK141.out)
               have n1_ := Aside0.mk (blk_drew BK143.out)
               have n2_ := Aside0.mk (below_drew1 HB.out)
               clear BK141
               clear BK143
               clear HB
               have BK141 := n0_
               have BK143 := n1_
               have HB := n2_
               clear n0_ n1_ n2_
               refine start_ (n := 15) (S := fun w' => w'.cell? ⟨gb143, 0, none⟩ = some (.string (a0.extract 0 (t142 : Int).toNat)) ∧ w'.cell? ⟨gb143, 1, none⟩ = some (.int .i64 x144001_2) ∧ w'.cell? ⟨gb143, 2, none⟩ = some (.bool x144002_6)) (ds := []) #[false, false, false, false, false, false, false, false, false, false, false, false, false, false, false] (by kernel_rfl) rfl rfl ⟨(blk_cell BK143.out 0).trans rfl, (blk_cell BK143.out 1).trans rfl, (blk_cell BK143.out 2).trans rfl⟩ (fun hHeld => ?_); refine with_tabW rf06_Is.tab10 rf06_Is.bits10 (fun HT_ HW_ => ?_)
               generalize wr.drew = w50 at BK141 BK143 HB hHeld ⊢
               refine pure_ (i := 1) (N := some 41) (v := ?_) (a' := ?_) #[false, true, false, false, false, false, false, false, false, false, false, false, false, false, false] rfl rfl (any_of HT_.out (by kernel_rfl)) (fun _ _ _ h => h) (Or.inl ⟨by rfl, ?_⟩) ?_ ?_
               rotate_left
               · intro w'
                 go_simp
                 with_reducible rfl
               rotate_left
               · simp only [Act.put, List.setIfInBounds_toArray, List.set_cons_zero, List.set_cons_succ, i64_w, i32_w]
                 rfl
               refine pure_ (i := 2) (N := some 42) (v := ?_) (a' := ?_) #[false, true, true, false, false, false, false, false, false, false, false, false, false, false, false] rfl rfl (any_of HT_.out (by kernel_rfl)) (fun _ _ _ h => h) (Or.inl ⟨by rfl, ?_⟩) ?_ ?_
               rotate_left
               · intro w'
                 go_simp
                 with_reducible rfl
               rotate_left
               · simp only [Act.put, List.setIfInBounds_toArray, List.set_cons_zero, List.set_cons_succ, i64_w, i32_w]
                 rfl
               refine pure_ (i := 3) (N := some 43) (v := ?_) (a' := ?_) #[false, true, true, true, false, false, false, false, false, false, false, false, false, false, false] rfl rfl (any_of HT_.out (by kernel_rfl)) (fun _ _ _ h => h) (Or.inl ⟨by rfl, ?_⟩) ?_ ?_
               rotate_left
               · intro w'
                 go_simp
                 with_reducible rfl
               rotate_left
               · simp only [Act.put, List.setIfInBounds_toArray, List.set_cons_zero, List.set_cons_succ, i64_w, i32_w]
                 rfl
               refine take_ (i := 0) (N := some 40) (v := ?_) (a' := ?_) #[true, true, true, true, false, false, false, false, false, false, false, false, false, false, false] rfl rfl (take_ofW HT_.out HW_.out (by kernel_rfl)) (fun _ _ _ h => h) (Or.inl ⟨by rfl, ?_⟩) hHeld ?_ ?_
               rotate_left
               · rintro w' ⟨s0, s1, s2⟩
                 go_simp
                 with_reducible rfl
               rotate_left
               · simp only [Act.put, List.setIfInBounds_toArray, List.set_cons_zero, List.set_cons_succ, i64_w, i32_w]
                 rfl
               refine take_ (i := 4) (N := some 44) (v := ?_) (a' := ?_) #[true, true, true, true, true, false, false, false, false, false, false, false, false, false, false] rfl rfl (take_ofW HT_.out HW_.out (by kernel_rfl)) (fun _ _ _ h => h) (Or.inl ⟨by rfl, ?_⟩) hHeld ?_ ?_
               rotate_left
               · rintro w' ⟨s0, s1, s2⟩
                 go_simp
                 with_reducible rfl
               rotate_left
               · simp only [Act.put, List.setIfInBounds_toArray, List.set_cons_zero, List.set_cons_succ, i64_w, i32_w]
                 rfl
               refine one_ (i := 5) (N := some 45) #[true, true, true, true, true, true, false, false, false, false, false, false, false, false, false] rfl rfl (one_of HT_.out (by kernel_rfl)) (by decide) (fun K hK => ?_)
               refine goes_ Tryz.func29 (by kernel_rfl) rfl #[.agg #[.string (a0.extract 0 (t142 : Int).toNat), .int .i64 x144001_2, .bool x144002_6]] (by rfl) rfl rfl (by (try simp only [List.map_toArray, List.map_cons, List.map_nil]); first | done | rfl | (simp only [List.length_drop, List.length_take]; rfl)) ?_
               with_reducible refine (rf06_May.calls k2 (a0.extract 0 (t142 : Int).toNat) x144001_2 x144002_6 false _ A41.out).mono ?_
               rintro e w51 ⟨rfl, hb⟩
               refine ⟨_, rfl, ?_⟩
               have n0_ := Aside0.mk (blk_below (g := gb141) (o := .cells #[.string (⟨#[]⟩ : ByteArray), .int .i64 0, .bool false] 43 (0, 0)) (by (with_reducible repeat (first | refine blk_drewN ?_ _ | refine blk_drew ?_ | refine blk_alloc ?_ _)); exact BK141.out) hb)
               have n1_ := Aside0.mk (blk_below (g := gb143) (o := .cells #[.string (a0.extract 0 (t142 : Int).toNat), .int .i64 x144001_2, .bool x144002_6] 43 (0, 0)) (by (with_reducible repeat (first | refine blk_drewN ?_ _ | refine blk_drew ?_ | refine blk_alloc ?_ _)); exact BK143.out) hb)
               have n2_ := Aside0.mk (below_step (by repeat (first | (with_reducible first | exact HB.out | apply below_alloc | apply pw_below_drewN | apply below_drew1 | refine below_set ?_ GE141.out | refine below_set ?_ GE143.out) | exact HB.out)) hb)
               clear BK141
               clear BK143
               clear HB
               have BK141 := n0_
               have BK143 := n1_
               have HB := n2_
               clear n0_ n1_ n2_
               (try clear hb)
               (try clear hb2)
               (try clear hk)
               (try clear hi)
               refine hK.out _ _ ⟨(blk_cell BK143.out 0).trans rfl, (blk_cell BK143.out 1).trans rfl, (blk_cell BK143.out 2).trans rfl⟩ (fun hHeld => ?_)
               clear hK K
               refine norm_ (a' := ?_) ?_ ?_
               rotate_left
               · show Act.put _ (some 45) _ = _
                 simp only [Act.put, List.setIfInBounds_toArray, List.set_cons_zero, List.set_cons_succ, i64_w, i32_w]
                 rfl
               refine pure_ (i := 6) (N := some 46) (v := ?_) (a' := ?_) #[true, true, true, true, true, true, true, false, false, false, false, false, false, false, false] rfl rfl (any_of HT_.out (by kernel_rfl)) (fun _ _ _ h => h) (Or.inl ⟨by rfl, ?_⟩) ?_ ?_
               rotate_left
               · intro w'
                 go_simp
                 with_reducible rfl
               rotate_left
               · simp only [Act.put, List.setIfInBounds_toArray, List.set_cons_zero, List.set_cons_succ, i64_w, i32_w]
                 rfl
               refine pure_ (i := 7) (N := some 47) (v := ?_) (a' := ?_) #[true, true, true, true, true, true, true, true, false, false, false, false, false, false, false] rfl rfl (any_of HT_.out (by kernel_rfl)) (fun _ _ _ h => h) (Or.inl ⟨by rfl, ?_⟩) ?_ ?_
               rotate_left
               · intro w'
                 go_simp
                 with_reducible rfl
               rotate_left
               · simp only [Act.put, List.setIfInBounds_toArray, List.set_cons_zero, List.set_cons_succ, i64_w, i32_w]
                 rfl
               refine pure_ (i := 8) (N := some 48) (v := undef) (a' := ?_) #[true, true, true, true, true, true, true, true, true, false, false, false, false, false, false] rfl rfl (any_of HT_.out (by kernel_rfl)) (fun _ _ _ h => h) (Or.inr ⟨by rfl, rfl⟩) ?_ ?_
               rotate_left
               · simp only [Act.put, List.setIfInBounds_toArray, List.set_cons_zero, List.set_cons_succ, i64_w, i32_w]
                 rfl
               refine pure_ (i := 9) (N := some 49) (v := undef) (a' := ?_) #[true, true, true, true, true, true, true, true, true, true, false, false, false, false, false] rfl rfl (any_of HT_.out (by kernel_rfl)) (fun _ _ _ h => h) (Or.inr ⟨by rfl, rfl⟩) ?_ ?_
               rotate_left
               · simp only [Act.put, List.setIfInBounds_toArray, List.set_cons_zero, List.set_cons_succ, i64_w, i32_w]
                 rfl
               refine pure_ (i := 10) (N := some 50) (v := undef) (a' := ?_) #[true, true, true, true, true, true, true, true, true, true, true, false, false, false, false] rfl rfl (any_of HT_.out (by kernel_rfl)) (fun _ _ _ h => h) (Or.inr ⟨by rfl, rfl⟩) ?_ ?_
               rotate_left
               · simp only [Act.put, List.setIfInBounds_toArray, List.set_cons_zero, List.set_cons_succ, i64_w, i32_w]
                 rfl
               refine pure_ (i := 11) (N := some 51) (v := undef) (a' := ?_) #[true, true, true, true, true, true, true, true, true, true, true, true, false, false, false] rfl rfl (any_of HT_.out (by kernel_rfl)) (fun _ _ _ h => h) (Or.inr ⟨by rfl, rfl⟩) ?_ ?_
               rotate_left
               · simp only [Act.put, List.setIfInBounds_toArray, List.set_cons_zero, List.set_cons_succ, i64_w, i32_w]
                 rfl
               refine pure_ (i := 12) (N := some 52) (v := ?_) (a' := ?_) #[true, true, true, true, true, true, true, true, true, true, true, true, true, false, false] rfl rfl (any_of HT_.out (by kernel_rfl)) (fun _ _ _ h => h) (Or.inl ⟨by rfl, ?_⟩) ?_ ?_
               rotate_left
               · intro w'
                 go_simp
                 with_reducible rfl
               rotate_left
               · simp only [Act.put, List.setIfInBounds_toArray, List.set_cons_zero, List.set_cons_succ, i64_w, i32_w]
                 rfl
               refine one_ (i := 13) (N := none) #[true, true, true, true, true, true, true, true, true, true, true, true, true, true, false] rfl rfl (one_of HT_.out (by kernel_rfl)) (by decide) (fun K hK => ?_)
               have hs52 : w51.cell? ⟨gb141, 0, none⟩ = some (.string (⟨#[]⟩ : ByteArray)) := (blk_cell BK141.out 0).trans rfl
               have hfs52 := blk_frozen BK141.out 0
               have hns52_1 := NB143_141.out
               have hms52_1 := NB141_143.out
               have hs53 : w51.cell? ⟨gb141, 1, none⟩ = some (.int .i64 0) := (blk_cell BK141.out 1).trans rfl
               have hfs53 := blk_frozen BK141.out 1
               have hns53_1 := NB143_141.out
               have hms53_1 := NB141_143.out
               have hs54 : w51.cell? ⟨gb141, 2, none⟩ = some (.bool false) := (blk_cell BK141.out 2).trans rfl
               have hfs54 := blk_frozen BK141.out 2
               have hns54_1 := NB143_141.out
               have hms54_1 := NB141_143.out
               refine skip_ (w1 := ?_) (by rfl) rfl ?_ ?_
               rotate_left
               · go_simp
                 rfl
               refine hK.out _ _ ⟨((cell_far (p := ⟨gb141, _, none⟩) NB143_141.out _).trans (((cell_far (p := ⟨gb141, _, none⟩) NB143_141.out _).trans (((cell_far (p := ⟨gb141, _, none⟩) NB143_141.out _).trans (hHeld.1)))))), ((cell_far (p := ⟨gb141, _, none⟩) NB143_141.out _).trans (((cell_far (p := ⟨gb141, _, none⟩) NB143_141.out _).trans (((cell_far (p := ⟨gb141, _, none⟩) NB143_141.out _).trans (hHeld.2.1)))))), ((cell_far (p := ⟨gb141, _, none⟩) NB143_141.out _).trans (((cell_far (p := ⟨gb141, _, none⟩) NB143_141.out _).trans (((cell_far (p := ⟨gb141, _, none⟩) NB143_141.out _).trans (hHeld.2.2))))))⟩ (fun hHeld => ?_)
               clear hK K
               refine pure_ (i := 14) (N := some 3) (v := ?_) (a' := ?_) #[true, true, true, true, true, true, true, true, true, true, true, true, true, true, true] rfl rfl (any_of HT_.out (by kernel_rfl)) (fun _ _ _ h => h) (Or.inl ⟨by rfl, ?_⟩) ?_ ?_
               rotate_left
               · intro w'
                 go_simp
                 with_reducible rfl
               rotate_left
               · simp only [Act.put, List.setIfInBounds_toArray, List.set_cons_zero, List.set_cons_succ, i64_w, i32_w]
                 rfl
               refine done_ (done_of HT_.out (by kernel_rfl)) ?_
               try go_wp2
               refine bodyPost_ret (results_ct rfl _ _ gb141 43 #[.string (a0.extract 0 (t142 : Int).toNat), .int .i64 x144001_2, .bool x144002_6] (0, 0) _ rfl (by (with_reducible repeat (first | refine blk_drewN ?_ _ | refine blk_drew ?_ | refine blk_alloc ?_ _)); refine blk_put (cs := #[.string (a0.extract 0 (t142 : Int).toNat), .int .i64 x144001_2, .bool false]) ?_ 2 _ rfl; (with_reducible repeat (first | refine blk_drewN ?_ _ | refine blk_drew ?_ | refine blk_alloc ?_ _)); refine blk_put (cs := #[.string (a0.extract 0 (t142 : Int).toNat), .int .i64 0, .bool false]) ?_ 1 _ rfl; (with_reducible repeat (first | refine blk_drewN ?_ _ | refine blk_drew ?_ | refine blk_alloc ?_ _)); refine blk_put (cs := #[.string (⟨#[]⟩ : ByteArray), .int .i64 0, .bool false]) ?_ 0 _ rfl; (with_reducible repeat (first | refine blk_drewN ?_ _ | refine blk_drew ?_ | refine blk_alloc ?_ _)); exact BK141.out) Tryz.underlying43 rfl (by kernel_rfl)) rfl ?_
               exact ⟨by first | rfl | (simp [errW_none, errW_some] <;> rfl) | (simp [*, errW_none, errW_some] <;> rfl), by repeat (first | (with_reducible first | exact HB.out | apply below_alloc | apply pw_below_drewN | apply below_drew1 | refine below_set ?_ GE141.out | refine below_set ?_ GE143.out) | exact HB.out)⟩
           · rw [if_neg c40] at H
             have c40b0 : decide (0 < t142) = false := decide_eq_false c40
             clear c40
             simp only [Option.some.injEq, Prod.mk.injEq] at H
             obtain ⟨rfl, rfl, rfl, rfl⟩ := H
             try go_wp2
             have n0_ := Aside0.mk (blk_drew BK141.out)
             have n1_ := Aside0.mk (blk_drew BK143.out)
             have n2_ := Aside0.mk (below_drew1 HB.out)
             clear BK141
             clear BK143
             clear HB
             have BK141 := n0_
             have BK143 := n1_
             have HB := n2_
             clear n0_ n1_ n2_
             refine start_ (n := 15) (S := fun w' => w'.cell? ⟨gb143, 0, none⟩ = some (.string (a0.extract 0 (t142 : Int).toNat)) ∧ w'.cell? ⟨gb143, 1, none⟩ = some (.int .i64 x144001_2) ∧ w'.cell? ⟨gb143, 2, none⟩ = some (.bool x144002_6)) (ds := []) #[false, false, false, false, false, false, false, false, false, false, false, false, false, false, false] (by kernel_rfl) rfl rfl ⟨(blk_cell BK143.out 0).trans rfl, (blk_cell BK143.out 1).trans rfl, (blk_cell BK143.out 2).trans rfl⟩ (fun hHeld => ?_); refine with_tabW rf06_Is.tab10 rf06_Is.bits10 (fun HT_ HW_ => ?_)
             generalize wr.drew = w55 at BK141 BK143 HB hHeld ⊢
             refine pure_ (i := 1) (N := some 41) (v := ?_) (a' := ?_) #[false, true, false, false, false, false, false, false, false, false, false, false, false, false, false] rfl rfl (any_of HT_.out (by kernel_rfl)) (fun _ _ _ h => h) (Or.inl ⟨by rfl, ?_⟩) ?_ ?_
             rotate_left
             · intro w'
               go_simp
               with_reducible rfl
             rotate_left
             · simp only [Act.put, List.setIfInBounds_toArray, List.set_cons_zero, List.set_cons_succ, i64_w, i32_w]
               rfl
             refine pure_ (i := 2) (N := some 42) (v := ?_) (a' := ?_) #[false, true, true, false, false, false, false, false, false, false, false, false, false, false, false] rfl rfl (any_of HT_.out (by kernel_rfl)) (fun _ _ _ h => h) (Or.inl ⟨by rfl, ?_⟩) ?_ ?_
             rotate_left
             · intro w'
               go_simp
               with_reducible rfl
             rotate_left
             · simp only [Act.put, List.setIfInBounds_toArray, List.set_cons_zero, List.set_cons_succ, i64_w, i32_w]
               rfl
             refine pure_ (i := 3) (N := some 43) (v := ?_) (a' := ?_) #[false, true, true, true, false, false, false, false, false, false, false, false, false, false, false] rfl rfl (any_of HT_.out (by kernel_rfl)) (fun _ _ _ h => h) (Or.inl ⟨by rfl, ?_⟩) ?_ ?_
             rotate_left
             · intro w'
               go_simp
               with_reducible rfl
             rotate_left
             · simp only [Act.put, List.setIfInBounds_toArray, List.set_cons_zero, List.set_cons_succ, i64_w, i32_w]
               rfl
             refine pure_ (i := 4) (N := some 44) (v := undef) (a' := ?_) #[false, true, true, true, true, false, false, false, false, false, false, false, false, false, false] rfl rfl (any_of HT_.out (by kernel_rfl)) (fun _ _ _ h => h) (Or.inr ⟨by rfl, rfl⟩) ?_ ?_
             rotate_left
             · simp only [Act.put, List.setIfInBounds_toArray, List.set_cons_zero, List.set_cons_succ, i64_w, i32_w]
               rfl
             refine pure_ (i := 5) (N := some 45) (v := undef) (a' := ?_) #[false, true, true, true, true, true, false, false, false, false, false, false, false, false, false] rfl rfl (any_of HT_.out (by kernel_rfl)) (fun _ _ _ h => h) (Or.inr ⟨by rfl, rfl⟩) ?_ ?_
             rotate_left
             · simp only [Act.put, List.setIfInBounds_toArray, List.set_cons_zero, List.set_cons_succ, i64_w, i32_w]
               rfl
             refine pure_ (i := 6) (N := some 46) (v := ?_) (a' := ?_) #[false, true, true, true, true, true, true, false, false, false, false, false, false, false, false] rfl rfl (any_of HT_.out (by kernel_rfl)) (fun _ _ _ h => h) (Or.inl ⟨by rfl, ?_⟩) ?_ ?_
             rotate_left
             · intro w'
               go_simp
               with_reducible rfl
             rotate_left
             · simp only [Act.put, List.setIfInBounds_toArray, List.set_cons_zero, List.set_cons_succ, i64_w, i32_w]
               rfl
             refine pure_ (i := 7) (N := some 47) (v := ?_) (a' := ?_) #[false, true, true, true, true, true, true, true, false, false, false, false, false, false, false] rfl rfl (any_of HT_.out (by kernel_rfl)) (fun _ _ _ h => h) (Or.inl ⟨by rfl, ?_⟩) ?_ ?_
             rotate_left
             · intro w'
               go_simp
               with_reducible rfl
             rotate_left
             · simp only [Act.put, List.setIfInBounds_toArray, List.set_cons_zero, List.set_cons_succ, i64_w, i32_w]
               rfl
             refine pure_ (i := 8) (N := some 48) (v := undef) (a' := ?_) #[false, true, true, true, true, true, true, true, true, false, false, false, false, false, false] rfl rfl (any_of HT_.out (by kernel_rfl)) (fun _ _ _ h => h) (Or.inr ⟨by rfl, rfl⟩) ?_ ?_
             rotate_left
             · simp only [Act.put, List.setIfInBounds_toArray, List.set_cons_zero, List.set_cons_succ, i64_w, i32_w]
               rfl
             refine pure_ (i := 9) (N := some 49) (v := undef) (a' := ?_) #[false, true, true, true, true, true, true, true, true, true, false, false, false, false, false] rfl rfl (any_of HT_.out (by kernel_rfl)) (fun _ _ _ h => h) (Or.inr ⟨by rfl, rfl⟩) ?_ ?_
             rotate_left
             · simp only [Act.put, List.setIfInBounds_toArray, List.set_cons_zero, List.set_cons_succ, i64_w, i32_w]
               rfl
             refine pure_ (i := 10) (N := some 50) (v := undef) (a' := ?_) #[false, true, true, true, true, true, true, true, true, true, true, false, false, false, false] rfl rfl (any_of HT_.out (by kernel_rfl)) (fun _ _ _ h => h) (Or.inr ⟨by rfl, rfl⟩) ?_ ?_
             rotate_left
             · simp only [Act.put, List.setIfInBounds_toArray, List.set_cons_zero, List.set_cons_succ, i64_w, i32_w]
               rfl
             refine pure_ (i := 11) (N := some 51) (v := undef) (a' := ?_) #[false, true, true, true, true, true, true, true, true, true, true, true, false, false, false] rfl rfl (any_of HT_.out (by kernel_rfl)) (fun _ _ _ h => h) (Or.inr ⟨by rfl, rfl⟩) ?_ ?_
             rotate_left
             · simp only [Act.put, List.setIfInBounds_toArray, List.set_cons_zero, List.set_cons_succ, i64_w, i32_w]
               rfl
             refine pure_ (i := 12) (N := some 52) (v := ?_) (a' := ?_) #[false, true, true, true, true, true, true, true, true, true, true, true, true, false, false] rfl rfl (any_of HT_.out (by kernel_rfl)) (fun _ _ _ h => h) (Or.inl ⟨by rfl, ?_⟩) ?_ ?_
             rotate_left
             · intro w'
               go_simp
               with_reducible rfl
             rotate_left
             · simp only [Act.put, List.setIfInBounds_toArray, List.set_cons_zero, List.set_cons_succ, i64_w, i32_w]
               rfl
             refine take_ (i := 0) (N := some 40) (v := ?_) (a' := ?_) #[true, true, true, true, true, true, true, true, true, true, true, true, true, false, false] rfl rfl (take_ofW HT_.out HW_.out (by kernel_rfl)) (fun _ _ _ h => h) (Or.inl ⟨by rfl, ?_⟩) hHeld ?_ ?_
             rotate_left
             · rintro w' ⟨s0, s1, s2⟩
               go_simp
               with_reducible rfl
             rotate_left
             · simp only [Act.put, List.setIfInBounds_toArray, List.set_cons_zero, List.set_cons_succ, i64_w, i32_w]
               rfl
             refine one_ (i := 13) (N := none) #[true, true, true, true, true, true, true, true, true, true, true, true, true, true, false] rfl rfl (one_of HT_.out (by kernel_rfl)) (by decide) (fun K hK => ?_)
             have hs56 : w55.cell? ⟨gb141, 0, none⟩ = some (.string (⟨#[]⟩ : ByteArray)) := (blk_cell BK141.out 0).trans rfl
             have hfs56 := blk_frozen BK141.out 0
             have hns56_1 := NB143_141.out
             have hms56_1 := NB141_143.out
             have hs57 : w55.cell? ⟨gb141, 1, none⟩ = some (.int .i64 0) := (blk_cell BK141.out 1).trans rfl
             have hfs57 := blk_frozen BK141.out 1
             have hns57_1 := NB143_141.out
             have hms57_1 := NB141_143.out
             have hs58 : w55.cell? ⟨gb141, 2, none⟩ = some (.bool false) := (blk_cell BK141.out 2).trans rfl
             have hfs58 := blk_frozen BK141.out 2
             have hns58_1 := NB143_141.out
             have hms58_1 := NB141_143.out
             refine skip_ (w1 := ?_) (by rfl) rfl ?_ ?_
             rotate_left
             · go_simp
               rfl
             refine hK.out _ _ ⟨((cell_far (p := ⟨gb141, _, none⟩) NB143_141.out _).trans (((cell_far (p := ⟨gb141, _, none⟩) NB143_141.out _).trans (((cell_far (p := ⟨gb141, _, none⟩) NB143_141.out _).trans (hHeld.1)))))), ((cell_far (p := ⟨gb141, _, none⟩) NB143_141.out _).trans (((cell_far (p := ⟨gb141, _, none⟩) NB143_141.out _).trans (((cell_far (p := ⟨gb141, _, none⟩) NB143_141.out _).trans (hHeld.2.1)))))), ((cell_far (p := ⟨gb141, _, none⟩) NB143_141.out _).trans (((cell_far (p := ⟨gb141, _, none⟩) NB143_141.out _).trans (((cell_far (p := ⟨gb141, _, none⟩) NB143_141.out _).trans (hHeld.2.2))))))⟩ (fun hHeld => ?_)
             clear hK K
             refine pure_ (i := 14) (N := some 3) (v := ?_) (a' := ?_) #[true, true, true, true, true, true, true, true, true, true, true, true, true, true, true] rfl rfl (any_of HT_.out (by kernel_rfl)) (fun _ _ _ h => h) (Or.inl ⟨by rfl, ?_⟩) ?_ ?_
             rotate_left
             · intro w'
               go_simp
               with_reducible rfl
             rotate_left
             · simp only [Act.put, List.setIfInBounds_toArray, List.set_cons_zero, List.set_cons_succ, i64_w, i32_w]
               rfl
             refine done_ (done_of HT_.out (by kernel_rfl)) ?_
             try go_wp2
             refine bodyPost_ret (results_ct rfl _ _ gb141 43 #[.string (a0.extract 0 (t142 : Int).toNat), .int .i64 x144001_2, .bool x144002_6] (0, 0) _ rfl (by (with_reducible repeat (first | refine blk_drewN ?_ _ | refine blk_drew ?_ | refine blk_alloc ?_ _)); refine blk_put (cs := #[.string (a0.extract 0 (t142 : Int).toNat), .int .i64 x144001_2, .bool false]) ?_ 2 _ rfl; (with_reducible repeat (first | refine blk_drewN ?_ _ | refine blk_drew ?_ | refine blk_alloc ?_ _)); refine blk_put (cs := #[.string (a0.extract 0 (t142 : Int).toNat), .int .i64 0, .bool false]) ?_ 1 _ rfl; (with_reducible repeat (first | refine blk_drewN ?_ _ | refine blk_drew ?_ | refine blk_alloc ?_ _)); refine blk_put (cs := #[.string (⟨#[]⟩ : ByteArray), .int .i64 0, .bool false]) ?_ 0 _ rfl; (with_reducible repeat (first | refine blk_drewN ?_ _ | refine blk_drew ?_ | refine blk_alloc ?_ _)); exact BK141.out) Tryz.underlying43 rfl (by kernel_rfl)) rfl ?_
             exact ⟨by first | rfl | (simp [errW_none, errW_some] <;> rfl) | (simp [*, errW_none, errW_some] <;> rfl), by repeat (first | (with_reducible first | exact HB.out | apply below_alloc | apply pw_below_drewN | apply below_drew1 | refine below_set ?_ GE141.out | refine below_set ?_ GE143.out) | exact HB.out)⟩
   · rw [if_neg c4] at H
     exact absurd H (by simp)
 · rw [if_neg c3] at H
   exact absurd H (by simp)
def rf07_Operator.f (k : Nat) (a0 : Int) : Option (Bool) := if a0 = 0 then (some true) else ((rf02_In.f k (⟨#[43, 35, 46, 47, 59, 63, 38]⟩ : ByteArray) a0).bind fun t116 => (some t116))
theorem rf07_Operator.mono : ∀ a0 k, LeO (rf07_Operator.f k a0) (rf07_Operator.f (k + 1) a0) := by
 intro a0 k
 unfold rf07_Operator.f
 repeat' first
  | (with_reducible exact rf02_In.mono _ _ _)
  | (with_reducible exact LeO.refl _)
  | (with_reducible exact LeO.none _)
  | (with_reducible refine LeO.ite ?_ ?_)
  | (with_reducible refine LeO.bind ?_ (fun _ => ?_))
  | exact rf02_In.mono _ _ _
  | exact LeO.none _
  | refine LeO.ite ?_ ?_
  | refine LeO.bind ?_ (fun _ => ?_)
set_option maxHeartbeats 8000000 in
set_option maxRecDepth 100000 in
theorem rf07_Operator.calls (k : Nat) (a0 : Int) (r : Bool) (w : World) (h : rf07_Operator.f k a0 = some r) :
 Calls Tryz.prog 20 #[.int .u8 a0] w fun e w' => e = .returned (.bool r) ∧ Drawn0 w w' := by
 have H : (if a0 = 0 then (some true) else ((rf02_In.f k (⟨#[43, 35, 46, 47, 59, 63, 38]⟩ : ByteArray) a0).bind fun t116 => (some t116))) = some r := h
 clear h
 by_cases c2 : a0 = 0
 · rw [if_pos c2] at H
   have c2b0 : (a0 == 0) = true := beq_iff_eq.mpr c2
   have c2b1 : (a0 != 0) = false := bne_eq_false_iff_eq.mpr c2
   clear c2
   obtain rfl := Option.some.inj H
   go_enter Tryz.func20, Tryz.ntmps20
   go_wp2
   go_ret
   exact ⟨by first | rfl | (simp; done) | (simp [*]; done), by repeat (first | exact Drawn0.refl _ | apply Drawn0.step)⟩
 · rw [if_neg c2] at H
   have c2b0 : (a0 == 0) = false := beq_eq_false_iff_ne.mpr c2
   have c2b1 : (a0 != 0) = true := bne_iff_ne.mpr c2
   replace H := Option.bind_eq_some_iff.mp H
   obtain ⟨t116, A30, H⟩ := H
   replace H : (some t116) = some r := H
   have A3 := Aside0.mk A30
   clear A30
   obtain rfl := Option.some.inj H
   go_enter Tryz.func20, Tryz.ntmps20
   go_wp2_with (first | (go_at_call 37; (with_reducible refine (rf02_In.calls k (⟨#[43, 35, 46, 47, 59, 63, 38]⟩ : ByteArray) a0 t116 _ A3.out).mono ?_); rintro e w' ⟨rfl, ⟨nd, rfl⟩⟩))
   go_ret
   exact ⟨by first | rfl | (simp; done) | (simp [*]; done), by repeat (first | exact Drawn0.refl _ | apply Drawn0.step)⟩
mutual
def rf07_inside.j0 : Nat → ByteArray → Bool → ByteArray → Int → Option (ByteArray × Int × (List (S43)) × Bool)
 | 0, _, _, _, _ => none
 | k + 1, x0, x21, x150000, x150001 => if x21 = true then (if 0 < (x0.size : Int) then (if 1 ≤ (x0.size : Int) then (rf07_inside.j1 k (x0.extract 1 x0.size) x150000 (bt x0 0)) else (none)) else (none)) else (rf07_inside.j1 k x0 x150000 x150001)
def rf07_inside.j1 : Nat → ByteArray → ByteArray → Int → Option (ByteArray × Int × (List (S43)) × Bool)
 | 0, _, _, _ => none
 | k + 1, x0, x150000, x150001 => rf07_inside.l0 k x0 (⟨#[]⟩ : ByteArray) 0 x150000 x150001 ([] : List (S43))
def rf07_inside.l0 : Nat → ByteArray → ByteArray → Int → ByteArray → Int → List (S43) → Option (ByteArray × Int × (List (S43)) × Bool)
 | 0, _, _, _, _, _, _ => none
 | k + 1, x0, x5, x6, x150000, x150001, x150002 => if x6 ≤ (x0.size : Int) then (if x6 < (x0.size : Int) then (if 0 ≤ x6 then (rf07_inside.j3 k x0 x5 x6 ((bt x0 x6) != 44) x150000 x150001 x150002) else (none)) else (rf07_inside.j3 k x0 x5 x6 false x150000 x150001 x150002)) else (some (x150000, x150001, x150002, true))
def rf07_inside.j3 : Nat → ByteArray → ByteArray → Int → Bool → ByteArray → Int → List (S43) → Option (ByteArray × Int × (List (S43)) × Bool)
 | 0, _, _, _, _, _, _, _ => none
 | k + 1, x0, x5, x6, x42, x150000, x150001, x150002 => if x42 = true then (if 0 ≤ x6 then (if x6 ≤ (wrap64 (x6 + 1)) then (if (wrap64 (x6 + 1)) ≤ (x0.size : Int) then (if x5.size + (x0.extract (x6 : Int).toNat ((wrap64 (x6 + 1)) : Int).toNat).size ≤ 9223372036854775807 then (rf07_inside.l0 k x0 (x5 ++ (x0.extract (x6 : Int).toNat ((wrap64 (x6 + 1)) : Int).toNat)) (wrap64 (x6 + 1)) x150000 x150001 x150002) else (none)) else (none)) else (none)) else (none)) else ((rf06_Is.f k x5).bind fun bt151 => (if bt151.2.2.2 = true then (if x150002.length < 4398046511104 then (rf07_inside.l0 k x0 (⟨#[]⟩ : ByteArray) (wrap64 (x6 + 1)) x150000 x150001 (x150002 ++ [(⟨bt151.1, bt151.2.1, bt151.2.2.1⟩ : S43)])) else (none)) else (some ((⟨#[]⟩ : ByteArray), 0, ([] : List (S43)), false))))
end
def rf07_inside.f (k : Nat) (a0 : ByteArray) : Option (ByteArray × Int × (List (S43)) × Bool) := if a0.toList = ([] : List UInt8) then (rf07_inside.j0 k a0 false (⟨#[]⟩ : ByteArray) 0) else (if 0 < (a0.size : Int) then (if (bt a0 0) = 0 then (rf07_inside.j0 k a0 false (⟨#[]⟩ : ByteArray) 0) else ((rf07_Operator.f k (bt a0 0)).bind fun t150 => (rf07_inside.j0 k a0 t150 (⟨#[]⟩ : ByteArray) 0))) else (none))
set_option maxHeartbeats 8000000 in
set_option maxRecDepth 100000 in
theorem rf07_inside.calls (k : Nat) (a0 : ByteArray) (r1 : ByteArray) (r2 : Int) (r3 : List (S43)) (r4 : Bool) (w : World) (h : rf07_inside.f k a0 = some (r1, r2, r3, r4)) :
 Calls Tryz.prog 41 #[.string a0] w fun e w' => ∃ v2_ : Value, e = .returned (.tuple #[.agg #[.string r1, .int .u8 r2, v2_], .bool r4]) ∧ Kd.R k43 43 w' w.heap.size (fun _ => True) v2_ r3 ∧ Below w.heap.size w w' := by
 have hu41 := Tryz.underlying41
 have hu43 := Tryz.underlying43
 have HB := Aside0.mk (Below.refl w.heap.size w)
 have H : (if a0.toList = ([] : List UInt8) then (rf07_inside.j0 k a0 false (⟨#[]⟩ : ByteArray) 0) else (if 0 < (a0.size : Int) then (if (bt a0 0) = 0 then (rf07_inside.j0 k a0 false (⟨#[]⟩ : ByteArray) 0) else ((rf07_Operator.f k (bt a0 0)).bind fun t150 => (rf07_inside.j0 k a0 t150 (⟨#[]⟩ : ByteArray) 0))) else (none))) = some (r1, r2, r3, r4) := h
 clear h
 have HC2 := Aside0.mk H
 clear H
 go_enter Tryz.func41, Tryz.ntmps41
 go_upto_region 2 with (first | ((with_reducible refine gate_dst (N := 2) rfl ?_); refine box_event ?hg (N := 2) ?hd (cs := #[.string (⟨#[]⟩ : ByteArray), .int .u8 0, .slice none 0 0]) (t := 41) ?hr ?_; (case hd => rfl); (case hg => rfl); (case hr => first | (go_simp; done) | (go_simp; rfl)); intro gb148 hg w3 hbox hb; have n0_ := Aside0.mk (below_step (by repeat (first | (with_reducible first | exact HB.out | apply below_alloc | apply pw_below_drewN | apply below_drew1) | exact HB.out)) hb); have n1_ := Aside0.mk (hbox); have n2_ := Aside0.mk ((by rw [hg]; exact (below_size (by repeat (first | (with_reducible first | exact HB.out | apply below_alloc | apply pw_below_drewN | apply below_drew1) | exact HB.out))) : w.heap.size ≤ gb148)); have n3_ := Aside0.mk ((by rw [hg]; exact (below_size (by repeat (first | (with_reducible first | exact HB.out | apply below_alloc | apply pw_below_drewN | apply below_drew1) | exact HB.out))) : w.heap.size ≤ gb148)); clear HB; have HB := n0_; have BK148 := n1_; have GW148 := n2_; have GE148 := n3_; clear n0_ n1_ n2_ n3_; clear hb hbox hg) | ((with_reducible refine gate_dst (N := 4) rfl ?_); refine box_event ?hg (N := 4) ?hd (cs := #[.string (⟨#[]⟩ : ByteArray), .int .u8 0, .slice none 0 0]) (t := 41) ?hr ?_; (case hd => rfl); (case hg => rfl); (case hr => first | (go_simp; done) | (go_simp; rfl)); intro gb149 hg w4 hbox hb; have n0_ := Aside0.mk (blk_below (g := gb148) (o := .cells #[.string (⟨#[]⟩ : ByteArray), .int .u8 0, .slice none 0 0] 41 (0, 0)) (by (with_reducible repeat (first | refine blk_drewN ?_ _ | refine blk_drew ?_ | refine blk_alloc ?_ _)); exact BK148.out) hb); have n1_ := Aside0.mk (below_step (by repeat (first | (with_reducible first | exact HB.out | apply below_alloc | apply pw_below_drewN | apply below_drew1 | refine below_set ?_ GE148.out) | exact HB.out)) hb); have n2_ := Aside0.mk (hbox); have n3_ := Aside0.mk ((by rw [hg]; exact (below_size (by repeat (first | (with_reducible first | exact HB.out | apply below_alloc | apply pw_below_drewN | apply below_drew1 | refine below_set ?_ GE148.out) | exact HB.out))) : w.heap.size ≤ gb149)); have n4_ := Aside0.mk ((by rw [hg]; exact (below_size (by repeat (first | (with_reducible first | exact HB.out | apply below_alloc | apply pw_below_drewN | apply below_drew1 | refine below_set ?_ GE148.out) | exact HB.out))) : w.heap.size ≤ gb149)); have n5_ := Aside0.mk ((by rw [hg]; exact Nat.ne_of_lt (blk_lt (g := gb148) (o := .cells #[.string (⟨#[]⟩ : ByteArray), .int .u8 0, .slice none 0 0] 41 (0, 0)) (by (with_reducible repeat (first | refine blk_drewN ?_ _ | refine blk_drew ?_ | refine blk_alloc ?_ _)); exact BK148.out)) : gb148 ≠ gb149)); have n6_ := Aside0.mk ((by rw [hg]; exact Nat.ne_of_gt (blk_lt (g := gb148) (o := .cells #[.string (⟨#[]⟩ : ByteArray), .int .u8 0, .slice none 0 0] 41 (0, 0)) (by (with_reducible repeat (first | refine blk_drewN ?_ _ | refine blk_drew ?_ | refine blk_alloc ?_ _)); exact BK148.out)) : gb149 ≠ gb148)); clear BK148; clear HB; have BK148 := n0_; have HB := n1_; have BK149 := n2_; have GW149 := n3_; have GE149 := n4_; have NB148_149 := n5_; have NB149_148 := n6_; clear n0_ n1_ n2_ n3_ n4_ n5_ n6_; clear hb hbox hg; have hnb5 := NB149_148.out; have hnc5 := NB148_149.out; have hcz6_0 : w4.cell? ⟨gb149, 0, none⟩ = some (.string (⟨#[]⟩ : ByteArray)) := (blk_cell BK149.out 0).trans rfl; have hcz6_1 : w4.cell? ⟨gb149, 1, none⟩ = some (.int .u8 0) := (blk_cell BK149.out 1).trans rfl; have hcz6_2 : w4.cell? ⟨gb149, 2, none⟩ = some (.slice none 0 0) := (blk_cell BK149.out 2).trans rfl; have hfz6_0 := blk_frozen BK149.out 0; have hfz6_1 := blk_frozen BK149.out 1; have hfz6_2 := blk_frozen BK149.out 2))
 (try simp only [Act.put, List.setIfInBounds_toArray, List.set_cons_zero, List.set_cons_succ])
 go_cut [21] (fun v21 wc => ∃ (kq : Nat) (x21_1 : Bool), v21 = .bool x21_1 ∧ Aside0 (rf07_inside.j0 kq a0 x21_1 (⟨#[]⟩ : ByteArray) 0 = some (r1, r2, r3, r4)) ∧ Aside0 (kq ≤ k) ∧ Aside0 (wc.heap[gb148]? = some (.cells #[.string (⟨#[]⟩ : ByteArray), .int .u8 0, (.slice none 0 0)] 41 (0, 0))) ∧ Aside0 (wc.heap[gb149]? = some (.cells #[.string (⟨#[]⟩ : ByteArray), .int .u8 0, (.slice none 0 0)] 41 (0, 0))) ∧ Aside0 (Below w.heap.size w wc))
 case first =>
  have H := HC2.out
  clear HC2
  by_cases c7 : a0.toList = ([] : List UInt8)
  · rw [if_pos c7] at H
    have c7b0 : (a0.toList == ([] : List UInt8)) = true := beq_iff_eq.mpr c7
    have c7b1 : (a0.toList != ([] : List UInt8)) = false := bne_eq_false_iff_eq.mpr c7
    clear c7
    (first | rw [c7b0] | (simp only [i64_w, i32_w]; rw [c7b0]) | skip)
    have H' := Aside0.mk H
    clear H
    go_wp2
    go_meet
    case rel => exact ⟨_, (false), (by first | rfl | (simp; done) | (simp [*]; done)), H', ⟨by first | omega | exact Nat.le_refl _⟩, ⟨by (with_reducible repeat (first | refine blk_drewN ?_ _ | refine blk_drew ?_ | refine blk_alloc ?_ _)); refine blk_far ?_ NB148_149.out _; (with_reducible repeat (first | refine blk_drewN ?_ _ | refine blk_drew ?_ | refine blk_alloc ?_ _)); refine blk_far ?_ NB148_149.out _; (with_reducible repeat (first | refine blk_drewN ?_ _ | refine blk_drew ?_ | refine blk_alloc ?_ _)); refine blk_far ?_ NB148_149.out _; (with_reducible repeat (first | refine blk_drewN ?_ _ | refine blk_drew ?_ | refine blk_alloc ?_ _)); exact BK148.out⟩, ⟨by (with_reducible repeat (first | refine blk_drewN ?_ _ | refine blk_drew ?_ | refine blk_alloc ?_ _)); refine blk_put (cs := #[.string (⟨#[]⟩ : ByteArray), .int .u8 0, .slice none 0 0]) ?_ 2 _ rfl; (with_reducible repeat (first | refine blk_drewN ?_ _ | refine blk_drew ?_ | refine blk_alloc ?_ _)); refine blk_put (cs := #[.string (⟨#[]⟩ : ByteArray), .int .u8 0, .slice none 0 0]) ?_ 1 _ rfl; (with_reducible repeat (first | refine blk_drewN ?_ _ | refine blk_drew ?_ | refine blk_alloc ?_ _)); refine blk_put (cs := #[.string (⟨#[]⟩ : ByteArray), .int .u8 0, .slice none 0 0]) ?_ 0 _ rfl; (with_reducible repeat (first | refine blk_drewN ?_ _ | refine blk_drew ?_ | refine blk_alloc ?_ _)); exact BK149.out⟩, ⟨by repeat (first | (with_reducible first | exact HB.out | apply below_alloc | apply pw_below_drewN | apply below_drew1 | refine below_set ?_ GE148.out | refine below_set ?_ GE149.out) | exact HB.out)⟩⟩
  · rw [if_neg c7] at H
    have c7b0 : (a0.toList == ([] : List UInt8)) = false := beq_eq_false_iff_ne.mpr c7
    have c7b1 : (a0.toList != ([] : List UInt8)) = true := bne_iff_ne.mpr c7
    (first | rw [c7b0] | (simp only [i64_w, i32_w]; rw [c7b0]) | skip)
    by_cases c8 : 0 < (a0.size : Int)
    · rw [if_pos c8] at H
      have c8b0 : decide (0 < (a0.size : Int)) = true := decide_eq_true c8
      have c8b1 : decide (0 < a0.size) = true := decide_eq_true (by omega)
      clear c8
      by_cases c10 : (bt a0 0) = 0
      · rw [if_pos c10] at H
        have c10b0 : ((bt a0 0) == 0) = true := beq_iff_eq.mpr c10
        have c10b1 : ((bt a0 0) != 0) = false := bne_eq_false_iff_eq.mpr c10
        clear c10
        have H' := Aside0.mk H
        clear H
        have p9 : 0 ≤ (0 : Int) := (by omega)
        have q9 : 0 < a0.size := (by have : (0 : Int) < (a0.size : Int) := of_decide_eq_true (by first | (with_reducible assumption) | assumption); omega)
        have hx9 : ∀ h : 0 < a0.size, ((a0[0]'h).toNat : Int) = bt a0 0 := bt_at a0 0
        clear p9
        have qi9 : (0 < (a0.size : Int)) = True := eq_true (of_decide_eq_true (by first | (with_reducible assumption) | assumption))
        replace q9 := eq_true q9
        go_wp2
        go_meet
        case rel => exact ⟨_, (false), (by first | rfl | (simp; done) | (simp [*]; done)), H', ⟨by first | omega | exact Nat.le_refl _⟩, ⟨by (with_reducible repeat (first | refine blk_drewN ?_ _ | refine blk_drew ?_ | refine blk_alloc ?_ _)); refine blk_far ?_ NB148_149.out _; (with_reducible repeat (first | refine blk_drewN ?_ _ | refine blk_drew ?_ | refine blk_alloc ?_ _)); refine blk_far ?_ NB148_149.out _; (with_reducible repeat (first | refine blk_drewN ?_ _ | refine blk_drew ?_ | refine blk_alloc ?_ _)); refine blk_far ?_ NB148_149.out _; (with_reducible repeat (first | refine blk_drewN ?_ _ | refine blk_drew ?_ | refine blk_alloc ?_ _)); exact BK148.out⟩, ⟨by (with_reducible repeat (first | refine blk_drewN ?_ _ | refine blk_drew ?_ | refine blk_alloc ?_ _)); refine blk_put (cs := #[.string (⟨#[]⟩ : ByteArray), .int .u8 0, .slice none 0 0]) ?_ 2 _ rfl; (with_reducible repeat (first | refine blk_drewN ?_ _ | refine blk_drew ?_ | refine blk_alloc ?_ _)); refine blk_put (cs := #[.string (⟨#[]⟩ : ByteArray), .int .u8 0, .slice none 0 0]) ?_ 1 _ rfl; (with_reducible repeat (first | refine blk_drewN ?_ _ | refine blk_drew ?_ | refine blk_alloc ?_ _)); refine blk_put (cs := #[.string (⟨#[]⟩ : ByteArray), .int .u8 0, .slice none 0 0]) ?_ 0 _ rfl; (with_reducible repeat (first | refine blk_drewN ?_ _ | refine blk_drew ?_ | refine blk_alloc ?_ _)); exact BK149.out⟩, ⟨by repeat (first | (with_reducible first | exact HB.out | apply below_alloc | apply pw_below_drewN | apply below_drew1 | refine below_set ?_ GE148.out | refine below_set ?_ GE149.out) | exact HB.out)⟩⟩
      · rw [if_neg c10] at H
        have c10b0 : ((bt a0 0) == 0) = false := beq_eq_false_iff_ne.mpr c10
        have c10b1 : ((bt a0 0) != 0) = true := bne_iff_ne.mpr c10
        replace H := Option.bind_eq_some_iff.mp H
        obtain ⟨t150, A120, H⟩ := H
        replace H : (rf07_inside.j0 k a0 t150 (⟨#[]⟩ : ByteArray) 0) = some (r1, r2, r3, r4) := H
        have A12 := Aside0.mk A120
        clear A120
        have H' := Aside0.mk H
        clear H
        have p9 : 0 ≤ (0 : Int) := (by omega)
        have q9 : 0 < a0.size := (by have : (0 : Int) < (a0.size : Int) := of_decide_eq_true (by first | (with_reducible assumption) | assumption); omega)
        have hx9 : ∀ h : 0 < a0.size, ((a0[0]'h).toNat : Int) = bt a0 0 := bt_at a0 0
        clear p9
        have qi9 : (0 < (a0.size : Int)) = True := eq_true (of_decide_eq_true (by first | (with_reducible assumption) | assumption))
        replace q9 := eq_true q9
        have p11 : 0 ≤ (0 : Int) := (by omega)
        have q11 : 0 < a0.size := (by have : (0 : Int) < (a0.size : Int) := of_decide_eq_true (by first | (with_reducible assumption) | assumption); omega)
        have hx11 : ∀ h : 0 < a0.size, ((a0[0]'h).toNat : Int) = bt a0 0 := bt_at a0 0
        clear p11
        have qi11 : (0 < (a0.size : Int)) = True := eq_true (of_decide_eq_true (by first | (with_reducible assumption) | assumption))
        replace q11 := eq_true q11
        go_wp2_with (first | (go_at_call 20; (with_reducible refine (rf07_Operator.calls k (bt a0 0) t150 _ A12.out).mono ?_); rintro e w' ⟨rfl, ⟨nd, rfl⟩⟩))
        go_meet
        case rel => exact ⟨_, (t150), (by first | rfl | (simp; done) | (simp [*]; done)), H', ⟨by first | omega | exact Nat.le_refl _⟩, ⟨by (with_reducible repeat (first | refine blk_drewN ?_ _ | refine blk_drew ?_ | refine blk_alloc ?_ _)); refine blk_far ?_ NB148_149.out _; (with_reducible repeat (first | refine blk_drewN ?_ _ | refine blk_drew ?_ | refine blk_alloc ?_ _)); refine blk_far ?_ NB148_149.out _; (with_reducible repeat (first | refine blk_drewN ?_ _ | refine blk_drew ?_ | refine blk_alloc ?_ _)); refine blk_far ?_ NB148_149.out _; (with_reducible repeat (first | refine blk_drewN ?_ _ | refine blk_drew ?_ | refine blk_alloc ?_ _)); exact BK148.out⟩, ⟨by (with_reducible repeat (first | refine blk_drewN ?_ _ | refine blk_drew ?_ | refine blk_alloc ?_ _)); refine blk_put (cs := #[.string (⟨#[]⟩ : ByteArray), .int .u8 0, .slice none 0 0]) ?_ 2 _ rfl; (with_reducible repeat (first | refine blk_drewN ?_ _ | refine blk_drew ?_ | refine blk_alloc ?_ _)); refine blk_put (cs := #[.string (⟨#[]⟩ : ByteArray), .int .u8 0, .slice none 0 0]) ?_ 1 _ rfl; (with_reducible repeat (first | refine blk_drewN ?_ _ | refine blk_drew ?_ | refine blk_alloc ?_ _)); refine blk_put (cs := #[.string (⟨#[]⟩ : ByteArray), .int .u8 0, .slice none 0 0]) ?_ 0 _ rfl; (with_reducible repeat (first | refine blk_drewN ?_ _ | refine blk_drew ?_ | refine blk_alloc ?_ _)); exact BK149.out⟩, ⟨by repeat (first | (with_reducible first | exact HB.out | apply below_alloc | apply pw_below_drewN | apply below_drew1 | refine below_set ?_ GE148.out | refine below_set ?_ GE149.out) | exact HB.out)⟩⟩
    · rw [if_neg c8] at H
      exact absurd H (by simp)
 case rest =>
  clear HC2
  try clear c1
  try clear p1
  try clear q1
  try clear hx1
  try clear qi1
  try clear p2
  try clear c4
  try clear c5
  try clear c7
  try clear c7b0
  try clear c7b1
  try clear c8
  try clear c8b0
  try clear c8b1
  try clear p9
  try clear q9
  try clear hx9
  try clear qi9
  try clear c10
  try clear c10b0
  try clear c10b1
  try clear p11
  try clear q11
  try clear hx11
  try clear qi11
  try clear hcz6_0
  try clear hcz6_1
  try clear hcz6_2
  try clear hfz6_0
  try clear hfz6_1
  try clear hfz6_2
  try clear p11
  try clear p9
  try clear q11
  try clear q9
  obtain ⟨kq, x21_1, rfl, HA, HJ1, BK148, BK149, HB⟩ := hcut
  cases kq with
  | zero => exact absurd HA.out (by simp [rf07_inside.j0])
  | succ kj1 =>
   have H := HA.out
   clear HA
   simp only [rf07_inside.j0] at H
   have HC13 := Aside0.mk H
   clear H
   go_upto_if 21 with (fail)
   go_cut [0] (fun v0 wc => ∃ (kq : Nat) (x0_12 : ByteArray) (x150001_12 : Int), v0 = .string x0_12 ∧ Aside0 (rf07_inside.j1 kq x0_12 (⟨#[]⟩ : ByteArray) x150001_12 = some (r1, r2, r3, r4)) ∧ Aside0 (kq ≤ kj1) ∧ Aside0 (wc.heap[gb148]? = some (.cells #[.string (⟨#[]⟩ : ByteArray), .int .u8 0, (.slice none 0 0)] 41 (0, 0))) ∧ Aside0 (wc.heap[gb149]? = some (.cells #[.string (⟨#[]⟩ : ByteArray), .int .u8 x150001_12, (.slice none 0 0)] 41 (0, 0))) ∧ Aside0 (Below w.heap.size w wc))
   case first =>
    have H := HC13.out
    clear HC13
    by_cases c14 : x21_1 = true
    · subst c14
      have H1 : (if 0 < (a0.size : Int) then (if 1 ≤ (a0.size : Int) then (rf07_inside.j1 kj1 (a0.extract 1 a0.size) (⟨#[]⟩ : ByteArray) (bt a0 0)) else (none)) else (none)) = some (r1, r2, r3, r4) := by rw [if_pos rfl] at H; exact H
      clear H
      have H := H1
      clear H1
      by_cases c15 : 0 < (a0.size : Int)
      · rw [if_pos c15] at H
        have c15b0 : decide (0 < (a0.size : Int)) = true := decide_eq_true c15
        have c15b1 : decide (0 < a0.size) = true := decide_eq_true (by omega)
        clear c15
        (first | rw [c15b0] | (simp only [i64_w, i32_w]; rw [c15b0]) | skip)
        by_cases c17 : 1 ≤ (a0.size : Int)
        · rw [if_pos c17] at H
          have c17b0 := eq_true c17
          have c17b1 : decide (1 ≤ (a0.size : Int)) = true := decide_eq_true c17
          clear c17
          have H' := Aside0.mk H
          clear H
          have p16 : 0 ≤ (0 : Int) := (by omega)
          have q16 : 0 < a0.size := (by have : (0 : Int) < (a0.size : Int) := of_decide_eq_true (by first | (with_reducible assumption) | assumption); omega)
          have hx16 : ∀ h : 0 < a0.size, ((a0[0]'h).toNat : Int) = bt a0 0 := bt_at a0 0
          clear p16
          have qi16 : (0 < (a0.size : Int)) = True := eq_true (of_decide_eq_true (by first | (with_reducible assumption) | assumption))
          replace q16 := eq_true q16
          have hnb18 := NB149_148.out
          have hnc18 := NB148_149.out
          have hcz19_0 : wc.cell? ⟨gb149, 0, none⟩ = some (.string (⟨#[]⟩ : ByteArray)) := (blk_cell BK149.out 0).trans rfl
          have hcz19_1 : wc.cell? ⟨gb149, 1, none⟩ = some (.int .u8 0) := (blk_cell BK149.out 1).trans rfl
          have hcz19_2 : wc.cell? ⟨gb149, 2, none⟩ = some (.slice none 0 0) := (blk_cell BK149.out 2).trans rfl
          have hfz19_0 := blk_frozen BK149.out 0
          have hfz19_1 := blk_frozen BK149.out 1
          have hfz19_2 := blk_frozen BK149.out 2
          go_wp2
          go_meet
          case rel => exact ⟨_, (a0.extract 1 a0.size), (bt a0 0), (by first | rfl | (simp; done) | (simp [*]; done)), H', ⟨by have := HJ1.out; first | omega | exact Nat.le_refl _⟩, ⟨by (with_reducible repeat (first | refine blk_drewN ?_ _ | refine blk_drew ?_ | refine blk_alloc ?_ _)); refine blk_far ?_ NB148_149.out _; (with_reducible repeat (first | refine blk_drewN ?_ _ | refine blk_drew ?_ | refine blk_alloc ?_ _)); exact BK148.out⟩, ⟨by (with_reducible repeat (first | refine blk_drewN ?_ _ | refine blk_drew ?_ | refine blk_alloc ?_ _)); refine blk_put (cs := #[.string (⟨#[]⟩ : ByteArray), .int .u8 0, .slice none 0 0]) ?_ 1 _ rfl; (with_reducible repeat (first | refine blk_drewN ?_ _ | refine blk_drew ?_ | refine blk_alloc ?_ _)); exact BK149.out⟩, ⟨by repeat (first | (with_reducible first | exact HB.out | apply below_alloc | apply pw_below_drewN | apply below_drew1 | refine below_set ?_ GE148.out | refine below_set ?_ GE149.out) | exact HB.out)⟩⟩
        · rw [if_neg c17] at H
          exact absurd H (by simp)
      · rw [if_neg c15] at H
        exact absurd H (by simp)
    · replace c14 := Bool.eq_false_iff.mpr c14
      subst c14
      have H1 : (rf07_inside.j1 kj1 a0 (⟨#[]⟩ : ByteArray) 0) = some (r1, r2, r3, r4) := by rw [if_neg (show ¬ (false = true) by decide)] at H; exact H
      clear H
      have H := H1
      clear H1
      have H' := Aside0.mk H
      clear H
      go_wp2
      go_meet
      case rel => exact ⟨_, (a0), (0), (by first | rfl | (simp; done) | (simp [*]; done)), H', ⟨by have := HJ1.out; first | omega | exact Nat.le_refl _⟩, ⟨by (with_reducible repeat (first | refine blk_drewN ?_ _ | refine blk_drew ?_ | refine blk_alloc ?_ _)); exact BK148.out⟩, ⟨by (with_reducible repeat (first | refine blk_drewN ?_ _ | refine blk_drew ?_ | refine blk_alloc ?_ _)); exact BK149.out⟩, ⟨by repeat (first | (with_reducible first | exact HB.out | apply below_alloc | apply pw_below_drewN | apply below_drew1 | refine below_set ?_ GE148.out | refine below_set ?_ GE149.out) | exact HB.out)⟩⟩
   case rest =>
    clear HC13
    try clear c1
    try clear p1
    try clear q1
    try clear hx1
    try clear qi1
    try clear p2
    try clear c4
    try clear c5
    try clear c7
    try clear c7b0
    try clear c7b1
    try clear c8
    try clear c8b0
    try clear c8b1
    try clear p9
    try clear q9
    try clear hx9
    try clear qi9
    try clear c10
    try clear c10b0
    try clear c10b1
    try clear p11
    try clear q11
    try clear hx11
    try clear qi11
    try clear c14
    try clear c15
    try clear c15b0
    try clear c15b1
    try clear p16
    try clear q16
    try clear hx16
    try clear qi16
    try clear c17
    try clear c17b0
    try clear c17b1
    try clear c18
    try clear hcz19_0
    try clear hcz19_1
    try clear hcz19_2
    try clear hcz6_0
    try clear hcz6_1
    try clear hcz6_2
    try clear hfz19_0
    try clear hfz19_1
    try clear hfz19_2
    try clear hfz6_0
    try clear hfz6_1
    try clear hfz6_2
    try clear p1
    try clear p11
    try clear p16
    try clear p2
    try clear p9
    try clear q1
    try clear q11
    try clear q16
    try clear q9
    obtain ⟨kq, x0_12, x150001_12, rfl, HA, HJ12, BK148, BK149, HB⟩ := hcut
    cases kq with
    | zero => exact absurd HA.out (by simp [rf07_inside.j1])
    | succ kj12 =>
     have H := HA.out
     clear HA
     simp only [rf07_inside.j1] at H
     have H' := Aside0.mk H
     clear H
     go_wp2
     go_loopg [5, 6] kj12 (fun kq v5 v6 w' => ∃ (x5_3 : ByteArray) (x6_3 : Int) (x149000_3 : ByteArray) (x149001_3 : Int) (x150002_3 : List (S43)) (u150002 : Value), v5 = .string x5_3 ∧ v6 = .int .i64 x6_3 ∧ Aside0 (rf07_inside.l0 kq x0_12 x5_3 x6_3 (⟨#[]⟩ : ByteArray) x150001_12 x150002_3 = some (r1, r2, r3, r4)) ∧ Aside0 (kq ≤ kj12) ∧ Aside0 (Kd.R k43 43 w' w.heap.size (fun _ => True) u150002 x150002_3) ∧ Aside0 (w'.heap[gb148]? = some (.cells #[.string x149000_3, .int .u8 x149001_3, (.slice none 0 0)] 41 (0, 0))) ∧ Aside0 (w'.heap[gb149]? = some (.cells #[.string (⟨#[]⟩ : ByteArray), .int .u8 x150001_12, u150002] 41 (0, 0))) ∧ Aside0 (Below w.heap.size w w'))
     case atStart => exact ⟨((⟨#[]⟩ : ByteArray)), (0), ((⟨#[]⟩ : ByteArray)), (0), (([] : List (S43))), (.slice none 0 0), (by first | rfl | (simp; done) | (simp [*]; done)), (by first | rfl | (simp; done) | (simp [*]; done)), H', ⟨Nat.le_refl _⟩, ⟨by first | exact Kd.R_nil _ _ _ _ _ | exact Kd.N_nil _ _ _ _ _ | exact Kd.V_nil _ _ _ _ _ | exact Kd.Q_nil _ _ _ _ _ | exact Kd.S_nil _ _ _ _ _⟩, ⟨by (with_reducible repeat (first | refine blk_drewN ?_ _ | refine blk_drew ?_ | refine blk_alloc ?_ _)); exact BK148.out⟩, ⟨by (with_reducible repeat (first | refine blk_drewN ?_ _ | refine blk_drew ?_ | refine blk_alloc ?_ _)); exact BK149.out⟩, ⟨by repeat (first | (with_reducible first | exact HB.out | apply below_alloc | apply pw_below_drewN | apply below_drew1 | refine below_set ?_ GE148.out | refine below_set ?_ GE149.out) | exact HB.out)⟩⟩
     case round =>
      clear H'
      try clear c1
      try clear p1
      try clear q1
      try clear hx1
      try clear qi1
      try clear p2
      try clear c4
      try clear c5
      try clear c7
      try clear c7b0
      try clear c7b1
      try clear c8
      try clear c8b0
      try clear c8b1
      try clear p9
      try clear q9
      try clear hx9
      try clear qi9
      try clear c10
      try clear c10b0
      try clear c10b1
      try clear p11
      try clear q11
      try clear hx11
      try clear qi11
      try clear c14
      try clear c15
      try clear c15b0
      try clear c15b1
      try clear p16
      try clear q16
      try clear hx16
      try clear qi16
      try clear c17
      try clear c17b0
      try clear c17b1
      try clear c18
      try clear hcz19_0
      try clear hcz19_1
      try clear hcz19_2
      try clear hcz6_0
      try clear hcz6_1
      try clear hcz6_2
      try clear hfz19_0
      try clear hfz19_1
      try clear hfz19_2
      try clear hfz6_0
      try clear hfz6_1
      try clear hfz6_2
      try clear p1
      try clear p11
      try clear p16
      try clear p2
      try clear p9
      try clear q1
      try clear q11
      try clear q16
      try clear q9
      obtain ⟨x5_3, x6_3, x149000_3, x149001_3, x150002_3, u150002, rfl, rfl, HA, HK3, HO_150002, BK148, BK149, HB⟩ := hrel
      cases gk with
      | zero => exact absurd HA.out (by simp [rf07_inside.l0])
      | succ k3 =>
       have H := HA.out
       clear HA
       simp only [rf07_inside.l0] at H
       by_cases c20 : x6_3 ≤ (x0_12.size : Int)
       · rw [if_pos c20] at H
         have c20b0 : decide (x6_3 ≤ (x0_12.size : Int)) = true := decide_eq_true c20
         clear c20
         have HC21 := Aside0.mk H
         clear H
         go_upto_region 9 with (fail)
         go_cut [42] (fun v42 wc => ∃ (kq : Nat) (x42_20 : Bool), v42 = .bool x42_20 ∧ Aside0 (rf07_inside.j3 kq x0_12 x5_3 x6_3 x42_20 (⟨#[]⟩ : ByteArray) x150001_12 x150002_3 = some (r1, r2, r3, r4)) ∧ Aside0 (kq ≤ k3) ∧ Aside0 (Kd.R k43 43 wc w.heap.size (fun _ => True) u150002 x150002_3) ∧ Aside0 (wc.heap[gb148]? = some (.cells #[.string x149000_3, .int .u8 x149001_3, (.slice none 0 0)] 41 (0, 0))) ∧ Aside0 (wc.heap[gb149]? = some (.cells #[.string (⟨#[]⟩ : ByteArray), .int .u8 x150001_12, u150002] 41 (0, 0))) ∧ Aside0 (Below w.heap.size w wc))
         case first =>
          have H := HC21.out
          clear HC21
          by_cases c22 : x6_3 < (x0_12.size : Int)
          · rw [if_pos c22] at H
            have c22b0 : decide (x6_3 < (x0_12.size : Int)) = true := decide_eq_true c22
            clear c22
            (first | rw [c22b0] | (simp only [i64_w, i32_w]; rw [c22b0]) | skip)
            by_cases c23 : 0 ≤ x6_3
            · rw [if_pos c23] at H
              have c23b0 : decide (0 ≤ x6_3) = true := decide_eq_true c23
              clear c23
              have H' := Aside0.mk H
              clear H
              have p24 : 0 ≤ (x6_3 : Int) := of_decide_eq_true (by first | (with_reducible assumption) | assumption)
              have q24 : x6_3 < (x0_12.size : Int) := of_decide_eq_true (by first | (with_reducible assumption) | assumption)
              have hx24 := bt_at x0_12 x6_3
              replace p24 := eq_true p24
              replace q24 := eq_true q24
              go_wp2
              go_meet
              case rel => exact ⟨_, (((bt x0_12 x6_3) != 44)), (by first | rfl | (simp; done) | (simp [*]; done)), H', ⟨by have := HJ1.out; have := HJ12.out; have := HK3.out; first | omega | exact Nat.le_refl _⟩, ⟨by (with_reducible repeat (first | apply Kd.R_alloc | apply Kd.R_drewN | apply Kd.R_drew)); exact HO_150002.out⟩, ⟨by (with_reducible repeat (first | refine blk_drewN ?_ _ | refine blk_drew ?_ | refine blk_alloc ?_ _)); exact BK148.out⟩, ⟨by (with_reducible repeat (first | refine blk_drewN ?_ _ | refine blk_drew ?_ | refine blk_alloc ?_ _)); exact BK149.out⟩, ⟨by repeat (first | (with_reducible first | exact HB.out | apply below_alloc | apply pw_below_drewN | apply below_drew1 | refine below_set ?_ GE148.out | refine below_set ?_ GE149.out) | exact HB.out)⟩⟩
            · rw [if_neg c23] at H
              exact absurd H (by simp)
          · rw [if_neg c22] at H
            have c22b0 : decide (x6_3 < (x0_12.size : Int)) = false := decide_eq_false c22
            clear c22
            (first | rw [c22b0] | (simp only [i64_w, i32_w]; rw [c22b0]) | skip)
            have H' := Aside0.mk H
            clear H
            go_wp2
            go_meet
            case rel => exact ⟨_, (false), (by first | rfl | (simp; done) | (simp [*]; done)), H', ⟨by have := HJ1.out; have := HJ12.out; have := HK3.out; first | omega | exact Nat.le_refl _⟩, ⟨by (with_reducible repeat (first | apply Kd.R_alloc | apply Kd.R_drewN | apply Kd.R_drew)); exact HO_150002.out⟩, ⟨by (with_reducible repeat (first | refine blk_drewN ?_ _ | refine blk_drew ?_ | refine blk_alloc ?_ _)); exact BK148.out⟩, ⟨by (with_reducible repeat (first | refine blk_drewN ?_ _ | refine blk_drew ?_ | refine blk_alloc ?_ _)); exact BK149.out⟩, ⟨by repeat (first | (with_reducible first | exact HB.out | apply below_alloc | apply pw_below_drewN | apply below_drew1 | refine below_set ?_ GE148.out | refine below_set ?_ GE149.out) | exact HB.out)⟩⟩
         case rest =>
          clear HC21
          try clear c1
          try clear p1
          try clear q1
          try clear hx1
          try clear qi1
          try clear c2
          try clear p2
          try clear q2
          try clear hx2
          try clear c4
          try clear c5
          try clear c7
          try clear c7b0
          try clear c7b1
          try clear c8
          try clear c8b0
          try clear c8b1
          try clear p9
          try clear q9
          try clear hx9
          try clear qi9
          try clear c10
          try clear c10b0
          try clear c10b1
          try clear p11
          try clear q11
          try clear hx11
          try clear qi11
          try clear c14
          try clear c15
          try clear c15b0
          try clear c15b1
          try clear p16
          try clear q16
          try clear hx16
          try clear qi16
          try clear c17
          try clear c17b0
          try clear c17b1
          try clear c18
          try clear c20
          try clear c20b0
          try clear c22
          try clear c22b0
          try clear c23
          try clear c23b0
          try clear p24
          try clear q24
          try clear hx24
          try clear hcz19_0
          try clear hcz19_1
          try clear hcz19_2
          try clear hcz6_0
          try clear hcz6_1
          try clear hcz6_2
          try clear hfz19_0
          try clear hfz19_1
          try clear hfz19_2
          try clear hfz6_0
          try clear hfz6_1
          try clear hfz6_2
          try clear p1
          try clear p11
          try clear p16
          try clear p2
          try clear p24
          try clear p9
          try clear q1
          try clear q11
          try clear q16
          try clear q24
          try clear q9
          obtain ⟨kq, x42_20, rfl, HA, HJ20, HO_150002, BK148, BK149, HB⟩ := hcut
          cases kq with
          | zero => exact absurd HA.out (by simp [rf07_inside.j3])
          | succ kj20 =>
           have H := HA.out
           clear HA
           simp only [rf07_inside.j3] at H
           by_cases c25 : x42_20 = true
           · subst c25
             have H1 : (if 0 ≤ x6_3 then (if x6_3 ≤ (wrap64 (x6_3 + 1)) then (if (wrap64 (x6_3 + 1)) ≤ (x0_12.size : Int) then (if x5_3.size + (x0_12.extract (x6_3 : Int).toNat ((wrap64 (x6_3 + 1)) : Int).toNat).size ≤ 9223372036854775807 then (rf07_inside.l0 kj20 x0_12 (x5_3 ++ (x0_12.extract (x6_3 : Int).toNat ((wrap64 (x6_3 + 1)) : Int).toNat)) (wrap64 (x6_3 + 1)) (⟨#[]⟩ : ByteArray) x150001_12 x150002_3) else (none)) else (none)) else (none)) else (none)) = some (r1, r2, r3, r4) := by rw [if_pos rfl] at H; exact H
             clear H
             have H := H1
             clear H1
             by_cases c26 : 0 ≤ x6_3
             · rw [if_pos c26] at H
               have c26b0 := eq_true c26
               have c26b1 : decide (0 ≤ x6_3) = true := decide_eq_true c26
               clear c26
               by_cases c27 : x6_3 ≤ (wrap64 (x6_3 + 1))
               · rw [if_pos c27] at H
                 have c27b0 := eq_true c27
                 have c27b1 : decide (x6_3 ≤ (wrap64 (x6_3 + 1))) = true := decide_eq_true c27
                 by_cases c28 : (wrap64 (x6_3 + 1)) ≤ (x0_12.size : Int)
                 · rw [if_pos c28] at H
                   have c28b0 := eq_true c28
                   have c28b1 : decide ((wrap64 (x6_3 + 1)) ≤ (x0_12.size : Int)) = true := decide_eq_true c28
                   by_cases c29 : x5_3.size + (x0_12.extract (x6_3 : Int).toNat ((wrap64 (x6_3 + 1)) : Int).toNat).size ≤ 9223372036854775807
                   · rw [if_pos c29] at H
                     have c29b0 := eq_true c29
                     have c29b1 : decide (x5_3.size + (x0_12.extract (x6_3 : Int).toNat ((wrap64 (x6_3 + 1)) : Int).toNat).size ≤ 9223372036854775807) = true := decide_eq_true c29
                     try (have c29b1s := c29b1; simp only [ByteArray.size_extract, Nat.min_self] at c29b1s)
                     try have c29b2 : (9223372036854775807 < x5_3.size + (x0_12.extract (x6_3 : Int).toNat ((wrap64 (x6_3 + 1)) : Int).toNat).size) = False := eq_false (Nat.not_lt.2 c29)
                     try (have c29b2s := c29b2; simp only [ByteArray.size_extract, Nat.min_self] at c29b2s)
                     have H' := Aside0.mk H
                     clear H
                     go_wp2
                     go_roundg kj20
                     case measure => have := HJ1.out; have := HJ12.out; have := HK3.out; have := HJ20.out; omega
                     case rel => exact ⟨(x5_3 ++ (x0_12.extract (x6_3 : Int).toNat ((wrap64 (x6_3 + 1)) : Int).toNat)), (wrap64 (x6_3 + 1)), (x149000_3), (x149001_3), (x150002_3), (u150002), (by first | rfl | (simp; done) | (simp [*]; done)), (by first | rfl | (simp; done) | (simp [*]; done)), H', ⟨by have := HJ1.out; have := HJ12.out; have := HK3.out; have := HJ20.out; omega⟩, ⟨by (with_reducible repeat (first | apply Kd.R_alloc | apply Kd.R_drewN | apply Kd.R_drew)); exact HO_150002.out⟩, ⟨by (with_reducible repeat (first | refine blk_drewN ?_ _ | refine blk_drew ?_ | refine blk_alloc ?_ _)); exact BK148.out⟩, ⟨by (with_reducible repeat (first | refine blk_drewN ?_ _ | refine blk_drew ?_ | refine blk_alloc ?_ _)); exact BK149.out⟩, ⟨by repeat (first | (with_reducible first | exact HB.out | apply below_alloc | apply pw_below_drewN | apply below_drew1 | refine below_set ?_ GE148.out | refine below_set ?_ GE149.out) | exact HB.out)⟩⟩
                   · rw [if_neg c29] at H
                     exact absurd H (by simp)
                 · rw [if_neg c28] at H
                   exact absurd H (by simp)
               · rw [if_neg c27] at H
                 exact absurd H (by simp)
             · rw [if_neg c26] at H
               exact absurd H (by simp)
           · replace c25 := Bool.eq_false_iff.mpr c25
             subst c25
             have H1 : ((rf06_Is.f kj20 x5_3).bind fun bt151 => (if bt151.2.2.2 = true then (if x150002_3.length < 4398046511104 then (rf07_inside.l0 kj20 x0_12 (⟨#[]⟩ : ByteArray) (wrap64 (x6_3 + 1)) (⟨#[]⟩ : ByteArray) x150001_12 (x150002_3 ++ [(⟨bt151.1, bt151.2.1, bt151.2.2.1⟩ : S43)])) else (none)) else (some ((⟨#[]⟩ : ByteArray), 0, ([] : List (S43)), false)))) = some (r1, r2, r3, r4) := by rw [if_neg (show ¬ (false = true) by decide)] at H; exact H
             clear H
             have H := H1
             clear H1
             replace H := Option.bind_eq_some_iff.mp H
             obtain ⟨⟨t151, t152, t153, t154⟩, A300, H⟩ := H
             replace H : (if t154 = true then (if x150002_3.length < 4398046511104 then (rf07_inside.l0 kj20 x0_12 (⟨#[]⟩ : ByteArray) (wrap64 (x6_3 + 1)) (⟨#[]⟩ : ByteArray) x150001_12 (x150002_3 ++ [(⟨t151, t152, t153⟩ : S43)])) else (none)) else (some ((⟨#[]⟩ : ByteArray), 0, ([] : List (S43)), false))) = some (r1, r2, r3, r4) := H
             have A30 := Aside0.mk A300
             clear A300
             by_cases c31 : t154 = true
             · subst c31
               have H1 : (if x150002_3.length < 4398046511104 then (rf07_inside.l0 kj20 x0_12 (⟨#[]⟩ : ByteArray) (wrap64 (x6_3 + 1)) (⟨#[]⟩ : ByteArray) x150001_12 (x150002_3 ++ [(⟨t151, t152, t153⟩ : S43)])) else (none)) = some (r1, r2, r3, r4) := by rw [if_pos rfl] at H; exact H
               clear H
               have H := H1
               clear H1
               by_cases c32 : x150002_3.length < 4398046511104
               · rw [if_pos c32] at H
                 have LMc32 := Aside0.mk c32
                 clear c32
                 obtain ⟨y156, hy156⟩ : ∃ y_ : List (S43), y_ = (x150002_3 ++ [(⟨t151, t152, t153⟩ : S43)]) := ⟨_, rfl⟩
                 replace H : (rf07_inside.l0 kj20 x0_12 (⟨#[]⟩ : ByteArray) (wrap64 (x6_3 + 1)) (⟨#[]⟩ : ByteArray) x150001_12 y156) = some (r1, r2, r3, r4) := by first | (rw [hy156]; with_reducible exact H) | (have H2_ := (Option.bind_some _ _).symm.trans H; rw [hy156]; with_reducible exact H2_) | (have H2_ := (Option.bind_some _ _).symm.trans H; with_reducible exact H2_) | with_reducible exact H | (rw [hy156]; exact H) | exact H
                 have Ny156 := Aside0.mk hy156
                 clear hy156
                 have H' := Aside0.mk H
                 clear H
                 go_wp2_with (first | ((with_reducible refine gate_callee (f := 58) rfl ?_); refine goesL_ (some 52) rfl rfl Tryz.func58 (by kernel_rfl) rfl #[.string x5_3] rfl (by (try simp only [List.map_toArray, List.map_cons, List.map_nil]); first | done | rfl | (simp only [List.length_drop, List.length_take]; rfl)) ?_; (with_reducible refine (rf06_Is.calls kj20 x5_3 t151 t152 t153 true _ A30.out).mono ?_); rintro e w33 ⟨rfl, hb⟩; refine ⟨_, rfl, ?_⟩; have n0_ := Aside0.mk (Kd.R_below (by (with_reducible repeat (first | apply Kd.R_alloc | apply Kd.R_drewN | apply Kd.R_drew)); exact HO_150002.out) hb); have n1_ := Aside0.mk (blk_below (g := gb148) (o := .cells #[.string x149000_3, .int .u8 x149001_3, .slice none 0 0] 41 (0, 0)) (by (with_reducible repeat (first | refine blk_drewN ?_ _ | refine blk_drew ?_ | refine blk_alloc ?_ _)); exact BK148.out) hb); have n2_ := Aside0.mk (blk_below (g := gb149) (o := .cells #[.string (⟨#[]⟩ : ByteArray), .int .u8 x150001_12, u150002] 41 (0, 0)) (by (with_reducible repeat (first | refine blk_drewN ?_ _ | refine blk_drew ?_ | refine blk_alloc ?_ _)); exact BK149.out) hb); have n3_ := Aside0.mk (below_step (by repeat (first | (with_reducible first | exact HB.out | apply below_alloc | apply pw_below_drewN | apply below_drew1 | refine below_set ?_ GE148.out | refine below_set ?_ GE149.out) | exact HB.out)) hb); clear HO_150002; clear BK148; clear BK149; clear HB; have HO_150002 := n0_; have BK148 := n1_; have BK149 := n2_; have HB := n3_; clear n0_ n1_ n2_ n3_; (try clear hb); (try clear hb2); (try clear hk); (try clear hi)) | ((with_reducible refine gate_dst (N := 7) rfl ?_); refine box_event ?hg (N := 7) ?hd (cs := #[.string (⟨#[]⟩ : ByteArray), .int .i64 0, .bool false]) (t := 43) ?hr ?_; (case hd => rfl); (case hg => rfl); (case hr => first | (go_simp; done) | (go_simp; rfl)); intro gb155 hg w34 hbox hb; have n0_ := Aside0.mk (Kd.R_below (Kd.R_elderB (by (with_reducible repeat (first | apply Kd.R_alloc | apply Kd.R_drewN | apply Kd.R_drew)); exact HO_150002.out) gb155 (Nat.le_of_eq hg.symm)) hb); have n1_ := Aside0.mk (blk_below (g := gb148) (o := .cells #[.string x149000_3, .int .u8 x149001_3, .slice none 0 0] 41 (0, 0)) (by (with_reducible repeat (first | refine blk_drewN ?_ _ | refine blk_drew ?_ | refine blk_alloc ?_ _)); exact BK148.out) hb); have n2_ := Aside0.mk (blk_below (g := gb149) (o := .cells #[.string (⟨#[]⟩ : ByteArray), .int .u8 x150001_12, u150002] 41 (0, 0)) (by (with_reducible repeat (first | refine blk_drewN ?_ _ | refine blk_drew ?_ | refine blk_alloc ?_ _)); exact BK149.out) hb); have n3_ := Aside0.mk (below_step (by repeat (first | (with_reducible first | exact HB.out | apply below_alloc | apply pw_below_drewN | apply below_drew1 | refine below_set ?_ GE148.out | refine below_set ?_ GE149.out) | exact HB.out)) hb); have n4_ := Aside0.mk (hbox); have n5_ := Aside0.mk ((by rw [hg]; exact (below_size (by repeat (first | (with_reducible first | exact HB.out | apply below_alloc | apply pw_below_drewN | apply below_drew1 | refine below_set ?_ GE148.out | refine below_set ?_ GE149.out) | exact HB.out))) : w.heap.size ≤ gb155)); have n6_ := Aside0.mk ((by rw [hg]; exact (below_size (by repeat (first | (with_reducible first | exact HB.out | apply below_alloc | apply pw_below_drewN | apply below_drew1 | refine below_set ?_ GE148.out | refine below_set ?_ GE149.out) | exact HB.out))) : w.heap.size ≤ gb155)); have n7_ := Aside0.mk ((by rw [hg]; exact Nat.ne_of_lt (blk_lt (g := gb148) (o := .cells #[.string x149000_3, .int .u8 x149001_3, .slice none 0 0] 41 (0, 0)) (by (with_reducible repeat (first | refine blk_drewN ?_ _ | refine blk_drew ?_ | refine blk_alloc ?_ _)); exact BK148.out)) : gb148 ≠ gb155)); have n8_ := Aside0.mk ((by rw [hg]; exact Nat.ne_of_gt (blk_lt (g := gb148) (o := .cells #[.string x149000_3, .int .u8 x149001_3, .slice none 0 0] 41 (0, 0)) (by (with_reducible repeat (first | refine blk_drewN ?_ _ | refine blk_drew ?_ | refine blk_alloc ?_ _)); exact BK148.out)) : gb155 ≠ gb148)); have n9_ := Aside0.mk ((by rw [hg]; exact Nat.ne_of_lt (blk_lt (g := gb149) (o := .cells #[.string (⟨#[]⟩ : ByteArray), .int .u8 x150001_12, u150002] 41 (0, 0)) (by (with_reducible repeat (first | refine blk_drewN ?_ _ | refine blk_drew ?_ | refine blk_alloc ?_ _)); exact BK149.out)) : gb149 ≠ gb155)); have n10_ := Aside0.mk ((by rw [hg]; exact Nat.ne_of_gt (blk_lt (g := gb149) (o := .cells #[.string (⟨#[]⟩ : ByteArray), .int .u8 x150001_12, u150002] 41 (0, 0)) (by (with_reducible repeat (first | refine blk_drewN ?_ _ | refine blk_drew ?_ | refine blk_alloc ?_ _)); exact BK149.out)) : gb155 ≠ gb149)); clear HO_150002; clear BK148; clear BK149; clear HB; have HO_150002 := n0_; have BK148 := n1_; have BK149 := n2_; have HB := n3_; have BK155 := n4_; have GW155 := n5_; have GE155 := n6_; have NB148_155 := n7_; have NB155_148 := n8_; have NB149_155 := n9_; have NB155_149 := n10_; clear n0_ n1_ n2_ n3_ n4_ n5_ n6_ n7_ n8_ n9_ n10_; clear hb hbox hg; have hnb35 := NB155_148.out; have hnc35 := NB148_155.out; have hnb36 := NB155_149.out; have hnc36 := NB149_155.out; have hcz37_0 : w34.cell? ⟨gb155, 0, none⟩ = some (.string (⟨#[]⟩ : ByteArray)) := (blk_cell BK155.out 0).trans rfl; have hcz37_1 : w34.cell? ⟨gb155, 1, none⟩ = some (.int .i64 0) := (blk_cell BK155.out 1).trans rfl; have hcz37_2 : w34.cell? ⟨gb155, 2, none⟩ = some (.bool false) := (blk_cell BK155.out 2).trans rfl; have hfz37_0 := blk_frozen BK155.out 0; have hfz37_1 := blk_frozen BK155.out 1; have hfz37_2 := blk_frozen BK155.out 2; have hnb38 := NB149_148.out; have hnc38 := NB148_149.out; have hcz39_0 : w34.cell? ⟨gb149, 0, none⟩ = some (.string (⟨#[]⟩ : ByteArray)) := (blk_cell BK149.out 0).trans rfl; have hcz39_1 : w34.cell? ⟨gb149, 1, none⟩ = some (.int .u8 x150001_12) := (blk_cell BK149.out 1).trans rfl; have hcz39_2 : w34.cell? ⟨gb149, 2, none⟩ = some (u150002) := (blk_cell BK149.out 2).trans rfl; have hfz39_0 := blk_frozen BK149.out 0; have hfz39_1 := blk_frozen BK149.out 1; have hfz39_2 := blk_frozen BK149.out 2) | ((with_reducible refine gate_builtin (b := .append) (xs := #[.tmp 59, .tmp 61]) rfl ?_); at_builtin; refine Kd.R_append k43 (w0 := w) w.heap.size rfl (.tmp 59) (.tmp 61) 39 43 (.agg #[(.string ⟨#[]⟩), (.int .i64 0), (.bool false)]) 32 rfl Tryz.underlying39 info43 rfl (by decide) (by omega) u150002 x150002_3 (⟨t151, t152, t153⟩ : S43) [.string t151, .int .i64 t152, .bool t153] (fun k_ => k_ ≠ gb155) (fun _ => False) rfl (by first | (go_simp; done) | (go_simp; rfl)) ?aP (fun _ hk => hk.elim) ?aF ?aO ?aB ?aS ?aL ?_; (case aP => exact k43_mkM _ _ _ (⟨t151, t152, t153⟩ : S43)); (case aB => exact (by repeat (first | (with_reducible first | exact HB.out | apply below_alloc | apply pw_below_drewN | apply below_drew1 | refine below_set ?_ GE148.out | refine below_set ?_ GE149.out | refine below_set ?_ GE155.out) | exact HB.out))); (case aF => exact (fun k_ hk => Kd.freshB (g := gb155) (o := .cells #[.string t151, .int .i64 t152, .bool t153] 43 (0, 0)) (by (with_reducible repeat (first | refine blk_drewN ?_ _ | refine blk_drew ?_ | refine blk_alloc ?_ _)); refine blk_put (cs := #[.string t151, .int .i64 t152, .bool false]) ?_ 2 _ rfl; (with_reducible repeat (first | refine blk_drewN ?_ _ | refine blk_drew ?_ | refine blk_alloc ?_ _)); refine blk_put (cs := #[.string t151, .int .i64 0, .bool false]) ?_ 1 _ rfl; (with_reducible repeat (first | refine blk_drewN ?_ _ | refine blk_drew ?_ | refine blk_alloc ?_ _)); refine blk_put (cs := #[.string (⟨#[]⟩ : ByteArray), .int .i64 0, .bool false]) ?_ 0 _ rfl; (with_reducible repeat (first | refine blk_drewN ?_ _ | refine blk_drew ?_ | refine blk_alloc ?_ _)); exact BK155.out) k_ hk)); (case aO => exact (by (with_reducible repeat (first | apply Kd.R_alloc | apply Kd.R_drewN | apply Kd.R_drew)); exact Kd.R_mono (Kd.R_far (p := ⟨gb155, 2, none⟩) (Kd.R_far (p := ⟨gb155, 1, none⟩) (Kd.R_far (p := ⟨gb155, 0, none⟩) (Kd.R_mono HO_150002.out (fun k_ hk => (⟨hk, hk.2⟩ : _ ∧ k_ ≠ gb155))) (fun _ hk => hk.2) (.string t151)) (fun _ hk => hk.2) (.int .i64 t152)) (fun _ hk => hk.2) (.bool t153)) (fun _ hk => hk.1.2))); (case aS => exact (below_size (by repeat (first | (with_reducible first | exact HB.out | apply below_alloc | apply pw_below_drewN | apply below_drew1 | refine below_set ?_ GE148.out | refine below_set ?_ GE149.out | refine below_set ?_ GE155.out) | exact HB.out)))); (case aL => have := LMc32.out; omega); intro v157 w40 ho hb hg hat; rw [← Ny156.out] at ho; have n0_ := Aside0.mk (blk_grown (g := gb148) (o := .cells #[.string x149000_3, .int .u8 x149001_3, .slice none 0 0] 41 (0, 0)) (by (with_reducible repeat (first | refine blk_drewN ?_ _ | refine blk_drew ?_ | refine blk_alloc ?_ _)); refine blk_far ?_ NB148_155.out _; (with_reducible repeat (first | refine blk_drewN ?_ _ | refine blk_drew ?_ | refine blk_alloc ?_ _)); refine blk_far ?_ NB148_155.out _; (with_reducible repeat (first | refine blk_drewN ?_ _ | refine blk_drew ?_ | refine blk_alloc ?_ _)); refine blk_far ?_ NB148_155.out _; (with_reducible repeat (first | refine blk_drewN ?_ _ | refine blk_drew ?_ | refine blk_alloc ?_ _)); exact BK148.out) hg (Kd.R_ne HO_150002.out BK148.out (by decide))); have n1_ := Aside0.mk (blk_grown (g := gb149) (o := .cells #[.string (⟨#[]⟩ : ByteArray), .int .u8 x150001_12, u150002] 41 (0, 0)) (by (with_reducible repeat (first | refine blk_drewN ?_ _ | refine blk_drew ?_ | refine blk_alloc ?_ _)); refine blk_far ?_ NB149_155.out _; (with_reducible repeat (first | refine blk_drewN ?_ _ | refine blk_drew ?_ | refine blk_alloc ?_ _)); refine blk_far ?_ NB149_155.out _; (with_reducible repeat (first | refine blk_drewN ?_ _ | refine blk_drew ?_ | refine blk_alloc ?_ _)); refine blk_far ?_ NB149_155.out _; (with_reducible repeat (first | refine blk_drewN ?_ _ | refine blk_drew ?_ | refine blk_alloc ?_ _)); exact BK149.out) hg (Kd.R_ne HO_150002.out BK149.out (by decide))); have n2_ := Aside0.mk (blk_grown (g := gb155) (o := .cells #[.string t151, .int .i64 t152, .bool t153] 43 (0, 0)) (by (with_reducible repeat (first | refine blk_drewN ?_ _ | refine blk_drew ?_ | refine blk_alloc ?_ _)); refine blk_put (cs := #[.string t151, .int .i64 t152, .bool false]) ?_ 2 _ rfl; (with_reducible repeat (first | refine blk_drewN ?_ _ | refine blk_drew ?_ | refine blk_alloc ?_ _)); refine blk_put (cs := #[.string t151, .int .i64 0, .bool false]) ?_ 1 _ rfl; (with_reducible repeat (first | refine blk_drewN ?_ _ | refine blk_drew ?_ | refine blk_alloc ?_ _)); refine blk_put (cs := #[.string (⟨#[]⟩ : ByteArray), .int .i64 0, .bool false]) ?_ 0 _ rfl; (with_reducible repeat (first | refine blk_drewN ?_ _ | refine blk_drew ?_ | refine blk_alloc ?_ _)); exact BK155.out) hg (Kd.R_away HO_150002.out (fun _ hk => hk.2))); have n3_ := Aside0.mk (hb); have n4_ := Aside0.mk (ho); clear BK148; clear BK149; clear BK155; clear HB; clear HO_150002; have BK148 := n0_; have BK149 := n1_; have BK155 := n2_; have HB := n3_; have HO158 := n4_; clear n0_ n1_ n2_ n3_ n4_; clear ho hb hg hat; obtain ⟨Ao41, co41, eo41⟩ := Kd.R_slice HO158.out; subst eo41; have hcz42_0 : w40.cell? ⟨gb149, 0, none⟩ = some (.string (⟨#[]⟩ : ByteArray)) := (blk_cell BK149.out 0).trans rfl; have hcz42_1 : w40.cell? ⟨gb149, 1, none⟩ = some (.int .u8 x150001_12) := (blk_cell BK149.out 1).trans rfl; have hcz42_2 : w40.cell? ⟨gb149, 2, none⟩ = some (u150002) := (blk_cell BK149.out 2).trans rfl; have hfz42_0 := blk_frozen BK149.out 0; have hfz42_1 := blk_frozen BK149.out 1; have hfz42_2 := blk_frozen BK149.out 2))
                 go_roundg kj20
                 case measure => have := HJ1.out; have := HJ12.out; have := HK3.out; have := HJ20.out; omega
                 case rel => exact ⟨((⟨#[]⟩ : ByteArray)), (wrap64 (x6_3 + 1)), (x149000_3), (x149001_3), (y156), (.slice Ao41 y156.length co41), (by first | rfl | (simp; done) | (simp [*]; done)), (by first | rfl | (simp; done) | (simp [*]; done)), H', ⟨by have := HJ1.out; have := HJ12.out; have := HK3.out; have := HJ20.out; omega⟩, ⟨by (with_reducible repeat (first | apply Kd.R_alloc | apply Kd.R_drewN | apply Kd.R_drew)); exact Kd.R_mono (Kd.R_far (p := ⟨gb149, 2, none⟩) (Kd.R_types HO158.out BK149.out (by decide)) (fun _ hk => hk.2) (.slice Ao41 y156.length co41)) (fun _ hk => trivial)⟩, ⟨by (with_reducible repeat (first | refine blk_drewN ?_ _ | refine blk_drew ?_ | refine blk_alloc ?_ _)); refine blk_far ?_ NB148_149.out _; (with_reducible repeat (first | refine blk_drewN ?_ _ | refine blk_drew ?_ | refine blk_alloc ?_ _)); exact BK148.out⟩, ⟨by (with_reducible repeat (first | refine blk_drewN ?_ _ | refine blk_drew ?_ | refine blk_alloc ?_ _)); refine blk_put (cs := #[.string (⟨#[]⟩ : ByteArray), .int .u8 x150001_12, u150002]) ?_ 2 _ rfl; (with_reducible repeat (first | refine blk_drewN ?_ _ | refine blk_drew ?_ | refine blk_alloc ?_ _)); exact BK149.out⟩, ⟨by repeat (first | (with_reducible first | exact HB.out | apply below_alloc | apply pw_below_drewN | apply below_drew1 | refine below_set ?_ GE148.out | refine below_set ?_ GE149.out | refine below_set ?_ GE155.out) | exact HB.out)⟩⟩
               · rw [if_neg c32] at H
                 exact absurd H (by simp)
             · replace c31 := Bool.eq_false_iff.mpr c31
               subst c31
               have H1 : (some ((⟨#[]⟩ : ByteArray), 0, ([] : List (S43)), false)) = some (r1, r2, r3, r4) := by rw [if_neg (show ¬ (false = true) by decide)] at H; exact H
               clear H
               have H := H1
               clear H1
               simp only [Option.some.injEq, Prod.mk.injEq] at H
               obtain ⟨rfl, rfl, rfl, rfl⟩ := H
               go_wp2_with (first | ((with_reducible refine gate_callee (f := 58) rfl ?_); refine goesL_ (some 52) rfl rfl Tryz.func58 (by kernel_rfl) rfl #[.string x5_3] rfl (by (try simp only [List.map_toArray, List.map_cons, List.map_nil]); first | done | rfl | (simp only [List.length_drop, List.length_take]; rfl)) ?_; (with_reducible refine (rf06_Is.calls kj20 x5_3 t151 t152 t153 false _ A30.out).mono ?_); rintro e w43 ⟨rfl, hb⟩; refine ⟨_, rfl, ?_⟩; have n0_ := Aside0.mk (Kd.R_below (by (with_reducible repeat (first | apply Kd.R_alloc | apply Kd.R_drewN | apply Kd.R_drew)); exact HO_150002.out) hb); have n1_ := Aside0.mk (blk_below (g := gb148) (o := .cells #[.string x149000_3, .int .u8 x149001_3, .slice none 0 0] 41 (0, 0)) (by (with_reducible repeat (first | refine blk_drewN ?_ _ | refine blk_drew ?_ | refine blk_alloc ?_ _)); exact BK148.out) hb); have n2_ := Aside0.mk (blk_below (g := gb149) (o := .cells #[.string (⟨#[]⟩ : ByteArray), .int .u8 x150001_12, u150002] 41 (0, 0)) (by (with_reducible repeat (first | refine blk_drewN ?_ _ | refine blk_drew ?_ | refine blk_alloc ?_ _)); exact BK149.out) hb); have n3_ := Aside0.mk (below_step (by repeat (first | (with_reducible first | exact HB.out | apply below_alloc | apply pw_below_drewN | apply below_drew1 | refine below_set ?_ GE148.out | refine below_set ?_ GE149.out) | exact HB.out)) hb); clear HO_150002; clear BK148; clear BK149; clear HB; have HO_150002 := n0_; have BK148 := n1_; have BK149 := n2_; have HB := n3_; clear n0_ n1_ n2_ n3_; (try clear hb); (try clear hb2); (try clear hk); (try clear hi)) | ((with_reducible refine gate_dst (N := 7) rfl ?_); refine box_event ?hg (N := 7) ?hd (cs := #[.string (⟨#[]⟩ : ByteArray), .int .i64 0, .bool false]) (t := 43) ?hr ?_; (case hd => rfl); (case hg => rfl); (case hr => first | (go_simp; done) | (go_simp; rfl)); intro gb155 hg w44 hbox hb; have n0_ := Aside0.mk (Kd.R_below (Kd.R_elderB (by (with_reducible repeat (first | apply Kd.R_alloc | apply Kd.R_drewN | apply Kd.R_drew)); exact HO_150002.out) gb155 (Nat.le_of_eq hg.symm)) hb); have n1_ := Aside0.mk (blk_below (g := gb148) (o := .cells #[.string x149000_3, .int .u8 x149001_3, .slice none 0 0] 41 (0, 0)) (by (with_reducible repeat (first | refine blk_drewN ?_ _ | refine blk_drew ?_ | refine blk_alloc ?_ _)); exact BK148.out) hb); have n2_ := Aside0.mk (blk_below (g := gb149) (o := .cells #[.string (⟨#[]⟩ : ByteArray), .int .u8 x150001_12, u150002] 41 (0, 0)) (by (with_reducible repeat (first | refine blk_drewN ?_ _ | refine blk_drew ?_ | refine blk_alloc ?_ _)); exact BK149.out) hb); have n3_ := Aside0.mk (below_step (by repeat (first | (with_reducible first | exact HB.out | apply below_alloc | apply pw_below_drewN | apply below_drew1 | refine below_set ?_ GE148.out | refine below_set ?_ GE149.out) | exact HB.out)) hb); have n4_ := Aside0.mk (hbox); have n5_ := Aside0.mk ((by rw [hg]; exact (below_size (by repeat (first | (with_reducible first | exact HB.out | apply below_alloc | apply pw_below_drewN | apply below_drew1 | refine below_set ?_ GE148.out | refine below_set ?_ GE149.out) | exact HB.out))) : w.heap.size ≤ gb155)); have n6_ := Aside0.mk ((by rw [hg]; exact (below_size (by repeat (first | (with_reducible first | exact HB.out | apply below_alloc | apply pw_below_drewN | apply below_drew1 | refine below_set ?_ GE148.out | refine below_set ?_ GE149.out) | exact HB.out))) : w.heap.size ≤ gb155)); have n7_ := Aside0.mk ((by rw [hg]; exact Nat.ne_of_lt (blk_lt (g := gb148) (o := .cells #[.string x149000_3, .int .u8 x149001_3, .slice none 0 0] 41 (0, 0)) (by (with_reducible repeat (first | refine blk_drewN ?_ _ | refine blk_drew ?_ | refine blk_alloc ?_ _)); exact BK148.out)) : gb148 ≠ gb155)); have n8_ := Aside0.mk ((by rw [hg]; exact Nat.ne_of_gt (blk_lt (g := gb148) (o := .cells #[.string x149000_3, .int .u8 x149001_3, .slice none 0 0] 41 (0, 0)) (by (with_reducible repeat (first | refine blk_drewN ?_ _ | refine blk_drew ?_ | refine blk_alloc ?_ _)); exact BK148.out)) : gb155 ≠ gb148)); have n9_ := Aside0.mk ((by rw [hg]; exact Nat.ne_of_lt (blk_lt (g := gb149) (o := .cells #[.string (⟨#[]⟩ : ByteArray), .int .u8 x150001_12, u150002] 41 (0, 0)) (by (with_reducible repeat (first | refine blk_drewN ?_ _ | refine blk_drew ?_ | refine blk_alloc ?_ _)); exact BK149.out)) : gb149 ≠ gb155)); have n10_ := Aside0.mk ((by rw [hg]; exact Nat.ne_of_gt (blk_lt (g := gb149) (o := .cells #[.string (⟨#[]⟩ : ByteArray), .int .u8 x150001_12, u150002] 41 (0, 0)) (by (with_reducible repeat (first | refine blk_drewN ?_ _ | refine blk_drew ?_ | refine blk_alloc ?_ _)); exact BK149.out)) : gb155 ≠ gb149)); clear HO_150002; clear BK148; clear BK149; clear HB; have HO_150002 := n0_; have BK148 := n1_; have BK149 := n2_; have HB := n3_; have BK155 := n4_; have GW155 := n5_; have GE155 := n6_; have NB148_155 := n7_; have NB155_148 := n8_; have NB149_155 := n9_; have NB155_149 := n10_; clear n0_ n1_ n2_ n3_ n4_ n5_ n6_ n7_ n8_ n9_ n10_; clear hb hbox hg; have hnb45 := NB155_148.out; have hnc45 := NB148_155.out; have hnb46 := NB155_149.out; have hnc46 := NB149_155.out; have hcz47_0 : w44.cell? ⟨gb155, 0, none⟩ = some (.string (⟨#[]⟩ : ByteArray)) := (blk_cell BK155.out 0).trans rfl; have hcz47_1 : w44.cell? ⟨gb155, 1, none⟩ = some (.int .i64 0) := (blk_cell BK155.out 1).trans rfl; have hcz47_2 : w44.cell? ⟨gb155, 2, none⟩ = some (.bool false) := (blk_cell BK155.out 2).trans rfl; have hfz47_0 := blk_frozen BK155.out 0; have hfz47_1 := blk_frozen BK155.out 1; have hfz47_2 := blk_frozen BK155.out 2; have hnb48 := NB148_149.out; have hnc48 := NB149_148.out; have hcz49_0 : w44.cell? ⟨gb148, 0, none⟩ = some (.string x149000_3) := (blk_cell BK148.out 0).trans rfl; have hcz49_1 : w44.cell? ⟨gb148, 1, none⟩ = some (.int .u8 x149001_3) := (blk_cell BK148.out 1).trans rfl; have hcz49_2 : w44.cell? ⟨gb148, 2, none⟩ = some (.slice none 0 0) := (blk_cell BK148.out 2).trans rfl; have hfz49_0 := blk_frozen BK148.out 0; have hfz49_1 := blk_frozen BK148.out 1; have hfz49_2 := blk_frozen BK148.out 2))
               refine bodyPost_ret (results_ct rfl _ _ gb148 41 #[.string (⟨#[]⟩ : ByteArray), .int .u8 0, .slice none 0 0] (0, 0) _ rfl (by (with_reducible repeat (first | refine blk_drewN ?_ _ | refine blk_drew ?_ | refine blk_alloc ?_ _)); refine blk_put (cs := #[.string (⟨#[]⟩ : ByteArray), .int .u8 0, .slice none 0 0]) ?_ 2 _ rfl; (with_reducible repeat (first | refine blk_drewN ?_ _ | refine blk_drew ?_ | refine blk_alloc ?_ _)); refine blk_put (cs := #[.string (⟨#[]⟩ : ByteArray), .int .u8 x149001_3, .slice none 0 0]) ?_ 1 _ rfl; (with_reducible repeat (first | refine blk_drewN ?_ _ | refine blk_drew ?_ | refine blk_alloc ?_ _)); refine blk_put (cs := #[.string x149000_3, .int .u8 x149001_3, .slice none 0 0]) ?_ 0 _ rfl; (with_reducible repeat (first | refine blk_drewN ?_ _ | refine blk_drew ?_ | refine blk_alloc ?_ _)); refine blk_far ?_ NB148_155.out _; (with_reducible repeat (first | refine blk_drewN ?_ _ | refine blk_drew ?_ | refine blk_alloc ?_ _)); refine blk_far ?_ NB148_155.out _; (with_reducible repeat (first | refine blk_drewN ?_ _ | refine blk_drew ?_ | refine blk_alloc ?_ _)); refine blk_far ?_ NB148_155.out _; (with_reducible repeat (first | refine blk_drewN ?_ _ | refine blk_drew ?_ | refine blk_alloc ?_ _)); exact BK148.out) Tryz.underlying41 rfl (by kernel_rfl)) rfl ?_
               exact ⟨_, by first | rfl | (simp [errW_none, errW_some] <;> rfl) | (simp [*, errW_none, errW_some] <;> rfl), by first | exact Kd.R_nil _ _ _ _ _ | exact Kd.N_nil _ _ _ _ _ | exact Kd.V_nil _ _ _ _ _ | exact Kd.Q_nil _ _ _ _ _ | exact Kd.S_nil _ _ _ _ _, by repeat (first | (with_reducible first | exact HB.out | apply below_alloc | apply pw_below_drewN | apply below_drew1 | refine below_set ?_ GE148.out | refine below_set ?_ GE149.out | refine below_set ?_ GE155.out) | exact HB.out)⟩
       · rw [if_neg c20] at H
         have c20b0 : decide (x6_3 ≤ (x0_12.size : Int)) = false := decide_eq_false c20
         clear c20
         simp only [Option.some.injEq, Prod.mk.injEq] at H
         obtain ⟨rfl, rfl, rfl, rfl⟩ := H
         have hnb50 := NB149_148.out
         have hnc50 := NB148_149.out
         have hcz51_0 : wr.cell? ⟨gb149, 0, none⟩ = some (.string (⟨#[]⟩ : ByteArray)) := (blk_cell BK149.out 0).trans rfl
         have hcz51_1 : wr.cell? ⟨gb149, 1, none⟩ = some (.int .u8 x150001_12) := (blk_cell BK149.out 1).trans rfl
         have hcz51_2 : wr.cell? ⟨gb149, 2, none⟩ = some (u150002) := (blk_cell BK149.out 2).trans rfl
         have hfz51_0 := blk_frozen BK149.out 0
         have hfz51_1 := blk_frozen BK149.out 1
         have hfz51_2 := blk_frozen BK149.out 2
         have hcz52_0 : wr.cell? ⟨gb148, 0, none⟩ = some (.string x149000_3) := (blk_cell BK148.out 0).trans rfl
         have hcz52_1 : wr.cell? ⟨gb148, 1, none⟩ = some (.int .u8 x149001_3) := (blk_cell BK148.out 1).trans rfl
         have hcz52_2 : wr.cell? ⟨gb148, 2, none⟩ = some (.slice none 0 0) := (blk_cell BK148.out 2).trans rfl
         have hfz52_0 := blk_frozen BK148.out 0
         have hfz52_1 := blk_frozen BK148.out 1
         have hfz52_2 := blk_frozen BK148.out 2
         obtain ⟨Ao53, co53, eo53⟩ := Kd.R_slice HO_150002.out
         subst eo53
         go_wp2
         refine bodyPost_ret (results_ct rfl _ _ gb148 41 #[.string (⟨#[]⟩ : ByteArray), .int .u8 x150001_12, .slice Ao53 x150002_3.length co53] (0, 0) _ rfl (by (with_reducible repeat (first | refine blk_drewN ?_ _ | refine blk_drew ?_ | refine blk_alloc ?_ _)); refine blk_put (cs := #[.string (⟨#[]⟩ : ByteArray), .int .u8 x150001_12, .slice none 0 0]) ?_ 2 _ rfl; (with_reducible repeat (first | refine blk_drewN ?_ _ | refine blk_drew ?_ | refine blk_alloc ?_ _)); refine blk_put (cs := #[.string (⟨#[]⟩ : ByteArray), .int .u8 x149001_3, .slice none 0 0]) ?_ 1 _ rfl; (with_reducible repeat (first | refine blk_drewN ?_ _ | refine blk_drew ?_ | refine blk_alloc ?_ _)); refine blk_put (cs := #[.string x149000_3, .int .u8 x149001_3, .slice none 0 0]) ?_ 0 _ rfl; (with_reducible repeat (first | refine blk_drewN ?_ _ | refine blk_drew ?_ | refine blk_alloc ?_ _)); exact BK148.out) Tryz.underlying41 rfl (by kernel_rfl)) rfl ?_
         exact ⟨_, by first | rfl | (simp [errW_none, errW_some] <;> rfl) | (simp [*, errW_none, errW_some] <;> rfl), by (with_reducible repeat (first | apply Kd.R_alloc | apply Kd.R_drewN | apply Kd.R_drew)); exact Kd.R_mono (Kd.R_far (p := ⟨gb148, 2, none⟩) (Kd.R_far (p := ⟨gb148, 1, none⟩) (Kd.R_far (p := ⟨gb148, 0, none⟩) (Kd.R_types HO_150002.out BK148.out (by decide)) (fun _ hk => hk.2) (.string (⟨#[]⟩ : ByteArray))) (fun _ hk => hk.2) (.int .u8 x150001_12)) (fun _ hk => hk.2) (.slice Ao53 x150002_3.length co53)) (fun _ hk => trivial), by repeat (first | (with_reducible first | exact HB.out | apply below_alloc | apply pw_below_drewN | apply below_drew1 | refine below_set ?_ GE148.out | refine below_set ?_ GE149.out) | exact HB.out)⟩
mutual
def rf07_Is.l0 : Nat → ByteArray → List (S41) → Option ((List (S41)) × Bool)
 | 0, _, _ => none
 | k + 1, x0, x4 => if x0.toList = ([] : List UInt8) then (some (x4, true)) else (if 0 < (x0.size : Int) then (if (bt x0 0) = 123 then (rf07_Is.l1 k x0 x4 1) else (rf07_Is.l2 k x0 x4 0)) else (none))
def rf07_Is.j2 : Nat → ByteArray → List (S41) → Int → Option ((List (S41)) × Bool)
 | 0, _, _, _ => none
 | k + 1, x0, x4, x5 => if x5 = (x0.size : Int) then (some (([] : List (S41)), false)) else (if 1 ≤ x5 then (if x5 ≤ (x0.size : Int) then ((rf07_inside.f k (x0.extract 1 (x5 : Int).toNat)).bind fun bt187 => (if bt187.2.2.2 = true then (if x4.length < 2932031007402 then (if 0 ≤ (wrap64 (x5 + 1)) then (if (wrap64 (x5 + 1)) ≤ (x0.size : Int) then (rf07_Is.l0 k (x0.extract ((wrap64 (x5 + 1)) : Int).toNat x0.size) (x4 ++ [(⟨bt187.1, bt187.2.1, bt187.2.2.1⟩ : S41)])) else (none)) else (none)) else (none)) else (some (([] : List (S41)), false)))) else (none)) else (none))
def rf07_Is.l1 : Nat → ByteArray → List (S41) → Int → Option ((List (S41)) × Bool)
 | 0, _, _, _ => none
 | k + 1, x0, x4, x5 => if x5 < (x0.size : Int) then (if 0 ≤ x5 then (if (bt x0 x5) = 125 then (rf07_Is.j2 k x0 x4 x5) else (rf07_Is.l1 k x0 x4 (wrap64 (x5 + 1)))) else (none)) else (rf07_Is.j2 k x0 x4 x5)
def rf07_Is.l2 : Nat → ByteArray → List (S41) → Int → Option ((List (S41)) × Bool)
 | 0, _, _, _ => none
 | k + 1, x0, x4, x8 => if x8 < (x0.size : Int) then (if 0 ≤ x8 then (if x8 ≤ (x0.size : Int) then ((rf07_Piece.f k (x0.extract (x8 : Int).toNat x0.size)).bind fun t197 => (if t197 > 0 then ((rf07_Piece.f k (x0.extract (x8 : Int).toNat x0.size)).bind fun t198 => (rf07_Is.l2 k x0 x4 (wrap64 (x8 + t198)))) else (if x8 = 0 then (some (([] : List (S41)), false)) else (if x4.length < 2932031007402 then (rf07_Is.l0 k (x0.extract (x8 : Int).toNat x0.size) (x4 ++ [(⟨x0.extract 0 (x8 : Int).toNat, 0, ([] : List (S43))⟩ : S41)])) else (none))))) else (none)) else (none)) else (if x8 = 0 then (some (([] : List (S41)), false)) else (if 0 ≤ x8 then (if x8 ≤ (x0.size : Int) then (if x4.length < 2932031007402 then (rf07_Is.l0 k (x0.extract (x8 : Int).toNat x0.size) (x4 ++ [(⟨x0.extract 0 (x8 : Int).toNat, 0, ([] : List (S43))⟩ : S41)])) else (none)) else (none)) else (none)))
end
def rf07_Is.f (k : Nat) (a0 : ByteArray) : Option ((List (S41)) × Bool) := rf07_Is.l0 k a0 ([] : List (S41))
set_option maxHeartbeats 8000000 in
set_option maxRecDepth 100000 in
theorem rf07_Is.calls (k : Nat) (a0 : ByteArray) (r1 : List (S41)) (r2 : Bool) (w : World) (h : rf07_Is.f k a0 = some (r1, r2)) :
 Calls Tryz.prog 24 #[.string a0] w fun e w' => ∃ v0_ : Value, e = .returned (.tuple #[v0_, .bool r2]) ∧ Kd.S k41 41 w' w.heap.size (fun _ => True) v0_ r1 ∧ Below w.heap.size w w' := by
 have hu41 := Tryz.underlying41
 have HB := Aside0.mk (Below.refl w.heap.size w)
 have H : (rf07_Is.l0 k a0 ([] : List (S41))) = some (r1, r2) := h
 clear h
 have H' := Aside0.mk H
 clear H
 go_enter Tryz.func24, Tryz.ntmps24
 go_wp2
 go_loopg [0, 4] k (fun kq v0 v4 w' => ∃ (x0_1 : ByteArray) (x4_1 : List (S41)), v0 = .string x0_1 ∧ Aside0 (rf07_Is.l0 kq x0_1 x4_1 = some (r1, r2)) ∧ Aside0 (kq ≤ k) ∧ Aside0 (Kd.S k41 41 w' w.heap.size (fun _ => True) v4 x4_1) ∧ Aside0 (Below w.heap.size w w'))
 case atStart => exact ⟨(a0), (([] : List (S41))), (by first | rfl | (simp; done) | (simp [*]; done)), H', ⟨Nat.le_refl _⟩, ⟨by first | exact Kd.S_nil _ _ _ _ _ | exact Kd.N_nil _ _ _ _ _ | exact Kd.V_nil _ _ _ _ _ | exact Kd.Q_nil _ _ _ _ _ | exact Kd.R_nil _ _ _ _ _⟩, ⟨by repeat (first | (with_reducible first | exact HB.out | apply below_alloc | apply pw_below_drewN | apply below_drew1) | exact HB.out)⟩⟩
 case round =>
  clear H'
  obtain ⟨x0_1, x4_1, rfl, HA, HK1, HO_4, HB⟩ := hrel
  cases gk with
  | zero => exact absurd HA.out (by simp [rf07_Is.l0])
  | succ k1 =>
   have H := HA.out
   clear HA
   simp only [rf07_Is.l0] at H
   by_cases c2 : x0_1.toList = ([] : List UInt8)
   · rw [if_pos c2] at H
     have c2b0 : (x0_1.toList == ([] : List UInt8)) = true := beq_iff_eq.mpr c2
     have c2b1 : (x0_1.toList != ([] : List UInt8)) = false := bne_eq_false_iff_eq.mpr c2
     clear c2
     simp only [Option.some.injEq, Prod.mk.injEq] at H
     obtain ⟨rfl, rfl⟩ := H
     go_wp2
     go_ret2
     exact ⟨_, by first | rfl | (simp [errW_none, errW_some] <;> rfl) | (simp [*, errW_none, errW_some] <;> rfl), by (with_reducible repeat (first | apply Kd.S_alloc | apply Kd.S_drewN | apply Kd.S_drew)); exact HO_4.out, by repeat (first | (with_reducible first | exact HB.out | apply below_alloc | apply pw_below_drewN | apply below_drew1) | exact HB.out)⟩
   · rw [if_neg c2] at H
     have c2b0 : (x0_1.toList == ([] : List UInt8)) = false := beq_eq_false_iff_ne.mpr c2
     have c2b1 : (x0_1.toList != ([] : List UInt8)) = true := bne_iff_ne.mpr c2
     by_cases c3 : 0 < (x0_1.size : Int)
     · rw [if_pos c3] at H
       have c3b0 : decide (0 < (x0_1.size : Int)) = true := decide_eq_true c3
       have c3b1 : decide (0 < x0_1.size) = true := decide_eq_true (by omega)
       clear c3
       by_cases c5 : (bt x0_1 0) = 123
       · rw [if_pos c5] at H
         have c5b0 : ((bt x0_1 0) == 123) = true := beq_iff_eq.mpr c5
         have c5b1 : ((bt x0_1 0) != 123) = false := bne_eq_false_iff_eq.mpr c5
         clear c5
         have HC6 := Aside0.mk H
         clear H
         have p4 : 0 ≤ (0 : Int) := (by omega)
         have q4 : 0 < x0_1.size := (by have : (0 : Int) < (x0_1.size : Int) := of_decide_eq_true (by first | (with_reducible assumption) | assumption); omega)
         have hx4 : ∀ h : 0 < x0_1.size, ((x0_1[0]'h).toNat : Int) = bt x0_1 0 := bt_at x0_1 0
         clear p4
         have qi4 : (0 < (x0_1.size : Int)) = True := eq_true (of_decide_eq_true (by first | (with_reducible assumption) | assumption))
         replace q4 := eq_true q4
         go_upto_block 2 with (fail)
         go_cut [5] (fun v5 wc => ∃ (kq : Nat) (x5_5 : Int), v5 = .int .i64 x5_5 ∧ Aside0 (rf07_Is.j2 kq x0_1 x4_1 x5_5 = some (r1, r2)) ∧ Aside0 (kq ≤ k1) ∧ Aside0 (Kd.S k41 41 wc w.heap.size (fun _ => True) u4 x4_1) ∧ Aside0 (Below w.heap.size w wc))
         case first =>
          have H := HC6.out
          clear HC6
          have H' := Aside0.mk H
          clear H
          go_wp2
          go_loopg [5] k1 (fun kq v5 w' => ∃ (x5_2 : Int), v5 = .int .i64 x5_2 ∧ Aside0 (rf07_Is.l1 kq x0_1 x4_1 x5_2 = some (r1, r2)) ∧ Aside0 (kq ≤ k1) ∧ Aside0 (Kd.S k41 41 w' w.heap.size (fun _ => True) u4 x4_1) ∧ Aside0 (Below w.heap.size w w'))
          case atStart => exact ⟨(1), (by first | rfl | (simp; done) | (simp [*]; done)), H', ⟨Nat.le_refl _⟩, ⟨by (with_reducible repeat (first | apply Kd.S_alloc | apply Kd.S_drewN | apply Kd.S_drew)); exact HO_4.out⟩, ⟨by repeat (first | (with_reducible first | exact HB.out | apply below_alloc | apply pw_below_drewN | apply below_drew1) | exact HB.out)⟩⟩
          case round =>
           clear H'
           try clear c2
           try clear c2b0
           try clear c2b1
           try clear p2
           try clear c3
           try clear c3b0
           try clear c3b1
           try clear p4
           try clear q4
           try clear hx4
           try clear qi4
           try clear c5
           try clear c5b0
           try clear c5b1
           try clear p4
           try clear q4
           obtain ⟨x5_2, rfl, HA, HK2, HO_4, HB⟩ := hrel
           cases gk with
           | zero => exact absurd HA.out (by simp [rf07_Is.l1])
           | succ k2 =>
            have H := HA.out
            clear HA
            simp only [rf07_Is.l1] at H
            by_cases c7 : x5_2 < (x0_1.size : Int)
            · rw [if_pos c7] at H
              have c7b0 : decide (x5_2 < (x0_1.size : Int)) = true := decide_eq_true c7
              clear c7
              (first | rw [c7b0] | (simp only [i64_w, i32_w]; rw [c7b0]) | skip)
              by_cases c8 : 0 ≤ x5_2
              · rw [if_pos c8] at H
                have c8b0 : decide (0 ≤ x5_2) = true := decide_eq_true c8
                clear c8
                by_cases c10 : (bt x0_1 x5_2) = 125
                · rw [if_pos c10] at H
                  have c10b0 : ((bt x0_1 x5_2) == 125) = true := beq_iff_eq.mpr c10
                  have c10b1 : ((bt x0_1 x5_2) != 125) = false := bne_eq_false_iff_eq.mpr c10
                  clear c10
                  have H' := Aside0.mk H
                  clear H
                  have p9 : 0 ≤ (x5_2 : Int) := of_decide_eq_true (by first | (with_reducible assumption) | assumption)
                  have q9 : x5_2 < (x0_1.size : Int) := of_decide_eq_true (by first | (with_reducible assumption) | assumption)
                  have hx9 := bt_at x0_1 x5_2
                  replace p9 := eq_true p9
                  replace q9 := eq_true q9
                  go_wp2
                  go_meet
                  case rel => exact ⟨_, (x5_2), (by first | rfl | (simp; done) | (simp [*]; done)), H', ⟨by have := HK1.out; have := HK2.out; first | omega | exact Nat.le_refl _⟩, ⟨by (with_reducible repeat (first | apply Kd.S_alloc | apply Kd.S_drewN | apply Kd.S_drew)); exact HO_4.out⟩, ⟨by repeat (first | (with_reducible first | exact HB.out | apply below_alloc | apply pw_below_drewN | apply below_drew1) | exact HB.out)⟩⟩
                · rw [if_neg c10] at H
                  have c10b0 : ((bt x0_1 x5_2) == 125) = false := beq_eq_false_iff_ne.mpr c10
                  have c10b1 : ((bt x0_1 x5_2) != 125) = true := bne_iff_ne.mpr c10
                  have H' := Aside0.mk H
                  clear H
                  have p9 : 0 ≤ (x5_2 : Int) := of_decide_eq_true (by first | (with_reducible assumption) | assumption)
                  have q9 : x5_2 < (x0_1.size : Int) := of_decide_eq_true (by first | (with_reducible assumption) | assumption)
                  have hx9 := bt_at x0_1 x5_2
                  replace p9 := eq_true p9
                  replace q9 := eq_true q9
                  go_wp2
                  go_roundg k2
                  case measure => have := HK1.out; have := HK2.out; omega
                  case rel => exact ⟨(wrap64 (x5_2 + 1)), (by first | rfl | (simp; done) | (simp [*]; done)), H', ⟨by have := HK1.out; have := HK2.out; omega⟩, ⟨by (with_reducible repeat (first | apply Kd.S_alloc | apply Kd.S_drewN | apply Kd.S_drew)); exact HO_4.out⟩, ⟨by repeat (first | (with_reducible first | exact HB.out | apply below_alloc | apply pw_below_drewN | apply below_drew1) | exact HB.out)⟩⟩
              · rw [if_neg c8] at H
                exact absurd H (by simp)
            · rw [if_neg c7] at H
              have c7b0 : decide (x5_2 < (x0_1.size : Int)) = false := decide_eq_false c7
              clear c7
              (first | rw [c7b0] | (simp only [i64_w, i32_w]; rw [c7b0]) | skip)
              have H' := Aside0.mk H
              clear H
              go_wp2
              go_meet
              case rel => exact ⟨_, (x5_2), (by first | rfl | (simp; done) | (simp [*]; done)), H', ⟨by have := HK1.out; have := HK2.out; first | omega | exact Nat.le_refl _⟩, ⟨by (with_reducible repeat (first | apply Kd.S_alloc | apply Kd.S_drewN | apply Kd.S_drew)); exact HO_4.out⟩, ⟨by repeat (first | (with_reducible first | exact HB.out | apply below_alloc | apply pw_below_drewN | apply below_drew1) | exact HB.out)⟩⟩
         case rest =>
          clear HC6
          try clear c1
          try clear c2
          try clear c2b0
          try clear c2b1
          try clear p2
          try clear c3
          try clear c3b0
          try clear c3b1
          try clear p4
          try clear q4
          try clear hx4
          try clear qi4
          try clear c5
          try clear c5b0
          try clear c5b1
          try clear p6
          try clear c7
          try clear c7b0
          try clear c8
          try clear c8b0
          try clear p9
          try clear q9
          try clear hx9
          try clear c10
          try clear c10b0
          try clear c10b1
          try clear p2
          try clear p4
          try clear p9
          try clear q4
          try clear q9
          obtain ⟨kq, x5_5, rfl, HA, HJ5, HO_4, HB⟩ := hcut
          cases kq with
          | zero => exact absurd HA.out (by simp [rf07_Is.j2])
          | succ kj5 =>
           have H := HA.out
           clear HA
           simp only [rf07_Is.j2] at H
           by_cases c11 : x5_5 = (x0_1.size : Int)
           · rw [if_pos c11] at H
             have c11b0 : (x5_5 == (x0_1.size : Int)) = true := beq_iff_eq.mpr c11
             have c11b1 : (x5_5 != (x0_1.size : Int)) = false := bne_eq_false_iff_eq.mpr c11
             clear c11
             simp only [Option.some.injEq, Prod.mk.injEq] at H
             obtain ⟨rfl, rfl⟩ := H
             go_wp2
             go_ret2
             exact ⟨_, by first | rfl | (simp [errW_none, errW_some] <;> rfl) | (simp [*, errW_none, errW_some] <;> rfl), by first | exact Kd.S_nil _ _ _ _ _ | exact Kd.N_nil _ _ _ _ _ | exact Kd.V_nil _ _ _ _ _ | exact Kd.Q_nil _ _ _ _ _ | exact Kd.R_nil _ _ _ _ _, by repeat (first | (with_reducible first | exact HB.out | apply below_alloc | apply pw_below_drewN | apply below_drew1) | exact HB.out)⟩
           · rw [if_neg c11] at H
             have c11b0 : (x5_5 == (x0_1.size : Int)) = false := beq_eq_false_iff_ne.mpr c11
             have c11b1 : (x5_5 != (x0_1.size : Int)) = true := bne_iff_ne.mpr c11
             by_cases c12 : 1 ≤ x5_5
             · rw [if_pos c12] at H
               have c12b0 := eq_true c12
               have c12b1 : decide (1 ≤ x5_5) = true := decide_eq_true c12
               clear c12
               by_cases c13 : x5_5 ≤ (x0_1.size : Int)
               · rw [if_pos c13] at H
                 have c13b0 := eq_true c13
                 have c13b1 : decide (x5_5 ≤ (x0_1.size : Int)) = true := decide_eq_true c13
                 clear c13
                 replace H := Option.bind_eq_some_iff.mp H
                 obtain ⟨⟨t187, t188, t189, t192⟩, A140, H⟩ := H
                 replace H : (if t192 = true then (if x4_1.length < 2932031007402 then (if 0 ≤ (wrap64 (x5_5 + 1)) then (if (wrap64 (x5_5 + 1)) ≤ (x0_1.size : Int) then (rf07_Is.l0 kj5 (x0_1.extract ((wrap64 (x5_5 + 1)) : Int).toNat x0_1.size) (x4_1 ++ [(⟨t187, t188, t189⟩ : S41)])) else (none)) else (none)) else (none)) else (some (([] : List (S41)), false))) = some (r1, r2) := H
                 have A14 := Aside0.mk A140
                 clear A140
                 by_cases c15 : t192 = true
                 · subst c15
                   have H1 : (if x4_1.length < 2932031007402 then (if 0 ≤ (wrap64 (x5_5 + 1)) then (if (wrap64 (x5_5 + 1)) ≤ (x0_1.size : Int) then (rf07_Is.l0 kj5 (x0_1.extract ((wrap64 (x5_5 + 1)) : Int).toNat x0_1.size) (x4_1 ++ [(⟨t187, t188, t189⟩ : S41)])) else (none)) else (none)) else (none)) = some (r1, r2) := by rw [if_pos rfl] at H; exact H
                   clear H
                   have H := H1
                   clear H1
                   by_cases c16 : x4_1.length < 2932031007402
                   · rw [if_pos c16] at H
                     have LMc16 := Aside0.mk c16
                     clear c16
                     obtain ⟨y194, hy194⟩ : ∃ y_ : List (S41), y_ = (x4_1 ++ [(⟨t187, t188, t189⟩ : S41)]) := ⟨_, rfl⟩
                     replace H : (if 0 ≤ (wrap64 (x5_5 + 1)) then (if (wrap64 (x5_5 + 1)) ≤ (x0_1.size : Int) then (rf07_Is.l0 kj5 (x0_1.extract ((wrap64 (x5_5 + 1)) : Int).toNat x0_1.size) y194) else (none)) else (none)) = some (r1, r2) := by first | (rw [hy194]; with_reducible exact H) | (have H2_ := (Option.bind_some _ _).symm.trans H; rw [hy194]; with_reducible exact H2_) | (have H2_ := (Option.bind_some _ _).symm.trans H; with_reducible exact H2_) | with_reducible exact H | (rw [hy194]; exact H) | exact H
                     have Ny194 := Aside0.mk hy194
                     clear hy194
                     obtain ⟨ji17, hji17⟩ : ∃ j_ : Int, (wrap64 (x5_5 + 1)) = j_ := ⟨_, rfl⟩
                     replace H : (if 0 ≤ (ji17) then (if (ji17) ≤ (x0_1.size : Int) then (rf07_Is.l0 kj5 (x0_1.extract ((ji17) : Int).toNat x0_1.size) y194) else (none)) else (none)) = some (r1, r2) := by first | (rw [hji17] at H; exact H) | (simp only [hji17] at H ⊢; exact H)
                     (try rw [hji17] at A14)
                     have hji17w : (IntKind.i64.wrap (x5_5 + 1)) = ji17 := (i64_w _).trans hji17
                     by_cases c18 : 0 ≤ (ji17)
                     · rw [if_pos c18] at H
                       have c18b0 := eq_true c18
                       have c18b1 : decide (0 ≤ (ji17)) = true := decide_eq_true c18
                       clear c18
                       by_cases c19 : (ji17) ≤ (x0_1.size : Int)
                       · rw [if_pos c19] at H
                         have c19b0 := eq_true c19
                         have c19b1 : decide ((ji17) ≤ (x0_1.size : Int)) = true := decide_eq_true c19
                         clear c19
                         have H' := Aside0.mk H
                         clear H
                         go_wp2_with (first | ((with_reducible refine gate_callee (f := 41) rfl ?_); refine goesL_ (some 34) rfl rfl Tryz.func41 (by kernel_rfl) rfl #[.string (x0_1.extract 1 (x5_5 : Int).toNat)] rfl (by (try simp only [List.map_toArray, List.map_cons, List.map_nil]); first | done | rfl | (simp only [List.length_drop, List.length_take]; rfl)) ?_; (with_reducible refine (rf07_inside.calls kj5 (x0_1.extract 1 (x5_5 : Int).toNat) t187 t188 t189 true _ A14.out).mono ?_); rintro e w20 ⟨v190, rfl, ho0, hb⟩; refine ⟨_, rfl, ?_⟩; have n0_ := Aside0.mk (Kd.S_elder' (by (with_reducible repeat (first | apply Kd.S_alloc | apply Kd.S_drewN | apply Kd.S_drew)); exact HO_4.out) (Kd.R_base ho0) hb); have n1_ := Aside0.mk (Kd.R_lower ho0 (below_size (by repeat (first | (with_reducible first | exact HB.out | apply below_alloc | apply pw_below_drewN | apply below_drew1) | exact HB.out)))); have n2_ := Aside0.mk (below_step (by repeat (first | (with_reducible first | exact HB.out | apply below_alloc | apply pw_below_drewN | apply below_drew1) | exact HB.out)) hb); clear HO_4; clear HB; have HO_4 := n0_; have HO191 := n1_; have HB := n2_; clear n0_ n1_ n2_; (try clear hb); (try clear hb2); (try clear hk); (try clear hi); (try clear ho0)) | ((with_reducible refine gate_dst (N := 6) rfl ?_); refine box_event ?hg (N := 6) ?hd (cs := #[.string (⟨#[]⟩ : ByteArray), .int .u8 0, .slice none 0 0]) (t := 41) ?hr ?_; (case hd => rfl); (case hg => rfl); (case hr => first | (go_simp; done) | (go_simp; rfl)); intro gb193 hg w21 hbox hb; have n0_ := Aside0.mk (Kd.S_below (Kd.S_elderB (by (with_reducible repeat (first | apply Kd.S_alloc | apply Kd.S_drewN | apply Kd.S_drew)); exact HO_4.out) gb193 (Nat.le_of_eq hg.symm)) hb); have n1_ := Aside0.mk (Kd.R_below (by (with_reducible repeat (first | apply Kd.R_alloc | apply Kd.R_drewN | apply Kd.R_drew)); exact HO191.out) hb); have n2_ := Aside0.mk (below_step (by repeat (first | (with_reducible first | exact HB.out | apply below_alloc | apply pw_below_drewN | apply below_drew1) | exact HB.out)) hb); have n3_ := Aside0.mk (hbox); have n4_ := Aside0.mk ((by rw [hg]; exact (below_size (by repeat (first | (with_reducible first | exact HB.out | apply below_alloc | apply pw_below_drewN | apply below_drew1) | exact HB.out))) : w.heap.size ≤ gb193)); have n5_ := Aside0.mk ((by rw [hg]; exact (below_size (by repeat (first | (with_reducible first | exact HB.out | apply below_alloc | apply pw_below_drewN | apply below_drew1) | exact HB.out))) : w.heap.size ≤ gb193)); clear HO_4; clear HO191; clear HB; have HO_4 := n0_; have HO191 := n1_; have HB := n2_; have BK193 := n3_; have GW193 := n4_; have GE193 := n5_; clear n0_ n1_ n2_ n3_ n4_ n5_; clear hb hbox hg; have hcz22_0 : w21.cell? ⟨gb193, 0, none⟩ = some (.string (⟨#[]⟩ : ByteArray)) := (blk_cell BK193.out 0).trans rfl; have hcz22_1 : w21.cell? ⟨gb193, 1, none⟩ = some (.int .u8 0) := (blk_cell BK193.out 1).trans rfl; have hcz22_2 : w21.cell? ⟨gb193, 2, none⟩ = some (.slice none 0 0) := (blk_cell BK193.out 2).trans rfl; have hfz22_0 := blk_frozen BK193.out 0; have hfz22_1 := blk_frozen BK193.out 1; have hfz22_2 := blk_frozen BK193.out 2; obtain ⟨Ao23, co23, eo23⟩ := Kd.R_slice HO191.out; subst eo23) | ((with_reducible refine gate_store (t := 41) (p := 6) rfl ?_); refine store_event (t := 41) (p := 6) (v := ?vo_w24) (w1 := (((w21.setCell ⟨gb193, 0, none⟩ (.string t187)).setCell ⟨gb193, 1, none⟩ (.int .u8 t188)).setCell ⟨gb193, 2, none⟩ (.slice Ao23 t189.length co23))) ?hg ?ho ?hn ?hr ?_; (case ho => rfl); (case hg => rfl); (case hn => rfl); (case hr => first | (go_simp; done) | (go_simp; rfl)); intro w24 hw; have n0_ : Aside0 (Kd.S k41 41 w24 w.heap.size (fun k_ => some k_ ≠ (.slice Ao23 t189.length co23 : Value).ownBlock ∧ k_ ≠ gb193) u4 x4_1) := ⟨(by rw [hw]; exact (by (with_reducible repeat (first | apply Kd.S_alloc | apply Kd.S_drewN | apply Kd.S_drew)); exact Kd.S_mono (Kd.S_far (p := ⟨gb193, 2, none⟩) (Kd.S_far (p := ⟨gb193, 1, none⟩) (Kd.S_far (p := ⟨gb193, 0, none⟩) (Kd.S_mono HO_4.out (fun k_ hk => (⟨hk, hk.2⟩ : _ ∧ k_ ≠ gb193))) (fun _ hk => hk.2) (.string t187)) (fun _ hk => hk.2) (.int .u8 t188)) (fun _ hk => hk.2) (.slice Ao23 t189.length co23)) (fun _ hk => ⟨hk.1.1.2, hk.1.2⟩)))⟩; have n1_ : Aside0 (Kd.R k43 43 w24 w.heap.size (fun _ => True) (.slice Ao23 t189.length co23) t189) := ⟨(by rw [hw]; exact (by (with_reducible repeat (first | apply Kd.R_alloc | apply Kd.R_drewN | apply Kd.R_drew)); exact Kd.R_mono (Kd.R_far (p := ⟨gb193, 2, none⟩) (Kd.R_far (p := ⟨gb193, 1, none⟩) (Kd.R_far (p := ⟨gb193, 0, none⟩) (Kd.R_types HO191.out BK193.out (by decide)) (fun _ hk => hk.2) (.string t187)) (fun _ hk => hk.2) (.int .u8 t188)) (fun _ hk => hk.2) (.slice Ao23 t189.length co23)) (fun _ hk => trivial)))⟩; have n2_ : Aside0 (w24.heap[gb193]? = some (.cells #[.string t187, .int .u8 t188, .slice Ao23 t189.length co23] 41 (0, 0))) := ⟨(by rw [hw]; exact (by (with_reducible repeat (first | refine blk_drewN ?_ _ | refine blk_drew ?_ | refine blk_alloc ?_ _)); refine blk_put (cs := #[.string t187, .int .u8 t188, .slice none 0 0]) ?_ 2 _ rfl; (with_reducible repeat (first | refine blk_drewN ?_ _ | refine blk_drew ?_ | refine blk_alloc ?_ _)); refine blk_put (cs := #[.string t187, .int .u8 0, .slice none 0 0]) ?_ 1 _ rfl; (with_reducible repeat (first | refine blk_drewN ?_ _ | refine blk_drew ?_ | refine blk_alloc ?_ _)); refine blk_put (cs := #[.string (⟨#[]⟩ : ByteArray), .int .u8 0, .slice none 0 0]) ?_ 0 _ rfl; (with_reducible repeat (first | refine blk_drewN ?_ _ | refine blk_drew ?_ | refine blk_alloc ?_ _)); exact BK193.out))⟩; have n3_ : Aside0 (Below w.heap.size w w24) := ⟨(by rw [hw]; exact (by repeat (first | (with_reducible first | exact HB.out | apply below_alloc | apply pw_below_drewN | apply below_drew1 | refine below_set ?_ GE193.out) | exact HB.out)))⟩; clear hw; clear HO_4; clear HO191; clear BK193; clear HB; have HO_4 := n0_; have HO191 := n1_; have BK193 := n2_; have HB := n3_; clear n0_ n1_ n2_ n3_; have hcz25_0 : w24.cell? ⟨gb193, 0, none⟩ = some (.string t187) := (blk_cell BK193.out 0).trans rfl; have hcz25_1 : w24.cell? ⟨gb193, 1, none⟩ = some (.int .u8 t188) := (blk_cell BK193.out 1).trans rfl; have hcz25_2 : w24.cell? ⟨gb193, 2, none⟩ = some (.slice Ao23 t189.length co23) := (blk_cell BK193.out 2).trans rfl; have hfz25_0 := blk_frozen BK193.out 0; have hfz25_1 := blk_frozen BK193.out 1; have hfz25_2 := blk_frozen BK193.out 2) | ((with_reducible refine gate_builtin (b := .append) (xs := #[.tmp 39, .tmp 41]) rfl ?_); at_builtin; refine Kd.S_append k41 (w0 := w) w.heap.size rfl (.tmp 39) (.tmp 41) 23 41 (.agg #[(.string ⟨#[]⟩), (.int .u8 0), (.slice none 0 0)]) 48 rfl Tryz.underlying23 info41 rfl (by decide) (by omega) u4 x4_1 (⟨t187, t188, t189⟩ : S41) [.string t187, .int .u8 t188, .slice Ao23 t189.length co23] (fun k_ => k_ ≠ gb193) (fun k_ => some k_ = (.slice Ao23 t189.length co23 : Value).ownBlock) rfl rfl ?aP (fun k_ hk_ => ((Kd.R_mono (ok' := fun k_ => ((fun k_ => k_ ≠ gb193)) k_ ∧ some k_ ≠ (u4 : Value).ownBlock) (Kd.R_types (Kd.R_apart' (HO191.out) (Kd.S_typed HO_4.out) (by decide)) BK193.out (by decide)) (fun k_ hk => ⟨hk.2, hk.1.2⟩))).1 k_ hk_.symm) ?aF ?aO ?aB ?aS ?aL ?_; (case aP => exact k41_mkM _ _ _ (⟨t187, t188, t189⟩ : S41) (Kd.R_mono (Kd.R_tight rfl (Kd.R_mono (ok' := fun k_ => ((fun k_ => k_ ≠ gb193)) k_ ∧ some k_ ≠ (u4 : Value).ownBlock) (Kd.R_types (Kd.R_apart' (HO191.out) (Kd.S_typed HO_4.out) (by decide)) BK193.out (by decide)) (fun k_ hk => ⟨hk.2, hk.1.2⟩))) (fun _ h_ => h_))); (case aB => exact (by repeat (first | (with_reducible first | exact HB.out | apply below_alloc | apply pw_below_drewN | apply below_drew1 | refine below_set ?_ GE193.out) | exact HB.out))); (case aF => exact (fun k_ hk => Kd.freshB (g := gb193) (o := .cells #[.string t187, .int .u8 t188, .slice Ao23 t189.length co23] 41 (0, 0)) (by (with_reducible repeat (first | refine blk_drewN ?_ _ | refine blk_drew ?_ | refine blk_alloc ?_ _)); exact BK193.out) k_ hk)); (case aO => exact (by (with_reducible repeat (first | apply Kd.S_alloc | apply Kd.S_drewN | apply Kd.S_drew)); exact Kd.S_mono HO_4.out (fun k_ hk => ⟨hk.2, fun e_ => hk.1 e_⟩))); (case aS => exact (below_size (by repeat (first | (with_reducible first | exact HB.out | apply below_alloc | apply pw_below_drewN | apply below_drew1 | refine below_set ?_ GE193.out) | exact HB.out)))); (case aL => have := LMc16.out; omega); intro v195 w26 ho hb hg hat; rw [← Ny194.out] at ho; have n0_ := Aside0.mk (blk_grown (g := gb193) (o := .cells #[.string t187, .int .u8 t188, .slice Ao23 t189.length co23] 41 (0, 0)) (by (with_reducible repeat (first | refine blk_drewN ?_ _ | refine blk_drew ?_ | refine blk_alloc ?_ _)); exact BK193.out) hg (Kd.S_away HO_4.out (fun _ hk => hk.2))); have n1_ := Aside0.mk (hb); have n2_ := Aside0.mk (ho); clear BK193; clear HB; clear HO_4; clear HO191; have BK193 := n0_; have HB := n1_; have HO196 := n2_; clear n0_ n1_ n2_; clear ho hb hg hat))
                         go_roundg kj5
                         case measure => have := HK1.out; have := HJ5.out; omega
                         case rel => exact ⟨(x0_1.extract ((ji17) : Int).toNat x0_1.size), (y194), (by first | rfl | (simp; done) | (simp only [← hji17] <;> (first | rfl | simp)) | (simp [*]; done)), H', ⟨by have := HK1.out; have := HJ5.out; omega⟩, ⟨by (with_reducible repeat (first | apply Kd.S_alloc | apply Kd.S_drewN | apply Kd.S_drew)); exact Kd.S_mono HO196.out (fun _ hk => trivial)⟩, ⟨by repeat (first | (with_reducible first | exact HB.out | apply below_alloc | apply pw_below_drewN | apply below_drew1 | refine below_set ?_ GE193.out) | exact HB.out)⟩⟩
                       · rw [if_neg c19] at H
                         exact absurd H (by simp)
                     · rw [if_neg c18] at H
                       exact absurd H (by simp)
                   · rw [if_neg c16] at H
                     exact absurd H (by simp)
                 · replace c15 := Bool.eq_false_iff.mpr c15
                   subst c15
                   have H1 : (some (([] : List (S41)), false)) = some (r1, r2) := by rw [if_neg (show ¬ (false = true) by decide)] at H; exact H
                   clear H
                   have H := H1
                   clear H1
                   simp only [Option.some.injEq, Prod.mk.injEq] at H
                   obtain ⟨rfl, rfl⟩ := H
                   go_wp2_with (first | ((with_reducible refine gate_callee (f := 41) rfl ?_); refine goesL_ (some 34) rfl rfl Tryz.func41 (by kernel_rfl) rfl #[.string (x0_1.extract 1 (x5_5 : Int).toNat)] rfl (by (try simp only [List.map_toArray, List.map_cons, List.map_nil]); first | done | rfl | (simp only [List.length_drop, List.length_take]; rfl)) ?_; (with_reducible refine (rf07_inside.calls kj5 (x0_1.extract 1 (x5_5 : Int).toNat) t187 t188 t189 false _ A14.out).mono ?_); rintro e w27 ⟨v190, rfl, ho0, hb⟩; refine ⟨_, rfl, ?_⟩; have n0_ := Aside0.mk (Kd.S_elder' (by (with_reducible repeat (first | apply Kd.S_alloc | apply Kd.S_drewN | apply Kd.S_drew)); exact HO_4.out) (Kd.R_base ho0) hb); have n1_ := Aside0.mk (Kd.R_lower ho0 (below_size (by repeat (first | (with_reducible first | exact HB.out | apply below_alloc | apply pw_below_drewN | apply below_drew1) | exact HB.out)))); have n2_ := Aside0.mk (below_step (by repeat (first | (with_reducible first | exact HB.out | apply below_alloc | apply pw_below_drewN | apply below_drew1) | exact HB.out)) hb); clear HO_4; clear HB; have HO_4 := n0_; have HO191 := n1_; have HB := n2_; clear n0_ n1_ n2_; (try clear hb); (try clear hb2); (try clear hk); (try clear hi); (try clear ho0)) | ((with_reducible refine gate_dst (N := 6) rfl ?_); refine box_event ?hg (N := 6) ?hd (cs := #[.string (⟨#[]⟩ : ByteArray), .int .u8 0, .slice none 0 0]) (t := 41) ?hr ?_; (case hd => rfl); (case hg => rfl); (case hr => first | (go_simp; done) | (go_simp; rfl)); intro gb193 hg w28 hbox hb; have n0_ := Aside0.mk (Kd.S_below (Kd.S_elderB (by (with_reducible repeat (first | apply Kd.S_alloc | apply Kd.S_drewN | apply Kd.S_drew)); exact HO_4.out) gb193 (Nat.le_of_eq hg.symm)) hb); have n1_ := Aside0.mk (Kd.R_below (by (with_reducible repeat (first | apply Kd.R_alloc | apply Kd.R_drewN | apply Kd.R_drew)); exact HO191.out) hb); have n2_ := Aside0.mk (below_step (by repeat (first | (with_reducible first | exact HB.out | apply below_alloc | apply pw_below_drewN | apply below_drew1) | exact HB.out)) hb); have n3_ := Aside0.mk (hbox); have n4_ := Aside0.mk ((by rw [hg]; exact (below_size (by repeat (first | (with_reducible first | exact HB.out | apply below_alloc | apply pw_below_drewN | apply below_drew1) | exact HB.out))) : w.heap.size ≤ gb193)); have n5_ := Aside0.mk ((by rw [hg]; exact (below_size (by repeat (first | (with_reducible first | exact HB.out | apply below_alloc | apply pw_below_drewN | apply below_drew1) | exact HB.out))) : w.heap.size ≤ gb193)); clear HO_4; clear HO191; clear HB; have HO_4 := n0_; have HO191 := n1_; have HB := n2_; have BK193 := n3_; have GW193 := n4_; have GE193 := n5_; clear n0_ n1_ n2_ n3_ n4_ n5_; clear hb hbox hg; have hcz29_0 : w28.cell? ⟨gb193, 0, none⟩ = some (.string (⟨#[]⟩ : ByteArray)) := (blk_cell BK193.out 0).trans rfl; have hcz29_1 : w28.cell? ⟨gb193, 1, none⟩ = some (.int .u8 0) := (blk_cell BK193.out 1).trans rfl; have hcz29_2 : w28.cell? ⟨gb193, 2, none⟩ = some (.slice none 0 0) := (blk_cell BK193.out 2).trans rfl; have hfz29_0 := blk_frozen BK193.out 0; have hfz29_1 := blk_frozen BK193.out 1; have hfz29_2 := blk_frozen BK193.out 2; obtain ⟨Ao30, co30, eo30⟩ := Kd.R_slice HO191.out; subst eo30))
                   go_ret2
                   exact ⟨_, by first | rfl | (simp [errW_none, errW_some] <;> rfl) | (simp [*, errW_none, errW_some] <;> rfl), by first | exact Kd.S_nil _ _ _ _ _ | exact Kd.N_nil _ _ _ _ _ | exact Kd.V_nil _ _ _ _ _ | exact Kd.Q_nil _ _ _ _ _ | exact Kd.R_nil _ _ _ _ _, by repeat (first | (with_reducible first | exact HB.out | apply below_alloc | apply pw_below_drewN | apply below_drew1 | refine below_set ?_ GE193.out) | exact HB.out)⟩
               · rw [if_neg c13] at H
                 exact absurd H (by simp)
             · rw [if_neg c12] at H
               exact absurd H (by simp)
       · rw [if_neg c5] at H
         have c5b0 : ((bt x0_1 0) == 123) = false := beq_eq_false_iff_ne.mpr c5
         have c5b1 : ((bt x0_1 0) != 123) = true := bne_iff_ne.mpr c5
         have H' := Aside0.mk H
         clear H
         have p4 : 0 ≤ (0 : Int) := (by omega)
         have q4 : 0 < x0_1.size := (by have : (0 : Int) < (x0_1.size : Int) := of_decide_eq_true (by first | (with_reducible assumption) | assumption); omega)
         have hx4 : ∀ h : 0 < x0_1.size, ((x0_1[0]'h).toNat : Int) = bt x0_1 0 := bt_at x0_1 0
         clear p4
         have qi4 : (0 < (x0_1.size : Int)) = True := eq_true (of_decide_eq_true (by first | (with_reducible assumption) | assumption))
         replace q4 := eq_true q4
         go_wp2
         go_loopg [8] k1 (fun kq v8 w' => ∃ (x8_2 : Int), v8 = .int .i64 x8_2 ∧ Aside0 (rf07_Is.l2 kq x0_1 x4_1 x8_2 = some (r1, r2)) ∧ Aside0 (kq ≤ k1) ∧ Aside0 (Kd.S k41 41 w' w.heap.size (fun _ => True) u4 x4_1) ∧ Aside0 (Below w.heap.size w w'))
         case atStart => exact ⟨(0), (by first | rfl | (simp; done) | (simp [*]; done)), H', ⟨Nat.le_refl _⟩, ⟨by (with_reducible repeat (first | apply Kd.S_alloc | apply Kd.S_drewN | apply Kd.S_drew)); exact HO_4.out⟩, ⟨by repeat (first | (with_reducible first | exact HB.out | apply below_alloc | apply pw_below_drewN | apply below_drew1) | exact HB.out)⟩⟩
         case round =>
          clear H'
          try clear c1
          try clear c2
          try clear c2b0
          try clear c2b1
          try clear p2
          try clear c3
          try clear c3b0
          try clear c3b1
          try clear c4
          try clear p4
          try clear q4
          try clear hx4
          try clear qi4
          try clear c5
          try clear c5b0
          try clear c5b1
          try clear p6
          try clear c7
          try clear c7b0
          try clear c8
          try clear c8b0
          try clear p9
          try clear q9
          try clear hx9
          try clear c10
          try clear c10b0
          try clear c10b1
          try clear c11
          try clear c11b0
          try clear c11b1
          try clear c12
          try clear c12b0
          try clear c12b1
          try clear c13
          try clear c13b0
          try clear c13b1
          try clear c15
          try clear c16
          try clear c18
          try clear c18b0
          try clear c18b1
          try clear c19
          try clear c19b0
          try clear c19b1
          try clear c24
          try clear hcz22_0
          try clear hcz22_1
          try clear hcz22_2
          try clear hcz25_0
          try clear hcz25_1
          try clear hcz25_2
          try clear hcz29_0
          try clear hcz29_1
          try clear hcz29_2
          try clear hfz22_0
          try clear hfz22_1
          try clear hfz22_2
          try clear hfz25_0
          try clear hfz25_1
          try clear hfz25_2
          try clear hfz29_0
          try clear hfz29_1
          try clear hfz29_2
          try clear p2
          try clear p4
          try clear p6
          try clear p9
          try clear q4
          try clear q9
          obtain ⟨x8_2, rfl, HA, HK2, HO_4, HB⟩ := hrel
          cases gk with
          | zero => exact absurd HA.out (by simp [rf07_Is.l2])
          | succ k2 =>
           have H := HA.out
           clear HA
           simp only [rf07_Is.l2] at H
           by_cases c31 : x8_2 < (x0_1.size : Int)
           · rw [if_pos c31] at H
             have c31b0 : decide (x8_2 < (x0_1.size : Int)) = true := decide_eq_true c31
             clear c31
             by_cases c32 : 0 ≤ x8_2
             · rw [if_pos c32] at H
               have c32b0 := eq_true c32
               have c32b1 : decide (0 ≤ x8_2) = true := decide_eq_true c32
               clear c32
               by_cases c33 : x8_2 ≤ (x0_1.size : Int)
               · rw [if_pos c33] at H
                 have c33b0 := eq_true c33
                 have c33b1 : decide (x8_2 ≤ (x0_1.size : Int)) = true := decide_eq_true c33
                 clear c33
                 replace H := Option.bind_eq_some_iff.mp H
                 obtain ⟨t197, A340, H⟩ := H
                 replace H : (if t197 > 0 then ((rf07_Piece.f k2 (x0_1.extract (x8_2 : Int).toNat x0_1.size)).bind fun t198 => (rf07_Is.l2 k2 x0_1 x4_1 (wrap64 (x8_2 + t198)))) else (if x8_2 = 0 then (some (([] : List (S41)), false)) else (if x4_1.length < 2932031007402 then (rf07_Is.l0 k2 (x0_1.extract (x8_2 : Int).toNat x0_1.size) (x4_1 ++ [(⟨x0_1.extract 0 (x8_2 : Int).toNat, 0, ([] : List (S43))⟩ : S41)])) else (none)))) = some (r1, r2) := H
                 have A34 := Aside0.mk A340
                 clear A340
                 by_cases c35 : t197 > 0
                 · rw [if_pos c35] at H
                   have c35b0 : decide (0 < t197) = true := decide_eq_true c35
                   clear c35
                   have c36b0 := eq_true (of_decide_eq_true (by first | (with_reducible assumption) | assumption) : 0 ≤ x8_2)
                   have c37b0 := eq_true (of_decide_eq_true (by first | (with_reducible assumption) | assumption) : x8_2 ≤ (x0_1.size : Int))
                   replace H := Option.bind_eq_some_iff.mp H
                   obtain ⟨t198, A380, H⟩ := H
                   replace H : (rf07_Is.l2 k2 x0_1 x4_1 (wrap64 (x8_2 + t198))) = some (r1, r2) := H
                   have A38 := Aside0.mk A380
                   clear A380
                   have H' := Aside0.mk H
                   clear H
                   go_wp2_with (first | (go_at_call 42; (with_reducible refine (rf07_Piece.calls k2 (x0_1.extract (x8_2 : Int).toNat x0_1.size) t197 _ A34.out).mono ?_); rintro e w39 ⟨rfl, hb⟩; have n0_ := Aside0.mk (Kd.S_below (by (with_reducible repeat (first | apply Kd.S_alloc | apply Kd.S_drewN | apply Kd.S_drew)); exact HO_4.out) hb); have n1_ := Aside0.mk (below_step (by repeat (first | (with_reducible first | exact HB.out | apply below_alloc | apply pw_below_drewN | apply below_drew1) | exact HB.out)) hb); clear HO_4; clear HB; have HO_4 := n0_; have HB := n1_; clear n0_ n1_; (try clear hb); (try clear hb2); (try clear hk); (try clear hi)) | ((with_reducible refine gate_callee (f := 42) rfl ?_); refine goesL_ (some 62) rfl rfl Tryz.func42 (by kernel_rfl) rfl #[.string (x0_1.extract (x8_2 : Int).toNat x0_1.size)] rfl (by (try simp only [List.map_toArray, List.map_cons, List.map_nil]); first | done | rfl | (simp only [List.length_drop, List.length_take]; rfl)) ?_; (with_reducible refine (rf07_Piece.calls k2 (x0_1.extract (x8_2 : Int).toNat x0_1.size) t198 _ A38.out).mono ?_); rintro e w40 ⟨rfl, hb⟩; refine ⟨_, rfl, ?_⟩; have n0_ := Aside0.mk (Kd.S_below (by (with_reducible repeat (first | apply Kd.S_alloc | apply Kd.S_drewN | apply Kd.S_drew)); exact HO_4.out) hb); have n1_ := Aside0.mk (below_step (by repeat (first | (with_reducible first | exact HB.out | apply below_alloc | apply pw_below_drewN | apply below_drew1) | exact HB.out)) hb); clear HO_4; clear HB; have HO_4 := n0_; have HB := n1_; clear n0_ n1_; (try clear hb); (try clear hb2); (try clear hk); (try clear hi)))
                   go_roundg k2
                   case measure => have := HK1.out; have := HK2.out; omega
                   case rel => exact ⟨(wrap64 (x8_2 + t198)), (by first | rfl | (simp; done) | (simp [*]; done)), H', ⟨by have := HK1.out; have := HK2.out; omega⟩, ⟨by (with_reducible repeat (first | apply Kd.S_alloc | apply Kd.S_drewN | apply Kd.S_drew)); exact HO_4.out⟩, ⟨by repeat (first | (with_reducible first | exact HB.out | apply below_alloc | apply pw_below_drewN | apply below_drew1) | exact HB.out)⟩⟩
                 · rw [if_neg c35] at H
                   have c35b0 : decide (0 < t197) = false := decide_eq_false c35
                   clear c35
                   by_cases c41 : x8_2 = 0
                   · rw [if_pos c41] at H
                     have c41b0 : (x8_2 == 0) = true := beq_iff_eq.mpr c41
                     have c41b1 : (x8_2 != 0) = false := bne_eq_false_iff_eq.mpr c41
                     clear c41
                     simp only [Option.some.injEq, Prod.mk.injEq] at H
                     obtain ⟨rfl, rfl⟩ := H
                     go_wp2_with (first | (go_at_call 42; (with_reducible refine (rf07_Piece.calls k2 (x0_1.extract (x8_2 : Int).toNat x0_1.size) t197 _ A34.out).mono ?_); rintro e w42 ⟨rfl, hb⟩; have n0_ := Aside0.mk (Kd.S_below (by (with_reducible repeat (first | apply Kd.S_alloc | apply Kd.S_drewN | apply Kd.S_drew)); exact HO_4.out) hb); have n1_ := Aside0.mk (below_step (by repeat (first | (with_reducible first | exact HB.out | apply below_alloc | apply pw_below_drewN | apply below_drew1) | exact HB.out)) hb); clear HO_4; clear HB; have HO_4 := n0_; have HB := n1_; clear n0_ n1_; (try clear hb); (try clear hb2); (try clear hk); (try clear hi)))
                     go_ret2
                     exact ⟨_, by first | rfl | (simp [errW_none, errW_some] <;> rfl) | (simp [*, errW_none, errW_some] <;> rfl), by first | exact Kd.S_nil _ _ _ _ _ | exact Kd.N_nil _ _ _ _ _ | exact Kd.V_nil _ _ _ _ _ | exact Kd.Q_nil _ _ _ _ _ | exact Kd.R_nil _ _ _ _ _, by repeat (first | (with_reducible first | exact HB.out | apply below_alloc | apply pw_below_drewN | apply below_drew1) | exact HB.out)⟩
                   · rw [if_neg c41] at H
                     have c41b0 : (x8_2 == 0) = false := beq_eq_false_iff_ne.mpr c41
                     have c41b1 : (x8_2 != 0) = true := bne_iff_ne.mpr c41
                     have c43b0 := eq_true (of_decide_eq_true (by first | (with_reducible assumption) | assumption) : 0 ≤ x8_2)
                     have c44b0 := eq_true (of_decide_eq_true (by first | (with_reducible assumption) | assumption) : x8_2 ≤ (x0_1.size : Int))
                     by_cases c45 : x4_1.length < 2932031007402
                     · rw [if_pos c45] at H
                       have LMc45 := Aside0.mk c45
                       clear c45
                       obtain ⟨y199, hy199⟩ : ∃ y_ : List (S41), y_ = (x4_1 ++ [(⟨x0_1.extract 0 (x8_2 : Int).toNat, 0, ([] : List (S43))⟩ : S41)]) := ⟨_, rfl⟩
                       replace H : (rf07_Is.l0 k2 (x0_1.extract (x8_2 : Int).toNat x0_1.size) y199) = some (r1, r2) := by first | (rw [hy199]; with_reducible exact H) | (have H2_ := (Option.bind_some _ _).symm.trans H; rw [hy199]; with_reducible exact H2_) | (have H2_ := (Option.bind_some _ _).symm.trans H; with_reducible exact H2_) | with_reducible exact H | (rw [hy199]; exact H) | exact H
                       have Ny199 := Aside0.mk hy199
                       clear hy199
                       have c46b0 := eq_true (of_decide_eq_true (by first | (with_reducible assumption) | assumption) : 0 ≤ x8_2)
                       have c47b0 := eq_true (of_decide_eq_true (by first | (with_reducible assumption) | assumption) : x8_2 ≤ (x0_1.size : Int))
                       have H' := Aside0.mk H
                       clear H
                       go_wp2_with (first | (go_at_call 42; (with_reducible refine (rf07_Piece.calls k2 (x0_1.extract (x8_2 : Int).toNat x0_1.size) t197 _ A34.out).mono ?_); rintro e w48 ⟨rfl, hb⟩; have n0_ := Aside0.mk (Kd.S_below (by (with_reducible repeat (first | apply Kd.S_alloc | apply Kd.S_drewN | apply Kd.S_drew)); exact HO_4.out) hb); have n1_ := Aside0.mk (below_step (by repeat (first | (with_reducible first | exact HB.out | apply below_alloc | apply pw_below_drewN | apply below_drew1) | exact HB.out)) hb); clear HO_4; clear HB; have HO_4 := n0_; have HB := n1_; clear n0_ n1_; (try clear hb); (try clear hb2); (try clear hk); (try clear hi)) | ((with_reducible refine gate_builtin (b := .append) (xs := #[.tmp 66, .tmp 71]) rfl ?_); at_builtin; refine Kd.S_append k41 (w0 := w) w.heap.size rfl (.tmp 66) (.tmp 71) 23 41 (.agg #[(.string ⟨#[]⟩), (.int .u8 0), (.slice none 0 0)]) 48 rfl Tryz.underlying23 info41 rfl (by decide) (by omega) u4 x4_1 (⟨x0_1.extract 0 (x8_2 : Int).toNat, 0, ([] : List (S43))⟩ : S41) [.string (x0_1.extract 0 (x8_2 : Int).toNat), .int .u8 0, .slice none 0 0] (fun _ => True) (fun _ => False) rfl rfl ?aP (fun k_ hk_ => hk_.elim) ?aF ?aO ?aB ?aS ?aL ?_; (case aP => exact k41_mkM _ _ _ (⟨x0_1.extract 0 (x8_2 : Int).toNat, 0, ([] : List (S43))⟩ : S41) (Kd.R_nil _ _ _ _ _)); (case aB => exact (by repeat (first | (with_reducible first | exact HB.out | apply below_alloc | apply pw_below_drewN | apply below_drew1) | exact HB.out))); (case aF => exact (fun _ _ => trivial)); (case aO => exact (by (with_reducible repeat (first | apply Kd.S_alloc | apply Kd.S_drewN | apply Kd.S_drew)); exact Kd.S_mono HO_4.out (fun k_ hk => ⟨trivial, fun e_ => e_⟩))); (case aS => exact (below_size (by repeat (first | (with_reducible first | exact HB.out | apply below_alloc | apply pw_below_drewN | apply below_drew1) | exact HB.out)))); (case aL => have := LMc45.out; omega); intro v200 w49 ho hb hg hat; rw [← Ny199.out] at ho; have n0_ := Aside0.mk (hb); have n1_ := Aside0.mk (ho); clear HB; clear HO_4; have HB := n0_; have HO201 := n1_; clear n0_ n1_; clear ho hb hg hat))
                       go_roundg k2
                       case measure => have := HK1.out; have := HK2.out; omega
                       case rel => exact ⟨(x0_1.extract (x8_2 : Int).toNat x0_1.size), (y199), (by first | rfl | (simp; done) | (simp [*]; done)), H', ⟨by have := HK1.out; have := HK2.out; omega⟩, ⟨by (with_reducible repeat (first | apply Kd.S_alloc | apply Kd.S_drewN | apply Kd.S_drew)); exact HO201.out⟩, ⟨by repeat (first | (with_reducible first | exact HB.out | apply below_alloc | apply pw_below_drewN | apply below_drew1) | exact HB.out)⟩⟩
                     · rw [if_neg c45] at H
                       exact absurd H (by simp)
               · rw [if_neg c33] at H
                 exact absurd H (by simp)
             · rw [if_neg c32] at H
               exact absurd H (by simp)
           · rw [if_neg c31] at H
             have c31b0 : decide (x8_2 < (x0_1.size : Int)) = false := decide_eq_false c31
             clear c31
             by_cases c50 : x8_2 = 0
             · rw [if_pos c50] at H
               have c50b0 : (x8_2 == 0) = true := beq_iff_eq.mpr c50
               have c50b1 : (x8_2 != 0) = false := bne_eq_false_iff_eq.mpr c50
               clear c50
               simp only [Option.some.injEq, Prod.mk.injEq] at H
               obtain ⟨rfl, rfl⟩ := H
               go_wp2
               go_ret2
               exact ⟨_, by first | rfl | (simp [errW_none, errW_some] <;> rfl) | (simp [*, errW_none, errW_some] <;> rfl), by first | exact Kd.S_nil _ _ _ _ _ | exact Kd.N_nil _ _ _ _ _ | exact Kd.V_nil _ _ _ _ _ | exact Kd.Q_nil _ _ _ _ _ | exact Kd.R_nil _ _ _ _ _, by repeat (first | (with_reducible first | exact HB.out | apply below_alloc | apply pw_below_drewN | apply below_drew1) | exact HB.out)⟩
             · rw [if_neg c50] at H
               have c50b0 : (x8_2 == 0) = false := beq_eq_false_iff_ne.mpr c50
               have c50b1 : (x8_2 != 0) = true := bne_iff_ne.mpr c50
               by_cases c51 : 0 ≤ x8_2
               · rw [if_pos c51] at H
                 have c51b0 := eq_true c51
                 have c51b1 : decide (0 ≤ x8_2) = true := decide_eq_true c51
                 clear c51
                 by_cases c52 : x8_2 ≤ (x0_1.size : Int)
                 · rw [if_pos c52] at H
                   have c52b0 := eq_true c52
                   have c52b1 : decide (x8_2 ≤ (x0_1.size : Int)) = true := decide_eq_true c52
                   clear c52
                   by_cases c53 : x4_1.length < 2932031007402
                   · rw [if_pos c53] at H
                     have LMc53 := Aside0.mk c53
                     clear c53
                     obtain ⟨y202, hy202⟩ : ∃ y_ : List (S41), y_ = (x4_1 ++ [(⟨x0_1.extract 0 (x8_2 : Int).toNat, 0, ([] : List (S43))⟩ : S41)]) := ⟨_, rfl⟩
                     replace H : (rf07_Is.l0 k2 (x0_1.extract (x8_2 : Int).toNat x0_1.size) y202) = some (r1, r2) := by first | (rw [hy202]; with_reducible exact H) | (have H2_ := (Option.bind_some _ _).symm.trans H; rw [hy202]; with_reducible exact H2_) | (have H2_ := (Option.bind_some _ _).symm.trans H; with_reducible exact H2_) | with_reducible exact H | (rw [hy202]; exact H) | exact H
                     have Ny202 := Aside0.mk hy202
                     clear hy202
                     have c54b0 := eq_true (of_decide_eq_true (by first | (with_reducible assumption) | assumption) : 0 ≤ x8_2)
                     have c55b0 := eq_true (of_decide_eq_true (by first | (with_reducible assumption) | assumption) : x8_2 ≤ (x0_1.size : Int))
                     have H' := Aside0.mk H
                     clear H
                     go_wp2_with (first | ((with_reducible refine gate_builtin (b := .append) (xs := #[.tmp 66, .tmp 71]) rfl ?_); at_builtin; refine Kd.S_append k41 (w0 := w) w.heap.size rfl (.tmp 66) (.tmp 71) 23 41 (.agg #[(.string ⟨#[]⟩), (.int .u8 0), (.slice none 0 0)]) 48 rfl Tryz.underlying23 info41 rfl (by decide) (by omega) u4 x4_1 (⟨x0_1.extract 0 (x8_2 : Int).toNat, 0, ([] : List (S43))⟩ : S41) [.string (x0_1.extract 0 (x8_2 : Int).toNat), .int .u8 0, .slice none 0 0] (fun _ => True) (fun _ => False) rfl rfl ?aP (fun k_ hk_ => hk_.elim) ?aF ?aO ?aB ?aS ?aL ?_; (case aP => exact k41_mkM _ _ _ (⟨x0_1.extract 0 (x8_2 : Int).toNat, 0, ([] : List (S43))⟩ : S41) (Kd.R_nil _ _ _ _ _)); (case aB => exact (by repeat (first | (with_reducible first | exact HB.out | apply below_alloc | apply pw_below_drewN | apply below_drew1) | exact HB.out))); (case aF => exact (fun _ _ => trivial)); (case aO => exact (by (with_reducible repeat (first | apply Kd.S_alloc | apply Kd.S_drewN | apply Kd.S_drew)); exact Kd.S_mono HO_4.out (fun k_ hk => ⟨trivial, fun e_ => e_⟩))); (case aS => exact (below_size (by repeat (first | (with_reducible first | exact HB.out | apply below_alloc | apply pw_below_drewN | apply below_drew1) | exact HB.out)))); (case aL => have := LMc53.out; omega); intro v203 w56 ho hb hg hat; rw [← Ny202.out] at ho; have n0_ := Aside0.mk (hb); have n1_ := Aside0.mk (ho); clear HB; clear HO_4; have HB := n0_; have HO204 := n1_; clear n0_ n1_; clear ho hb hg hat))
                     go_roundg k2
                     case measure => have := HK1.out; have := HK2.out; omega
                     case rel => exact ⟨(x0_1.extract (x8_2 : Int).toNat x0_1.size), (y202), (by first | rfl | (simp; done) | (simp [*]; done)), H', ⟨by have := HK1.out; have := HK2.out; omega⟩, ⟨by (with_reducible repeat (first | apply Kd.S_alloc | apply Kd.S_drewN | apply Kd.S_drew)); exact HO204.out⟩, ⟨by repeat (first | (with_reducible first | exact HB.out | apply below_alloc | apply pw_below_drewN | apply below_drew1) | exact HB.out)⟩⟩
                   · rw [if_neg c53] at H
                     exact absurd H (by simp)
                 · rw [if_neg c52] at H
                   exact absurd H (by simp)
               · rw [if_neg c51] at H
                 exact absurd H (by simp)
     · rw [if_neg c3] at H
       exact absurd H (by simp)
mutual
def rf07_Begins.l0 : Nat → ByteArray → List ByteArray → Int → Option (Bool)
 | 0, _, _, _ => none
 | k + 1, x0, x3, x4 => if x4 < (x3.length : Int) then (if 0 ≤ x4 then (if x0.size + (rdOf ByteArray.empty x3 x4).size ≤ 9223372036854775807 then ((rf07_Is.f k (x0 ++ (rdOf ByteArray.empty x3 x4))).bind fun bt220 => (if bt220.2 = true then (some true) else (rf07_Begins.l0 k x0 x3 (wrap64 (x4 + 1))))) else (none)) else (none)) else (rf07_Begins.l1 k x0 1)
def rf07_Begins.l1 : Nat → ByteArray → Int → Option (Bool)
 | 0, _, _ => none
 | k + 1, x0, x7 => if x7 ≤ 3 then (rf07_Begins.j2 k x0 x7 (decide (x7 ≤ (x0.size : Int)))) else (rf07_Begins.j2 k x0 x7 false)
def rf07_Begins.j2 : Nat → ByteArray → Int → Bool → Option (Bool)
 | 0, _, _, _ => none
 | k + 1, x0, x7, x35 => if x35 = true then (if 0 ≤ (wrap64 ((x0.size : Int) - x7)) then (if (wrap64 ((x0.size : Int) - x7)) ≤ (x0.size : Int) then ((rf07_Is.f k (x0.extract 0 ((wrap64 ((x0.size : Int) - x7)) : Int).toNat)).bind fun bt224 => (if bt224.2 = true then ((rf04_Fits.f k (x0.extract ((wrap64 ((x0.size : Int) - x7)) : Int).toNat x0.size)).bind fun t228 => (if t228 = true then (some true) else (rf07_Begins.l1 k x0 (wrap64 (x7 + 1))))) else (rf07_Begins.l1 k x0 (wrap64 (x7 + 1))))) else (none)) else (none)) else (some false)
end
def rf07_Begins.f (k : Nat) (a0 : ByteArray) : Option (Bool) := rf07_Begins.l0 k a0 (([(⟨#[]⟩ : ByteArray), (⟨#[52, 49]⟩ : ByteArray), (⟨#[49]⟩ : ByteArray), (⟨#[97, 125]⟩ : ByteArray), (⟨#[125]⟩ : ByteArray), (⟨#[49, 125]⟩ : ByteArray), (⟨#[52, 49, 125]⟩ : ByteArray)] : List ByteArray)) 0
set_option maxHeartbeats 8000000 in
set_option maxRecDepth 100000 in
theorem rf07_Begins.calls (k : Nat) (a0 : ByteArray) (r : Bool) (w : World) (h : rf07_Begins.f k a0 = some r) :
 Calls Tryz.prog 25 #[.string a0] w fun e w' => e = .returned (.bool r) ∧ Below w.heap.size w w' := by
 have HB := Aside0.mk (Below.refl w.heap.size w)
 have H : (rf07_Begins.l0 k a0 (([(⟨#[]⟩ : ByteArray), (⟨#[52, 49]⟩ : ByteArray), (⟨#[49]⟩ : ByteArray), (⟨#[97, 125]⟩ : ByteArray), (⟨#[125]⟩ : ByteArray), (⟨#[49, 125]⟩ : ByteArray), (⟨#[52, 49, 125]⟩ : ByteArray)] : List ByteArray)) 0) = some r := h
 clear h
 obtain ⟨y216, hy216⟩ : ∃ y_ : List ByteArray, y_ = (([(⟨#[]⟩ : ByteArray), (⟨#[52, 49]⟩ : ByteArray), (⟨#[49]⟩ : ByteArray), (⟨#[97, 125]⟩ : ByteArray), (⟨#[125]⟩ : ByteArray), (⟨#[49, 125]⟩ : ByteArray), (⟨#[52, 49, 125]⟩ : ByteArray)] : List ByteArray)) := ⟨_, rfl⟩
 replace H : (rf07_Begins.l0 k a0 y216 0) = some r := by first | (rw [hy216]; with_reducible exact H) | (have H2_ := (Option.bind_some _ _).symm.trans H; rw [hy216]; with_reducible exact H2_) | (have H2_ := (Option.bind_some _ _).symm.trans H; with_reducible exact H2_) | with_reducible exact H | (rw [hy216]; exact H) | exact H
 have Ny216 := Aside0.mk hy216
 clear hy216
 have H' := Aside0.mk H
 clear H
 go_enter Tryz.func25, Tryz.ntmps25
 go_wp2_with (first | ((with_reducible refine gate_dst (N := 10) rfl ?_); (try (refine gate_guard (by rfl) ?_; dsimp only)); refine Kd.R_lit Kd.string _ 9 ?hg (N := 10) ?hd (xs := ([(⟨#[]⟩ : ByteArray), (⟨#[52, 49]⟩ : ByteArray), (⟨#[49]⟩ : ByteArray), (⟨#[97, 125]⟩ : ByteArray), (⟨#[125]⟩ : ByteArray), (⟨#[49, 125]⟩ : ByteArray), (⟨#[52, 49, 125]⟩ : ByteArray)] : List ByteArray)) (inner := [.string (⟨#[]⟩ : ByteArray), .string (⟨#[52, 49]⟩ : ByteArray), .string (⟨#[49]⟩ : ByteArray), .string (⟨#[97, 125]⟩ : ByteArray), .string (⟨#[125]⟩ : ByteArray), .string (⟨#[49, 125]⟩ : ByteArray), .string (⟨#[52, 49, 125]⟩ : ByteArray)]) (ok := fun _ => True) (okp := fun _ => True) ?hr ?hp (fun _ hk => hk) trivial (Below.refl _ _) (Nat.le_refl _) (by simp) ?_; (case hd => rfl); (case hg => rfl); (case hr => first | (go_simp; done) | (go_simp; rfl)); (case hp => exact (Reps.one (show Kd.M Kd.string _ _ _ (⟨#[]⟩ : ByteArray) [.string (⟨#[]⟩ : ByteArray)] from rfl) (Reps.one (show Kd.M Kd.string _ _ _ (⟨#[52, 49]⟩ : ByteArray) [.string (⟨#[52, 49]⟩ : ByteArray)] from rfl) (Reps.one (show Kd.M Kd.string _ _ _ (⟨#[49]⟩ : ByteArray) [.string (⟨#[49]⟩ : ByteArray)] from rfl) (Reps.one (show Kd.M Kd.string _ _ _ (⟨#[97, 125]⟩ : ByteArray) [.string (⟨#[97, 125]⟩ : ByteArray)] from rfl) (Reps.one (show Kd.M Kd.string _ _ _ (⟨#[125]⟩ : ByteArray) [.string (⟨#[125]⟩ : ByteArray)] from rfl) (Reps.one (show Kd.M Kd.string _ _ _ (⟨#[49, 125]⟩ : ByteArray) [.string (⟨#[49, 125]⟩ : ByteArray)] from rfl) (Reps.one (show Kd.M Kd.string _ _ _ (⟨#[52, 49, 125]⟩ : ByteArray) [.string (⟨#[52, 49, 125]⟩ : ByteArray)] from rfl) (Reps.none _ _))))))))); intro v217 w2 ho3 hb hg_ hnew_; clear hg_ hnew_; (first | rw [← Ny216.out] at ho3 | (simp only [Int.reduceToNat] at ho3; rw [← Ny216.out] at ho3)); have n0_ := Aside0.mk (Kd.R_lower ho3 (below_size (by repeat (first | (with_reducible first | exact HB.out | apply below_alloc | apply pw_below_drewN | apply below_drew1) | exact HB.out)))); have n1_ := Aside0.mk (below_step (by repeat (first | (with_reducible first | exact HB.out | apply below_alloc | apply pw_below_drewN | apply below_drew1) | exact HB.out)) hb); clear HB; have HO218 := n0_; have HB := n1_; clear n0_ n1_; clear hb ho3))
 go_loopg [4] k (fun kq v4 w' => ∃ (x4_1 : Int), v4 = .int .i64 x4_1 ∧ Aside0 (rf07_Begins.l0 kq a0 y216 x4_1 = some r) ∧ Aside0 (kq ≤ k) ∧ Aside0 (Kd.R Kd.string 9 w' w.heap.size (fun _ => True) v217 y216) ∧ Aside0 (Below w.heap.size w w'))
 case atStart => exact ⟨(0), (by first | rfl | (simp; done) | (simp [*]; done)), H', ⟨Nat.le_refl _⟩, ⟨by (with_reducible repeat (first | apply Kd.R_alloc | apply Kd.R_drewN | apply Kd.R_drew)); exact HO218.out⟩, ⟨by repeat (first | (with_reducible first | exact HB.out | apply below_alloc | apply pw_below_drewN | apply below_drew1) | exact HB.out)⟩⟩
 case round =>
  clear H'
  try clear c2
  try clear p2
  obtain ⟨x4_1, rfl, HA, HK1, HO_3, HB⟩ := hrel
  cases gk with
  | zero => exact absurd HA.out (by simp [rf07_Begins.l0])
  | succ k1 =>
   have H := HA.out
   clear HA
   simp only [rf07_Begins.l0] at H
   by_cases c4 : x4_1 < (y216.length : Int)
   · rw [if_pos c4] at H
     have c4b0 : decide (x4_1 < (y216.length : Int)) = true := decide_eq_true c4
     clear c4
     by_cases c5 : 0 ≤ x4_1
     · rw [if_pos c5] at H
       have c5b0 : decide (0 ≤ x4_1) = true := decide_eq_true c5
       clear c5
       by_cases c6 : a0.size + (rdOf ByteArray.empty y216 x4_1).size ≤ 9223372036854775807
       · rw [if_pos c6] at H
         have c6b0 := eq_true c6
         have c6b1 : decide (a0.size + (rdOf ByteArray.empty y216 x4_1).size ≤ 9223372036854775807) = true := decide_eq_true c6
         try have c6b2 : (9223372036854775807 < a0.size + (rdOf ByteArray.empty y216 x4_1).size) = False := eq_false (Nat.not_lt.2 c6)
         replace H := Option.bind_eq_some_iff.mp H
         obtain ⟨⟨t220, t221⟩, A70, H⟩ := H
         replace H : (if t221 = true then (some true) else (rf07_Begins.l0 k1 a0 y216 (wrap64 (x4_1 + 1)))) = some r := H
         have A7 := Aside0.mk A70
         clear A70
         by_cases c8 : t221 = true
         · subst c8
           have H1 : (some true) = some r := by rw [if_pos rfl] at H; exact H
           clear H
           have H := H1
           clear H1
           obtain rfl := Option.some.inj H
           obtain ⟨Ao9, co9, eo9⟩ := Kd.R_slice HO_3.out
           subst eo9
           have p219 : 0 ≤ (x4_1 : Int) := of_decide_eq_true (by first | (with_reducible assumption) | assumption)
           have q219 : x4_1 < (y216.length : Int) := of_decide_eq_true (by first | (with_reducible assumption) | assumption)
           obtain ⟨ad219, e219, hx219_0⟩ := Kd.at_string (Kd.R_reads' HO_3.out).2.2 x4_1 p219 q219
           cases e219
           replace p219 := eq_true p219
           replace q219 := eq_true q219
           go_wp2_with (first | ((with_reducible refine gate_callee (f := 24) rfl ?_); refine goesL_ (some 24) rfl rfl Tryz.func24 (by kernel_rfl) rfl #[.string (a0 ++ (rdOf ByteArray.empty y216 x4_1))] rfl (by (try simp only [List.map_toArray, List.map_cons, List.map_nil]); first | done | rfl | (simp only [List.length_drop, List.length_take]; rfl)) ?_; (with_reducible refine (rf07_Is.calls k1 (a0 ++ (rdOf ByteArray.empty y216 x4_1)) t220 true _ A7.out).mono ?_); rintro e w10 ⟨v222, rfl, ho0, hb⟩; refine ⟨_, rfl, ?_⟩; have n0_ := Aside0.mk (Kd.R_below (by (with_reducible repeat (first | apply Kd.R_alloc | apply Kd.R_drewN | apply Kd.R_drew)); exact HO_3.out) hb); have n1_ := Aside0.mk (Kd.S_lower ho0 (below_size (by repeat (first | (with_reducible first | exact HB.out | apply below_alloc | apply pw_below_drewN | apply below_drew1) | exact HB.out)))); have n2_ := Aside0.mk (below_step (by repeat (first | (with_reducible first | exact HB.out | apply below_alloc | apply pw_below_drewN | apply below_drew1) | exact HB.out)) hb); clear HO_3; clear HB; have HO_3 := n0_; have HO223 := n1_; have HB := n2_; clear n0_ n1_ n2_; (try clear hb); (try clear hb2); (try clear hk); (try clear hi); (try clear ho0)))
           go_ret
           exact ⟨by first | rfl | (simp [errW_none, errW_some] <;> rfl) | (simp [*, errW_none, errW_some] <;> rfl), by repeat (first | (with_reducible first | exact HB.out | apply below_alloc | apply pw_below_drewN | apply below_drew1) | exact HB.out)⟩
         · replace c8 := Bool.eq_false_iff.mpr c8
           subst c8
           have H1 : (rf07_Begins.l0 k1 a0 y216 (wrap64 (x4_1 + 1))) = some r := by rw [if_neg (show ¬ (false = true) by decide)] at H; exact H
           clear H
           have H := H1
           clear H1
           have H' := Aside0.mk H
           clear H
           obtain ⟨Ao11, co11, eo11⟩ := Kd.R_slice HO_3.out
           subst eo11
           have p219 : 0 ≤ (x4_1 : Int) := of_decide_eq_true (by first | (with_reducible assumption) | assumption)
           have q219 : x4_1 < (y216.length : Int) := of_decide_eq_true (by first | (with_reducible assumption) | assumption)
           obtain ⟨ad219, e219, hx219_0⟩ := Kd.at_string (Kd.R_reads' HO_3.out).2.2 x4_1 p219 q219
           cases e219
           replace p219 := eq_true p219
           replace q219 := eq_true q219
           go_wp2_with (first | ((with_reducible refine gate_callee (f := 24) rfl ?_); refine goesL_ (some 24) rfl rfl Tryz.func24 (by kernel_rfl) rfl #[.string (a0 ++ (rdOf ByteArray.empty y216 x4_1))] rfl (by (try simp only [List.map_toArray, List.map_cons, List.map_nil]); first | done | rfl | (simp only [List.length_drop, List.length_take]; rfl)) ?_; (with_reducible refine (rf07_Is.calls k1 (a0 ++ (rdOf ByteArray.empty y216 x4_1)) t220 false _ A7.out).mono ?_); rintro e w12 ⟨v222, rfl, ho0, hb⟩; refine ⟨_, rfl, ?_⟩; have n0_ := Aside0.mk (Kd.R_below (by (with_reducible repeat (first | apply Kd.R_alloc | apply Kd.R_drewN | apply Kd.R_drew)); exact HO_3.out) hb); have n1_ := Aside0.mk (Kd.S_lower ho0 (below_size (by repeat (first | (with_reducible first | exact HB.out | apply below_alloc | apply pw_below_drewN | apply below_drew1) | exact HB.out)))); have n2_ := Aside0.mk (below_step (by repeat (first | (with_reducible first | exact HB.out | apply below_alloc | apply pw_below_drewN | apply below_drew1) | exact HB.out)) hb); clear HO_3; clear HB; have HO_3 := n0_; have HO223 := n1_; have HB := n2_; clear n0_ n1_ n2_; (try clear hb); (try clear hb2); (try clear hk); (try clear hi); (try clear ho0)))
           go_roundg k1
           case measure => have := HK1.out; omega
           case rel => exact ⟨(wrap64 (x4_1 + 1)), (by first | rfl | (simp; done) | (simp [*]; done)), H', ⟨by have := HK1.out; omega⟩, ⟨by (with_reducible repeat (first | apply Kd.R_alloc | apply Kd.R_drewN | apply Kd.R_drew)); exact HO_3.out⟩, ⟨by repeat (first | (with_reducible first | exact HB.out | apply below_alloc | apply pw_below_drewN | apply below_drew1) | exact HB.out)⟩⟩
       · rw [if_neg c6] at H
         exact absurd H (by simp)
     · rw [if_neg c5] at H
       exact absurd H (by simp)
   · rw [if_neg c4] at H
     have c4b0 : decide (x4_1 < (y216.length : Int)) = false := decide_eq_false c4
     clear c4
     have H' := Aside0.mk H
     clear H
     obtain ⟨Ao13, co13, eo13⟩ := Kd.R_slice HO_3.out
     subst eo13
     go_wp2
     go_loopg [7] k1 (fun kq v7 w' => ∃ (x7_2 : Int), v7 = .int .i64 x7_2 ∧ Aside0 (rf07_Begins.l1 kq a0 x7_2 = some r) ∧ Aside0 (kq ≤ k1) ∧ Aside0 (Below w.heap.size w w'))
     case atStart => exact ⟨(1), (by first | rfl | (simp; done) | (simp [*]; done)), H', ⟨Nat.le_refl _⟩, ⟨by repeat (first | (with_reducible first | exact HB.out | apply below_alloc | apply pw_below_drewN | apply below_drew1) | exact HB.out)⟩⟩
     case round =>
      clear H'
      try clear c2
      try clear p2
      try clear q2
      try clear hx2
      try clear c4
      try clear c4b0
      try clear c5
      try clear c5b0
      try clear c6
      try clear c6b0
      try clear c6b1
      try clear c6b2
      try clear p6
      try clear c8
      try clear hx219_0
      try clear p2
      try clear p219
      try clear q219
      obtain ⟨x7_2, rfl, HA, HK2, HB⟩ := hrel
      cases gk with
      | zero => exact absurd HA.out (by simp [rf07_Begins.l1])
      | succ k2 =>
       have H := HA.out
       clear HA
       simp only [rf07_Begins.l1] at H
       have HC14 := Aside0.mk H
       clear H
       go_upto_region 9 with (fail)
       go_cut [35] (fun v35 wc => ∃ (kq : Nat) (x35_13 : Bool), v35 = .bool x35_13 ∧ Aside0 (rf07_Begins.j2 kq a0 x7_2 x35_13 = some r) ∧ Aside0 (kq ≤ k2) ∧ Aside0 (Below w.heap.size w wc))
       case first =>
        have H := HC14.out
        clear HC14
        by_cases c15 : x7_2 ≤ 3
        · rw [if_pos c15] at H
          have c15b0 : decide (x7_2 ≤ 3) = true := decide_eq_true c15
          clear c15
          (first | rw [c15b0] | (simp only [i64_w, i32_w]; rw [c15b0]) | skip)
          have H' := Aside0.mk H
          clear H
          go_wp2
          go_meet
          case rel => exact ⟨_, (decide (x7_2 ≤ (a0.size : Int))), (by first | rfl | (simp; done) | (simp [*]; done)), H', ⟨by have := HK1.out; have := HK2.out; first | omega | exact Nat.le_refl _⟩, ⟨by repeat (first | (with_reducible first | exact HB.out | apply below_alloc | apply pw_below_drewN | apply below_drew1) | exact HB.out)⟩⟩
        · rw [if_neg c15] at H
          have c15b0 : decide (x7_2 ≤ 3) = false := decide_eq_false c15
          clear c15
          (first | rw [c15b0] | (simp only [i64_w, i32_w]; rw [c15b0]) | skip)
          have H' := Aside0.mk H
          clear H
          go_wp2
          go_meet
          case rel => exact ⟨_, (false), (by first | rfl | (simp; done) | (simp [*]; done)), H', ⟨by have := HK1.out; have := HK2.out; first | omega | exact Nat.le_refl _⟩, ⟨by repeat (first | (with_reducible first | exact HB.out | apply below_alloc | apply pw_below_drewN | apply below_drew1) | exact HB.out)⟩⟩
       case rest =>
        clear HC14
        try clear c1
        try clear c2
        try clear p2
        try clear q2
        try clear hx2
        try clear c4
        try clear c4b0
        try clear c5
        try clear c5b0
        try clear c6
        try clear c6b0
        try clear c6b1
        try clear c6b2
        try clear p6
        try clear c8
        try clear c15
        try clear c15b0
        try clear hx219_0
        try clear p2
        try clear p219
        try clear p6
        try clear q2
        try clear q219
        obtain ⟨kq, x35_13, rfl, HA, HJ13, HB⟩ := hcut
        cases kq with
        | zero => exact absurd HA.out (by simp [rf07_Begins.j2])
        | succ kj13 =>
         have H := HA.out
         clear HA
         simp only [rf07_Begins.j2] at H
         by_cases c16 : x35_13 = true
         · subst c16
           have H1 : (if 0 ≤ (wrap64 ((a0.size : Int) - x7_2)) then (if (wrap64 ((a0.size : Int) - x7_2)) ≤ (a0.size : Int) then ((rf07_Is.f kj13 (a0.extract 0 ((wrap64 ((a0.size : Int) - x7_2)) : Int).toNat)).bind fun bt224 => (if bt224.2 = true then ((rf04_Fits.f kj13 (a0.extract ((wrap64 ((a0.size : Int) - x7_2)) : Int).toNat a0.size)).bind fun t228 => (if t228 = true then (some true) else (rf07_Begins.l1 kj13 a0 (wrap64 (x7_2 + 1))))) else (rf07_Begins.l1 kj13 a0 (wrap64 (x7_2 + 1))))) else (none)) else (none)) = some r := by rw [if_pos rfl] at H; exact H
           clear H
           have H := H1
           clear H1
           obtain ⟨ji17, hji17⟩ : ∃ j_ : Int, (wrap64 ((a0.size : Int) - x7_2)) = j_ := ⟨_, rfl⟩
           replace H : (if 0 ≤ (ji17) then (if (ji17) ≤ (a0.size : Int) then ((rf07_Is.f kj13 (a0.extract 0 ((ji17) : Int).toNat)).bind fun bt224 => (if bt224.2 = true then ((rf04_Fits.f kj13 (a0.extract ((ji17) : Int).toNat a0.size)).bind fun t228 => (if t228 = true then (some true) else (rf07_Begins.l1 kj13 a0 (wrap64 (x7_2 + 1))))) else (rf07_Begins.l1 kj13 a0 (wrap64 (x7_2 + 1))))) else (none)) else (none)) = some r := by first | (rw [hji17] at H; exact H) | (simp only [hji17] at H ⊢; exact H)
           have hji17w : (IntKind.i64.wrap ((a0.size : Int) - x7_2)) = ji17 := (i64_w _).trans hji17
           by_cases c18 : 0 ≤ (ji17)
           · rw [if_pos c18] at H
             have c18b0 := eq_true c18
             have c18b1 : decide (0 ≤ (ji17)) = true := decide_eq_true c18
             clear c18
             by_cases c19 : (ji17) ≤ (a0.size : Int)
             · rw [if_pos c19] at H
               have c19b0 := eq_true c19
               have c19b1 : decide ((ji17) ≤ (a0.size : Int)) = true := decide_eq_true c19
               clear c19
               replace H := Option.bind_eq_some_iff.mp H
               obtain ⟨⟨t224, t225⟩, A200, H⟩ := H
               replace H : (if t225 = true then ((rf04_Fits.f kj13 (a0.extract ((ji17) : Int).toNat a0.size)).bind fun t228 => (if t228 = true then (some true) else (rf07_Begins.l1 kj13 a0 (wrap64 (x7_2 + 1))))) else (rf07_Begins.l1 kj13 a0 (wrap64 (x7_2 + 1)))) = some r := H
               have A20 := Aside0.mk A200
               clear A200
               by_cases c21 : t225 = true
               · subst c21
                 have H1 : ((rf04_Fits.f kj13 (a0.extract ((ji17) : Int).toNat a0.size)).bind fun t228 => (if t228 = true then (some true) else (rf07_Begins.l1 kj13 a0 (wrap64 (x7_2 + 1))))) = some r := by rw [if_pos rfl] at H; exact H
                 clear H
                 have H := H1
                 clear H1
                 have c22b0 := eq_true (of_decide_eq_true (by first | (with_reducible assumption) | assumption) : 0 ≤ (ji17))
                 have c23b0 := eq_true (of_decide_eq_true (by first | (with_reducible assumption) | assumption) : (ji17) ≤ (a0.size : Int))
                 replace H := Option.bind_eq_some_iff.mp H
                 obtain ⟨t228, A240, H⟩ := H
                 replace H : (if t228 = true then (some true) else (rf07_Begins.l1 kj13 a0 (wrap64 (x7_2 + 1)))) = some r := H
                 have A24 := Aside0.mk A240
                 clear A240
                 by_cases c25 : t228 = true
                 · subst c25
                   have H1 : (some true) = some r := by rw [if_pos rfl] at H; exact H
                   clear H
                   have H := H1
                   clear H1
                   obtain rfl := Option.some.inj H
                   go_wp2_with (first | ((with_reducible refine gate_callee (f := 24) rfl ?_); refine goesL_ (some 45) rfl rfl Tryz.func24 (by kernel_rfl) rfl #[.string (a0.extract 0 ((ji17) : Int).toNat)] rfl (by (try simp only [List.map_toArray, List.map_cons, List.map_nil]); first | done | (simp only [hji17]; rfl) | rfl | (simp only [List.length_drop, List.length_take]; rfl)) ?_; (with_reducible refine (rf07_Is.calls kj13 (a0.extract 0 ((ji17) : Int).toNat) t224 true _ A20.out).mono ?_); rintro e w26 ⟨v226, rfl, ho0, hb⟩; refine ⟨_, rfl, ?_⟩; have n0_ := Aside0.mk (Kd.S_lower ho0 (below_size (by repeat (first | (with_reducible first | exact HB.out | apply below_alloc | apply pw_below_drewN | apply below_drew1) | exact HB.out)))); have n1_ := Aside0.mk (below_step (by repeat (first | (with_reducible first | exact HB.out | apply below_alloc | apply pw_below_drewN | apply below_drew1) | exact HB.out)) hb); clear HB; have HO227 := n0_; have HB := n1_; clear n0_ n1_; (try clear hb); (try clear hb2); (try clear hk); (try clear hi); (try clear ho0)) | (go_at_call 43; (with_reducible refine (rf04_Fits.calls kj13 (a0.extract ((ji17) : Int).toNat a0.size) true _ A24.out).mono ?_); rintro e w27 ⟨rfl, hb⟩; have n0_ := Aside0.mk (Kd.S_below (by (with_reducible repeat (first | apply Kd.S_alloc | apply Kd.S_drewN | apply Kd.S_drew)); exact HO227.out) hb); have n1_ := Aside0.mk (below_step (by repeat (first | (with_reducible first | exact HB.out | apply below_alloc | apply pw_below_drewN | apply below_drew1) | exact HB.out)) hb); clear HO227; clear HB; have HO227 := n0_; have HB := n1_; clear n0_ n1_; (try clear hb); (try clear hb2); (try clear hk); (try clear hi)))
                   go_ret
                   exact ⟨by first | rfl | (simp [errW_none, errW_some] <;> rfl) | (simp only [← hji17]; first | rfl | (simp [errW_none, errW_some] <;> rfl)) | (simp [*, errW_none, errW_some] <;> rfl), by repeat (first | (with_reducible first | exact HB.out | apply below_alloc | apply pw_below_drewN | apply below_drew1) | exact HB.out)⟩
                 · replace c25 := Bool.eq_false_iff.mpr c25
                   subst c25
                   have H1 : (rf07_Begins.l1 kj13 a0 (wrap64 (x7_2 + 1))) = some r := by rw [if_neg (show ¬ (false = true) by decide)] at H; exact H
                   clear H
                   have H := H1
                   clear H1
                   have H' := Aside0.mk H
                   clear H
                   go_wp2_with (first | ((with_reducible refine gate_callee (f := 24) rfl ?_); refine goesL_ (some 45) rfl rfl Tryz.func24 (by kernel_rfl) rfl #[.string (a0.extract 0 ((ji17) : Int).toNat)] rfl (by (try simp only [List.map_toArray, List.map_cons, List.map_nil]); first | done | (simp only [hji17]; rfl) | rfl | (simp only [List.length_drop, List.length_take]; rfl)) ?_; (with_reducible refine (rf07_Is.calls kj13 (a0.extract 0 ((ji17) : Int).toNat) t224 true _ A20.out).mono ?_); rintro e w28 ⟨v226, rfl, ho0, hb⟩; refine ⟨_, rfl, ?_⟩; have n0_ := Aside0.mk (Kd.S_lower ho0 (below_size (by repeat (first | (with_reducible first | exact HB.out | apply below_alloc | apply pw_below_drewN | apply below_drew1) | exact HB.out)))); have n1_ := Aside0.mk (below_step (by repeat (first | (with_reducible first | exact HB.out | apply below_alloc | apply pw_below_drewN | apply below_drew1) | exact HB.out)) hb); clear HB; have HO227 := n0_; have HB := n1_; clear n0_ n1_; (try clear hb); (try clear hb2); (try clear hk); (try clear hi); (try clear ho0)) | (go_at_call 43; (with_reducible refine (rf04_Fits.calls kj13 (a0.extract ((ji17) : Int).toNat a0.size) false _ A24.out).mono ?_); rintro e w29 ⟨rfl, hb⟩; have n0_ := Aside0.mk (Kd.S_below (by (with_reducible repeat (first | apply Kd.S_alloc | apply Kd.S_drewN | apply Kd.S_drew)); exact HO227.out) hb); have n1_ := Aside0.mk (below_step (by repeat (first | (with_reducible first | exact HB.out | apply below_alloc | apply pw_below_drewN | apply below_drew1) | exact HB.out)) hb); clear HO227; clear HB; have HO227 := n0_; have HB := n1_; clear n0_ n1_; (try clear hb); (try clear hb2); (try clear hk); (try clear hi)))
                   go_roundg kj13
                   case measure => have := HK1.out; have := HK2.out; have := HJ13.out; omega
                   case rel => exact ⟨(wrap64 (x7_2 + 1)), (by first | rfl | (simp; done) | (simp [*]; done)), H', ⟨by have := HK1.out; have := HK2.out; have := HJ13.out; omega⟩, ⟨by repeat (first | (with_reducible first | exact HB.out | apply below_alloc | apply pw_below_drewN | apply below_drew1) | exact HB.out)⟩⟩
               · replace c21 := Bool.eq_false_iff.mpr c21
                 subst c21
                 have H1 : (rf07_Begins.l1 kj13 a0 (wrap64 (x7_2 + 1))) = some r := by rw [if_neg (show ¬ (false = true) by decide)] at H; exact H
                 clear H
                 have H := H1
                 clear H1
                 have H' := Aside0.mk H
                 clear H
                 go_wp2_with (first | ((with_reducible refine gate_callee (f := 24) rfl ?_); refine goesL_ (some 45) rfl rfl Tryz.func24 (by kernel_rfl) rfl #[.string (a0.extract 0 ((ji17) : Int).toNat)] rfl (by (try simp only [List.map_toArray, List.map_cons, List.map_nil]); first | done | (simp only [hji17]; rfl) | rfl | (simp only [List.length_drop, List.length_take]; rfl)) ?_; (with_reducible refine (rf07_Is.calls kj13 (a0.extract 0 ((ji17) : Int).toNat) t224 false _ A20.out).mono ?_); rintro e w30 ⟨v226, rfl, ho0, hb⟩; refine ⟨_, rfl, ?_⟩; have n0_ := Aside0.mk (Kd.S_lower ho0 (below_size (by repeat (first | (with_reducible first | exact HB.out | apply below_alloc | apply pw_below_drewN | apply below_drew1) | exact HB.out)))); have n1_ := Aside0.mk (below_step (by repeat (first | (with_reducible first | exact HB.out | apply below_alloc | apply pw_below_drewN | apply below_drew1) | exact HB.out)) hb); clear HB; have HO227 := n0_; have HB := n1_; clear n0_ n1_; (try clear hb); (try clear hb2); (try clear hk); (try clear hi); (try clear ho0)))
                 go_roundg kj13
                 case measure => have := HK1.out; have := HK2.out; have := HJ13.out; omega
                 case rel => exact ⟨(wrap64 (x7_2 + 1)), (by first | rfl | (simp; done) | (simp [*]; done)), H', ⟨by have := HK1.out; have := HK2.out; have := HJ13.out; omega⟩, ⟨by repeat (first | (with_reducible first | exact HB.out | apply below_alloc | apply pw_below_drewN | apply below_drew1) | exact HB.out)⟩⟩
             · rw [if_neg c19] at H
               exact absurd H (by simp)
           · rw [if_neg c18] at H
             exact absurd H (by simp)
         · replace c16 := Bool.eq_false_iff.mpr c16
           subst c16
           have H1 : (some false) = some r := by rw [if_neg (show ¬ (false = true) by decide)] at H; exact H
           clear H
           have H := H1
           clear H1
           obtain rfl := Option.some.inj H
           go_wp2
           go_ret
           exact ⟨by first | rfl | (simp [errW_none, errW_some] <;> rfl) | (simp [*, errW_none, errW_some] <;> rfl), by repeat (first | (with_reducible first | exact HB.out | apply below_alloc | apply pw_below_drewN | apply below_drew1) | exact HB.out)⟩
def rf07_Parse.l0 : Nat → ByteArray → Int → Option ((List (S41)) × Int × Int)
 | 0, _, _ => none
 | k + 1, x0, x7 => if x7 < (x0.size : Int) then (if 0 ≤ (wrap64 (x7 + 1)) then (if (wrap64 (x7 + 1)) ≤ (x0.size : Int) then ((rf07_Begins.f k (x0.extract 0 ((wrap64 (x7 + 1)) : Int).toNat)).bind fun t233 => (if t233 = true then (rf07_Parse.l0 k x0 (wrap64 (x7 + 1))) else (some (([] : List (S41)), x7, 2)))) else (none)) else (none)) else (some (([] : List (S41)), x7, 2))
def rf07_Parse.f (k : Nat) (a0 : ByteArray) : Option ((List (S41)) × Int × Int) := (rf07_Is.f k a0).bind fun bt229 => (if bt229.2 = true then (some (bt229.1, (a0.size : Int), 0)) else (rf07_Parse.l0 k a0 0))
set_option maxHeartbeats 8000000 in
set_option maxRecDepth 100000 in
theorem rf07_Parse.calls (k : Nat) (a0 : ByteArray) (r1 : List (S41)) (r2 : Int) (r3 : Int) (w : World) (h : rf07_Parse.f k a0 = some (r1, r2, r3)) :
 Calls Tryz.prog 7 #[.string a0] w fun e w' => ∃ v0_ : Value, e = .returned (.tuple #[v0_, .int .i64 r2, .int .i64 r3]) ∧ Kd.S k41 41 w' w.heap.size (fun _ => True) v0_ r1 ∧ Below w.heap.size w w' := by
 have HB := Aside0.mk (Below.refl w.heap.size w)
 have H : ((rf07_Is.f k a0).bind fun bt229 => (if bt229.2 = true then (some (bt229.1, (a0.size : Int), 0)) else (rf07_Parse.l0 k a0 0))) = some (r1, r2, r3) := h
 clear h
 replace H := Option.bind_eq_some_iff.mp H
 obtain ⟨⟨t229, t230⟩, A20, H⟩ := H
 replace H : (if t230 = true then (some (t229, (a0.size : Int), 0)) else (rf07_Parse.l0 k a0 0)) = some (r1, r2, r3) := H
 have A2 := Aside0.mk A20
 clear A20
 by_cases c3 : t230 = true
 · subst c3
   have H1 : (some (t229, (a0.size : Int), 0)) = some (r1, r2, r3) := by rw [if_pos rfl] at H; exact H
   clear H
   have H := H1
   clear H1
   simp only [Option.some.injEq, Prod.mk.injEq] at H
   obtain ⟨rfl, rfl, rfl⟩ := H
   go_enter Tryz.func7, Tryz.ntmps7
   go_wp2_with (first | ((with_reducible refine gate_callee (f := 24) rfl ?_); refine goesL_ (some 10) rfl rfl Tryz.func24 (by kernel_rfl) rfl #[.string a0] rfl (by (try simp only [List.map_toArray, List.map_cons, List.map_nil]); first | done | rfl | (simp only [List.length_drop, List.length_take]; rfl)) ?_; (with_reducible refine (rf07_Is.calls k a0 t229 true _ A2.out).mono ?_); rintro e w4 ⟨v231, rfl, ho0, hb⟩; refine ⟨_, rfl, ?_⟩; have n0_ := Aside0.mk (Kd.S_lower ho0 (below_size (by repeat (first | (with_reducible first | exact HB.out | apply below_alloc | apply pw_below_drewN | apply below_drew1) | exact HB.out)))); have n1_ := Aside0.mk (below_step (by repeat (first | (with_reducible first | exact HB.out | apply below_alloc | apply pw_below_drewN | apply below_drew1) | exact HB.out)) hb); clear HB; have HO232 := n0_; have HB := n1_; clear n0_ n1_; (try clear hb); (try clear hb2); (try clear hk); (try clear hi); (try clear ho0)))
   go_ret3
   exact ⟨_, by first | rfl | (simp [errW_none, errW_some] <;> rfl) | (simp [*, errW_none, errW_some] <;> rfl), by (with_reducible repeat (first | apply Kd.S_alloc | apply Kd.S_drewN | apply Kd.S_drew)); exact HO232.out, by repeat (first | (with_reducible first | exact HB.out | apply below_alloc | apply pw_below_drewN | apply below_drew1) | exact HB.out)⟩
 · replace c3 := Bool.eq_false_iff.mpr c3
   subst c3
   have H1 : (rf07_Parse.l0 k a0 0) = some (r1, r2, r3) := by rw [if_neg (show ¬ (false = true) by decide)] at H; exact H
   clear H
   have H := H1
   clear H1
   have H' := Aside0.mk H
   clear H
   go_enter Tryz.func7, Tryz.ntmps7
   go_wp2_with (first | ((with_reducible refine gate_callee (f := 24) rfl ?_); refine goesL_ (some 10) rfl rfl Tryz.func24 (by kernel_rfl) rfl #[.string a0] rfl (by (try simp only [List.map_toArray, List.map_cons, List.map_nil]); first | done | rfl | (simp only [List.length_drop, List.length_take]; rfl)) ?_; (with_reducible refine (rf07_Is.calls k a0 t229 false _ A2.out).mono ?_); rintro e w5 ⟨v231, rfl, ho0, hb⟩; refine ⟨_, rfl, ?_⟩; have n0_ := Aside0.mk (Kd.S_lower ho0 (below_size (by repeat (first | (with_reducible first | exact HB.out | apply below_alloc | apply pw_below_drewN | apply below_drew1) | exact HB.out)))); have n1_ := Aside0.mk (below_step (by repeat (first | (with_reducible first | exact HB.out | apply below_alloc | apply pw_below_drewN | apply below_drew1) | exact HB.out)) hb); clear HB; have HO232 := n0_; have HB := n1_; clear n0_ n1_; (try clear hb); (try clear hb2); (try clear hk); (try clear hi); (try clear ho0)))
   go_loopg [7] k (fun kq v7 w' => ∃ (x7_1 : Int), v7 = .int .i64 x7_1 ∧ Aside0 (rf07_Parse.l0 kq a0 x7_1 = some (r1, r2, r3)) ∧ Aside0 (kq ≤ k) ∧ Aside0 (Below w.heap.size w w'))
   case atStart => exact ⟨(0), (by first | rfl | (simp; done) | (simp [*]; done)), H', ⟨Nat.le_refl _⟩, ⟨by repeat (first | (with_reducible first | exact HB.out | apply below_alloc | apply pw_below_drewN | apply below_drew1) | exact HB.out)⟩⟩
   case round =>
    clear H'
    try clear c2
    try clear p2
    try clear c3
    obtain ⟨x7_1, rfl, HA, HK1, HB⟩ := hrel
    cases gk with
    | zero => exact absurd HA.out (by simp [rf07_Parse.l0])
    | succ k1 =>
     have H := HA.out
     clear HA
     simp only [rf07_Parse.l0] at H
     by_cases c6 : x7_1 < (a0.size : Int)
     · rw [if_pos c6] at H
       have c6b0 : decide (x7_1 < (a0.size : Int)) = true := decide_eq_true c6
       clear c6
       obtain ⟨ji7, hji7⟩ : ∃ j_ : Int, (wrap64 (x7_1 + 1)) = j_ := ⟨_, rfl⟩
       replace H : (if 0 ≤ (ji7) then (if (ji7) ≤ (a0.size : Int) then ((rf07_Begins.f k1 (a0.extract 0 ((ji7) : Int).toNat)).bind fun t233 => (if t233 = true then (rf07_Parse.l0 k1 a0 ji7) else (some (([] : List (S41)), x7_1, 2)))) else (none)) else (none)) = some (r1, r2, r3) := by first | (rw [hji7] at H; exact H) | (simp only [hji7] at H ⊢; exact H)
       have hji7w : (IntKind.i64.wrap (x7_1 + 1)) = ji7 := (i64_w _).trans hji7
       by_cases c8 : 0 ≤ (ji7)
       · rw [if_pos c8] at H
         have c8b0 := eq_true c8
         have c8b1 : decide (0 ≤ (ji7)) = true := decide_eq_true c8
         clear c8
         by_cases c9 : (ji7) ≤ (a0.size : Int)
         · rw [if_pos c9] at H
           have c9b0 := eq_true c9
           have c9b1 : decide ((ji7) ≤ (a0.size : Int)) = true := decide_eq_true c9
           clear c9
           replace H := Option.bind_eq_some_iff.mp H
           obtain ⟨t233, A100, H⟩ := H
           replace H : (if t233 = true then (rf07_Parse.l0 k1 a0 ji7) else (some (([] : List (S41)), x7_1, 2))) = some (r1, r2, r3) := H
           have A10 := Aside0.mk A100
           clear A100
           by_cases c11 : t233 = true
           · subst c11
             have H1 : (rf07_Parse.l0 k1 a0 ji7) = some (r1, r2, r3) := by rw [if_pos rfl] at H; exact H
             clear H
             have H := H1
             clear H1
             have H' := Aside0.mk H
             clear H
             go_wp2_with (first | (go_at_call 25; (with_reducible refine (rf07_Begins.calls k1 (a0.extract 0 ((ji7) : Int).toNat) true _ A10.out).mono ?_); rintro e w12 ⟨rfl, hb⟩; have n0_ := Aside0.mk (below_step (by repeat (first | (with_reducible first | exact HB.out | apply below_alloc | apply pw_below_drewN | apply below_drew1) | exact HB.out)) hb); clear HB; have HB := n0_; clear n0_; (try clear hb); (try clear hb2); (try clear hk); (try clear hi)))
             go_roundg k1
             case measure => have := HK1.out; omega
             case rel => exact ⟨(ji7), (by first | rfl | (simp; done) | (simp only [← hji7] <;> (first | rfl | simp)) | (simp [*]; done)), H', ⟨by have := HK1.out; omega⟩, ⟨by repeat (first | (with_reducible first | exact HB.out | apply below_alloc | apply pw_below_drewN | apply below_drew1) | exact HB.out)⟩⟩
           · replace c11 := Bool.eq_false_iff.mpr c11
             subst c11
             have H1 : (some (([] : List (S41)), x7_1, 2)) = some (r1, r2, r3) := by rw [if_neg (show ¬ (false = true) by decide)] at H; exact H
             clear H
             have H := H1
             clear H1
             simp only [Option.some.injEq, Prod.mk.injEq] at H
             obtain ⟨rfl, rfl, rfl⟩ := H
             go_wp2_with (first | (go_at_call 25; (with_reducible refine (rf07_Begins.calls k1 (a0.extract 0 ((ji7) : Int).toNat) false _ A10.out).mono ?_); rintro e w13 ⟨rfl, hb⟩; have n0_ := Aside0.mk (below_step (by repeat (first | (with_reducible first | exact HB.out | apply below_alloc | apply pw_below_drewN | apply below_drew1) | exact HB.out)) hb); clear HB; have HB := n0_; clear n0_; (try clear hb); (try clear hb2); (try clear hk); (try clear hi)))
             go_ret3
             exact ⟨_, by first | rfl | (simp [errW_none, errW_some] <;> rfl) | (simp only [← hji7]; first | rfl | (simp [errW_none, errW_some] <;> rfl)) | (simp [*, errW_none, errW_some] <;> rfl), by first | exact Kd.S_nil _ _ _ _ _ | exact Kd.N_nil _ _ _ _ _ | exact Kd.V_nil _ _ _ _ _ | exact Kd.Q_nil _ _ _ _ _ | exact Kd.R_nil _ _ _ _ _, by repeat (first | (with_reducible first | exact HB.out | apply below_alloc | apply pw_below_drewN | apply below_drew1) | exact HB.out)⟩
         · rw [if_neg c9] at H
           exact absurd H (by simp)
       · rw [if_neg c8] at H
         exact absurd H (by simp)
     · rw [if_neg c6] at H
       have c6b0 : decide (x7_1 < (a0.size : Int)) = false := decide_eq_false c6
       clear c6
       simp only [Option.some.injEq, Prod.mk.injEq] at H
       obtain ⟨rfl, rfl, rfl⟩ := H
       go_wp2
       go_ret3
       exact ⟨_, by first | rfl | (simp [errW_none, errW_some] <;> rfl) | (simp [*, errW_none, errW_some] <;> rfl), by first | exact Kd.S_nil _ _ _ _ _ | exact Kd.N_nil _ _ _ _ _ | exact Kd.V_nil _ _ _ _ _ | exact Kd.Q_nil _ _ _ _ _ | exact Kd.R_nil _ _ _ _ _, by repeat (first | (with_reducible first | exact HB.out | apply below_alloc | apply pw_below_drewN | apply below_drew1) | exact HB.out)⟩
end Go.Proofs.YtkipkbggnfllkaaGreatDoor.P
end
