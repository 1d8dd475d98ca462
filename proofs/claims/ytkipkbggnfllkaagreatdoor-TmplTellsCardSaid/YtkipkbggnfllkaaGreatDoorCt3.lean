/- What is proved here is used by the law's card: Fphalaroperef04Take, Fphalaroperef07Piece, RefUtf, FslicesIndexstringstring, FslicesContainsstringstring, Ftmplnames, FtmplOnce, FtmplNames, Fphalaroperef07Has, Fphalaroperef07Names, Fphalaroperef05Te. -/
import Derived.Test.YtkipkbggnfllkaaGreatDoorCt2
section
namespace Go.Proofs.YtkipkbggnfllkaaGreatDoor.P
open Go.RowKit Go.Proofs.YtkipkbggnfllkaaGreatDoorW.PrintWords Go.Proofs.YtkipkbggnfllkaaGreatDoorW.PrintLast Go.Proofs.YtkipkbggnfllkaaGreatDoorW.PrintMore
attribute [local go_sem] max2_int min2_int max_two min_two max_three min_three max_four min_four
set_option linter.unusedVariables false
set_option linter.unusedSimpArgs false
def rf04_Take.f (k : Nat) (a0 : ByteArray) : Option (Int × Int) := (rf01_First.f k a0).bind fun bt180 => (if bt180.2 = 0 then (some (0, 0)) else ((rf04_May.f bt180.1).bind fun t182 => (if t182 = true then (some (bt180.1, bt180.2)) else (some (0, 0)))))
set_option maxHeartbeats 8000000 in
set_option maxRecDepth 100000 in
theorem rf04_Take.calls (k : Nat) (a0 : ByteArray) (r1 : Int) (r2 : Int) (w : World) (h : rf04_Take.f k a0 = some (r1, r2)) :
 Calls Tryz.prog 61 #[.string a0] w fun e w' => e = .returned (.tuple #[.int .i64 r1, .int .i64 r2]) ∧ Below w.heap.size w w' := by
 have HB := Aside0.mk (Below.refl w.heap.size w)
 have H : ((rf01_First.f k a0).bind fun bt180 => (if bt180.2 = 0 then (some (0, 0)) else ((rf04_May.f bt180.1).bind fun t182 => (if t182 = true then (some (bt180.1, bt180.2)) else (some (0, 0)))))) = some (r1, r2) := h
 clear h
 replace H := Option.bind_eq_some_iff.mp H
 obtain ⟨⟨t180, t181⟩, A20, H⟩ := H
 replace H : (if t181 = 0 then (some (0, 0)) else ((rf04_May.f t180).bind fun t182 => (if t182 = true then (some (t180, t181)) else (some (0, 0))))) = some (r1, r2) := H
 have A2 := Aside0.mk A20
 clear A20
 by_cases c3 : t181 = 0
 · rw [if_pos c3] at H
   have c3b0 : (t181 == 0) = true := beq_iff_eq.mpr c3
   have c3b1 : (t181 != 0) = false := bne_eq_false_iff_eq.mpr c3
   clear c3
   simp only [Option.some.injEq, Prod.mk.injEq] at H
   obtain ⟨rfl, rfl⟩ := H
   go_enter Tryz.func61, Tryz.ntmps61
   go_wp2_with (first | ((with_reducible refine gate_callee (f := 84) rfl ?_); refine goesL_ (some 8) rfl rfl Tryz.func84 (by kernel_rfl) rfl #[.string a0] rfl (by (try simp only [List.map_toArray, List.map_cons, List.map_nil]); first | done | rfl | (simp only [List.length_drop, List.length_take]; rfl)) ?_; (with_reducible refine (rf01_First.calls k a0 t180 t181 _ A2.out).mono ?_); rintro e w4 ⟨rfl, hb⟩; refine ⟨_, rfl, ?_⟩; have n0_ := Aside0.mk (below_step (by repeat (first | (with_reducible first | exact HB.out | apply below_alloc | apply pw_below_drewN | apply below_drew1) | exact HB.out)) hb); clear HB; have HB := n0_; clear n0_; (try clear hb); (try clear hb2); (try clear hk); (try clear hi)))
   go_ret2
   exact ⟨by first | rfl | (simp [errW_none, errW_some] <;> rfl) | (simp [*, errW_none, errW_some] <;> rfl), by repeat (first | (with_reducible first | exact HB.out | apply below_alloc | apply pw_below_drewN | apply below_drew1) | exact HB.out)⟩
 · rw [if_neg c3] at H
   have c3b0 : (t181 == 0) = false := beq_eq_false_iff_ne.mpr c3
   have c3b1 : (t181 != 0) = true := bne_iff_ne.mpr c3
   replace H := Option.bind_eq_some_iff.mp H
   obtain ⟨t182, A50, H⟩ := H
   replace H : (if t182 = true then (some (t180, t181)) else (some (0, 0))) = some (r1, r2) := H
   have A5 := Aside0.mk A50
   clear A50
   by_cases c6 : t182 = true
   · subst c6
     have H1 : (some (t180, t181)) = some (r1, r2) := by rw [if_pos rfl] at H; exact H
     clear H
     have H := H1
     clear H1
     simp only [Option.some.injEq, Prod.mk.injEq] at H
     obtain ⟨rfl, rfl⟩ := H
     go_enter Tryz.func61, Tryz.ntmps61
     go_wp2_with (first | ((with_reducible refine gate_callee (f := 84) rfl ?_); refine goesL_ (some 8) rfl rfl Tryz.func84 (by kernel_rfl) rfl #[.string a0] rfl (by (try simp only [List.map_toArray, List.map_cons, List.map_nil]); first | done | rfl | (simp only [List.length_drop, List.length_take]; rfl)) ?_; (with_reducible refine (rf01_First.calls k a0 t180 t181 _ A2.out).mono ?_); rintro e w7 ⟨rfl, hb⟩; refine ⟨_, rfl, ?_⟩; have n0_ := Aside0.mk (below_step (by repeat (first | (with_reducible first | exact HB.out | apply below_alloc | apply pw_below_drewN | apply below_drew1) | exact HB.out)) hb); clear HB; have HB := n0_; clear n0_; (try clear hb); (try clear hb2); (try clear hk); (try clear hi)) | (go_at_call 85; (with_reducible refine (rf04_May.calls t180 true _ A5.out).mono ?_); rintro e w' ⟨rfl, ⟨nd, rfl⟩⟩))
     go_ret2
     exact ⟨by first | rfl | (simp [errW_none, errW_some] <;> rfl) | (simp [*, errW_none, errW_some] <;> rfl), by repeat (first | (with_reducible first | exact HB.out | apply below_alloc | apply pw_below_drewN | apply below_drew1) | exact HB.out)⟩
   · replace c6 := Bool.eq_false_iff.mpr c6
     subst c6
     have H1 : (some (0, 0)) = some (r1, r2) := by rw [if_neg (show ¬ (false = true) by decide)] at H; exact H
     clear H
     have H := H1
     clear H1
     simp only [Option.some.injEq, Prod.mk.injEq] at H
     obtain ⟨rfl, rfl⟩ := H
     go_enter Tryz.func61, Tryz.ntmps61
     go_wp2_with (first | ((with_reducible refine gate_callee (f := 84) rfl ?_); refine goesL_ (some 8) rfl rfl Tryz.func84 (by kernel_rfl) rfl #[.string a0] rfl (by (try simp only [List.map_toArray, List.map_cons, List.map_nil]); first | done | rfl | (simp only [List.length_drop, List.length_take]; rfl)) ?_; (with_reducible refine (rf01_First.calls k a0 t180 t181 _ A2.out).mono ?_); rintro e w8 ⟨rfl, hb⟩; refine ⟨_, rfl, ?_⟩; have n0_ := Aside0.mk (below_step (by repeat (first | (with_reducible first | exact HB.out | apply below_alloc | apply pw_below_drewN | apply below_drew1) | exact HB.out)) hb); clear HB; have HB := n0_; clear n0_; (try clear hb); (try clear hb2); (try clear hk); (try clear hi)) | (go_at_call 85; (with_reducible refine (rf04_May.calls t180 false _ A5.out).mono ?_); rintro e w' ⟨rfl, ⟨nd, rfl⟩⟩))
     go_ret2
     exact ⟨by first | rfl | (simp [errW_none, errW_some] <;> rfl) | (simp [*, errW_none, errW_some] <;> rfl), by repeat (first | (with_reducible first | exact HB.out | apply below_alloc | apply pw_below_drewN | apply below_drew1) | exact HB.out)⟩
def rf07_Piece.f (k : Nat) (a0 : ByteArray) : Option (Int) := if a0.toList = ([] : List UInt8) then (some 0) else (if 0 < (a0.size : Int) then ((rf02_Literal.f k (bt a0 0)).bind fun t183 => (if t183 = true then (some 1) else ((rf03_Triplet.f a0).bind fun t184 => (if t184 = true then (some 3) else ((rf04_Take.f k a0).bind fun bt185 => (some bt185.2)))))) else (none))
set_option maxHeartbeats 8000000 in
set_option maxRecDepth 100000 in
theorem rf07_Piece.calls (k : Nat) (a0 : ByteArray) (r : Int) (w : World) (h : rf07_Piece.f k a0 = some r) :
 Calls Tryz.prog 42 #[.string a0] w fun e w' => e = .returned (.int .i64 r) ∧ Below w.heap.size w w' := by
 have HB := Aside0.mk (Below.refl w.heap.size w)
 have H : (if a0.toList = ([] : List UInt8) then (some 0) else (if 0 < (a0.size : Int) then ((rf02_Literal.f k (bt a0 0)).bind fun t183 => (if t183 = true then (some 1) else ((rf03_Triplet.f a0).bind fun t184 => (if t184 = true then (some 3) else ((rf04_Take.f k a0).bind fun bt185 => (some bt185.2)))))) else (none))) = some r := h
 clear h
 by_cases c2 : a0.toList = ([] : List UInt8)
 · rw [if_pos c2] at H
   have c2b0 : (a0.toList == ([] : List UInt8)) = true := beq_iff_eq.mpr c2
   have c2b1 : (a0.toList != ([] : List UInt8)) = false := bne_eq_false_iff_eq.mpr c2
   clear c2
   obtain rfl := Option.some.inj H
   go_enter Tryz.func42, Tryz.ntmps42
   go_wp2
   go_ret
   exact ⟨by first | rfl | (simp [errW_none, errW_some] <;> rfl) | (simp [*, errW_none, errW_some] <;> rfl), by repeat (first | (with_reducible first | exact HB.out | apply below_alloc | apply pw_below_drewN | apply below_drew1) | exact HB.out)⟩
 · rw [if_neg c2] at H
   have c2b0 : (a0.toList == ([] : List UInt8)) = false := beq_eq_false_iff_ne.mpr c2
   have c2b1 : (a0.toList != ([] : List UInt8)) = true := bne_iff_ne.mpr c2
   by_cases c3 : 0 < (a0.size : Int)
   · rw [if_pos c3] at H
     have c3b0 : decide (0 < (a0.size : Int)) = true := decide_eq_true c3
     have c3b1 : decide (0 < a0.size) = true := decide_eq_true (by omega)
     clear c3
     replace H := Option.bind_eq_some_iff.mp H
     obtain ⟨t183, A50, H⟩ := H
     replace H : (if t183 = true then (some 1) else ((rf03_Triplet.f a0).bind fun t184 => (if t184 = true then (some 3) else ((rf04_Take.f k a0).bind fun bt185 => (some bt185.2))))) = some r := H
     have A5 := Aside0.mk A50
     clear A50
     by_cases c6 : t183 = true
     · subst c6
       have H1 : (some 1) = some r := by rw [if_pos rfl] at H; exact H
       clear H
       have H := H1
       clear H1
       obtain rfl := Option.some.inj H
       have p4 : 0 ≤ (0 : Int) := (by omega)
       have q4 : 0 < a0.size := (by have : (0 : Int) < (a0.size : Int) := of_decide_eq_true (by first | (with_reducible assumption) | assumption); omega)
       have hx4 : ∀ h : 0 < a0.size, ((a0[0]'h).toNat : Int) = bt a0 0 := bt_at a0 0
       clear p4
       have qi4 : (0 < (a0.size : Int)) = True := eq_true (of_decide_eq_true (by first | (with_reducible assumption) | assumption))
       replace q4 := eq_true q4
       go_enter Tryz.func42, Tryz.ntmps42
       go_wp2_with (first | ((with_reducible refine gate_callee (f := 59) rfl ?_); refine goesL_ (some 9) rfl rfl Tryz.func59 (by kernel_rfl) rfl #[.int .u8 (bt a0 0)] rfl (by (try simp only [List.map_toArray, List.map_cons, List.map_nil]); first | done | rfl | (simp only [List.length_drop, List.length_take]; rfl)) ?_; (with_reducible refine (rf02_Literal.calls k (bt a0 0) true _ A5.out).mono ?_); rintro e w' ⟨rfl, ⟨nd, rfl⟩⟩; refine ⟨_, rfl, ?_⟩))
       go_ret
       exact ⟨by first | rfl | (simp [errW_none, errW_some] <;> rfl) | (simp [*, errW_none, errW_some] <;> rfl), by repeat (first | (with_reducible first | exact HB.out | apply below_alloc | apply pw_below_drewN | apply below_drew1) | exact HB.out)⟩
     · replace c6 := Bool.eq_false_iff.mpr c6
       subst c6
       have H1 : ((rf03_Triplet.f a0).bind fun t184 => (if t184 = true then (some 3) else ((rf04_Take.f k a0).bind fun bt185 => (some bt185.2)))) = some r := by rw [if_neg (show ¬ (false = true) by decide)] at H; exact H
       clear H
       have H := H1
       clear H1
       replace H := Option.bind_eq_some_iff.mp H
       obtain ⟨t184, A70, H⟩ := H
       replace H : (if t184 = true then (some 3) else ((rf04_Take.f k a0).bind fun bt185 => (some bt185.2))) = some r := H
       have A7 := Aside0.mk A70
       clear A70
       by_cases c8 : t184 = true
       · subst c8
         have H1 : (some 3) = some r := by rw [if_pos rfl] at H; exact H
         clear H
         have H := H1
         clear H1
         obtain rfl := Option.some.inj H
         have p4 : 0 ≤ (0 : Int) := (by omega)
         have q4 : 0 < a0.size := (by have : (0 : Int) < (a0.size : Int) := of_decide_eq_true (by first | (with_reducible assumption) | assumption); omega)
         have hx4 : ∀ h : 0 < a0.size, ((a0[0]'h).toNat : Int) = bt a0 0 := bt_at a0 0
         clear p4
         have qi4 : (0 < (a0.size : Int)) = True := eq_true (of_decide_eq_true (by first | (with_reducible assumption) | assumption))
         replace q4 := eq_true q4
         go_enter Tryz.func42, Tryz.ntmps42
         go_wp2_with (first | ((with_reducible refine gate_callee (f := 59) rfl ?_); refine goesL_ (some 9) rfl rfl Tryz.func59 (by kernel_rfl) rfl #[.int .u8 (bt a0 0)] rfl (by (try simp only [List.map_toArray, List.map_cons, List.map_nil]); first | done | rfl | (simp only [List.length_drop, List.length_take]; rfl)) ?_; (with_reducible refine (rf02_Literal.calls k (bt a0 0) false _ A5.out).mono ?_); rintro e w' ⟨rfl, ⟨nd, rfl⟩⟩; refine ⟨_, rfl, ?_⟩) | ((with_reducible refine gate_callee (f := 60) rfl ?_); refine goesL_ (some 11) rfl rfl Tryz.func60 (by kernel_rfl) rfl #[.string a0] rfl (by (try simp only [List.map_toArray, List.map_cons, List.map_nil]); first | done | rfl | (simp only [List.length_drop, List.length_take]; rfl)) ?_; (with_reducible refine (rf03_Triplet.calls a0 true _ A7.out).mono ?_); rintro e w' ⟨rfl, ⟨nd, rfl⟩⟩; refine ⟨_, rfl, ?_⟩))
         go_ret
         exact ⟨by first | rfl | (simp [errW_none, errW_some] <;> rfl) | (simp [*, errW_none, errW_some] <;> rfl), by repeat (first | (with_reducible first | exact HB.out | apply below_alloc | apply pw_below_drewN | apply below_drew1) | exact HB.out)⟩
       · replace c8 := Bool.eq_false_iff.mpr c8
         subst c8
         have H1 : ((rf04_Take.f k a0).bind fun bt185 => (some bt185.2)) = some r := by rw [if_neg (show ¬ (false = true) by decide)] at H; exact H
         clear H
         have H := H1
         clear H1
         replace H := Option.bind_eq_some_iff.mp H
         obtain ⟨⟨t185, t186⟩, A90, H⟩ := H
         replace H : (some t186) = some r := H
         have A9 := Aside0.mk A90
         clear A90
         obtain rfl := Option.some.inj H
         have p4 : 0 ≤ (0 : Int) := (by omega)
         have q4 : 0 < a0.size := (by have : (0 : Int) < (a0.size : Int) := of_decide_eq_true (by first | (with_reducible assumption) | assumption); omega)
         have hx4 : ∀ h : 0 < a0.size, ((a0[0]'h).toNat : Int) = bt a0 0 := bt_at a0 0
         clear p4
         have qi4 : (0 < (a0.size : Int)) = True := eq_true (of_decide_eq_true (by first | (with_reducible assumption) | assumption))
         replace q4 := eq_true q4
         go_enter Tryz.func42, Tryz.ntmps42
         go_wp2_with (first | ((with_reducible refine gate_callee (f := 59) rfl ?_); refine goesL_ (some 9) rfl rfl Tryz.func59 (by kernel_rfl) rfl #[.int .u8 (bt a0 0)] rfl (by (try simp only [List.map_toArray, List.map_cons, List.map_nil]); first | done | rfl | (simp only [List.length_drop, List.length_take]; rfl)) ?_; (with_reducible refine (rf02_Literal.calls k (bt a0 0) false _ A5.out).mono ?_); rintro e w' ⟨rfl, ⟨nd, rfl⟩⟩; refine ⟨_, rfl, ?_⟩) | ((with_reducible refine gate_callee (f := 60) rfl ?_); refine goesL_ (some 11) rfl rfl Tryz.func60 (by kernel_rfl) rfl #[.string a0] rfl (by (try simp only [List.map_toArray, List.map_cons, List.map_nil]); first | done | rfl | (simp only [List.length_drop, List.length_take]; rfl)) ?_; (with_reducible refine (rf03_Triplet.calls a0 false _ A7.out).mono ?_); rintro e w' ⟨rfl, ⟨nd, rfl⟩⟩; refine ⟨_, rfl, ?_⟩) | ((with_reducible refine gate_callee (f := 61) rfl ?_); refine goesL_ (some 14) rfl rfl Tryz.func61 (by kernel_rfl) rfl #[.string a0] rfl (by (try simp only [List.map_toArray, List.map_cons, List.map_nil]); first | done | rfl | (simp only [List.length_drop, List.length_take]; rfl)) ?_; (with_reducible refine (rf04_Take.calls k a0 t185 t186 _ A9.out).mono ?_); rintro e w10 ⟨rfl, hb⟩; refine ⟨_, rfl, ?_⟩; have n0_ := Aside0.mk (below_step (by repeat (first | (with_reducible first | exact HB.out | apply below_alloc | apply pw_below_drewN | apply below_drew1) | exact HB.out)) hb); clear HB; have HB := n0_; clear n0_; (try clear hb); (try clear hb2); (try clear hk); (try clear hi)))
         go_ret
         exact ⟨by first | rfl | (simp [errW_none, errW_some] <;> rfl) | (simp [*, errW_none, errW_some] <;> rfl), by repeat (first | (with_reducible first | exact HB.out | apply below_alloc | apply pw_below_drewN | apply below_drew1) | exact HB.out)⟩
   · rw [if_neg c3] at H
     exact absurd H (by simp)
end Go.Proofs.YtkipkbggnfllkaaGreatDoor.P
end
section
namespace Go.Proofs.YtkipkbggnfllkaaGreatDoor.P
open Go.RowKit Go.Proofs.YtkipkbggnfllkaaGreatDoorW.PrintWords Go.Proofs.YtkipkbggnfllkaaGreatDoorW.PrintLast Go.Proofs.YtkipkbggnfllkaaGreatDoorW.PrintMore
set_option linter.unusedVariables false
set_option linter.unusedSimpArgs false
theorem decide_is {p : Prop} [Decidable p] {b : Bool} (h : b = true ↔ p) : b = decide p := by
 cases b with
 | true => exact (decide_eq_true (h.1 rfl)).symm
 | false => exact (decide_eq_false fun g => by cases h.2 g).symm
theorem ref_may4 (c : Nat) : rf04_May.f (c : Int) = some (decide (MayC c)) := by
 unfold rf04_May.f
 have e : Int.tmod (c : Int) 65536 = ((c % 65536 : Nat) : Int) := rfl
 simp only [e]
 repeat' split
 all_goals
  refine congrArg some (decide_is ?_)
  unfold MayC
  simp only [decide_eq_true_eq, true_iff, Bool.false_eq_true, false_iff]
  omega
theorem ref_mayU (c : Nat) : rf01_May.f (c : Int) = some (decide (c ≤ 1114111 ∧ (c < 55296 ∨ 57343 < c))) := by
 unfold rf01_May.f
 repeat' split
 all_goals
  refine congrArg some (decide_is ?_)
  simp only [decide_eq_true_eq, true_iff, Bool.false_eq_true, false_iff]
  omega
theorem ref_tail : ∀ (n j c : Nat), n + j ≤ 5 → c ≤ 1114111 → Ev (fun k => rf01_tail.l0 k (c : Int) ((n + j : Nat) : Int) (j : Int)) ((128 + c / 64 ^ n % 64 : Nat) : Int)
 | 0, j, c, hn, hc => by
  refine Ev.step (f := fun _ => some _) (fun k => by simp only [rf01_tail.l0]; rw [if_neg (by omega)]) ?_
  have e : (wrap64 (128 + Int.tmod (c : Int) 64)) % 256 = ((128 + c / 64 ^ 0 % 64 : Nat) : Int) := by
   rw [show Int.tmod (c : Int) 64 = ((c % 64 : Nat) : Int) from rfl, w64 (by omega) (by omega)]
   simp
   omega
  rw [e]
  exact Ev.now _
 | n + 1, j, c, hn, hc => by
  have ih := ref_tail n (j + 1) (c / 64) (by omega) (by omega)
  have e : c / 64 / 64 ^ n = c / 64 ^ (n + 1) := by rw [Nat.div_div_eq_div_mul, Nat.pow_succ, Nat.mul_comm]
  rw [e] at ih
  refine Ev.step (f := fun k => rf01_tail.l0 k ((c / 64 : Nat) : Int) ((n + (j + 1) : Nat) : Int) ((j + 1 : Nat) : Int)) (fun k => ?_) ih
  simp only [rf01_tail.l0]
  rw [if_pos (by omega), show Int.tdiv (c : Int) 64 = ((c / 64 : Nat) : Int) from rfl, w64 (by omega) (by omega), w64 (by omega) (by omega)]
  have e1 : ((n + 1 + j : Nat) : Int) = ((n + (j + 1) : Nat) : Int) := by omega
  have e2 : (j : Int) + 1 = ((j + 1 : Nat) : Int) := by omega
  rw [e1, e2]
theorem ref_tail_at (n c : Nat) (hn : n ≤ 5) (hc : c ≤ 1114111) : Ev (fun k => rf01_tail.f k (c : Int) (n : Int)) ((128 + c / 64 ^ n % 64 : Nat) : Int) := ref_tail n 0 c hn hc
def oneN (c : Nat) : List Nat :=
 if c < 128 then [c] else if c < 2048 then [192 + c / 64, 128 + c % 64] else if c < 65536 then [224 + c / 4096, 128 + c / 64 % 64, 128 + c % 64]
 else [240 + c / 262144, 128 + c / 4096 % 64, 128 + c / 64 % 64, 128 + c % 64]
theorem bs_str2 (a b : Nat) (ha : a < 256) (hb : b < 256) : bs (strOfNums [(a : Int), (b : Int)]) = [a, b] := by
 rw [bs_strOfNums]
 · simp
 · intro x hx
   simp at hx
   omega
theorem bs_str3 (a b c : Nat) (ha : a < 256) (hb : b < 256) (hc : c < 256) : bs (strOfNums [(a : Int), (b : Int), (c : Int)]) = [a, b, c] := by
 rw [bs_strOfNums]
 · simp
 · intro x hx
   simp at hx
   omega
theorem bs_str4 (a b c d : Nat) (ha : a < 256) (hb : b < 256) (hc : c < 256) (hd : d < 256) : bs (strOfNums [(a : Int), (b : Int), (c : Int), (d : Int)]) = [a, b, c, d] := by
 rw [bs_strOfNums]
 · simp
 · intro x hx
   simp at hx
   omega
theorem ref_one (c : Nat) (hc : c ≤ 1114111) : ∃ t, Ev (fun k => rf01_One.f k (c : Int)) t ∧ bs t = oneN c := by
 have t0 : Ev (fun k => rf01_tail.f k (c : Int) 0) ((128 + c % 64 : Nat) : Int) := by
  have := ref_tail_at 0 c (by omega) hc
  simpa using this
 have t1 : Ev (fun k => rf01_tail.f k (c : Int) 1) ((128 + c / 64 % 64 : Nat) : Int) := ref_tail_at 1 c (by omega) hc
 have t2 : Ev (fun k => rf01_tail.f k (c : Int) 2) ((128 + c / 4096 % 64 : Nat) : Int) := ref_tail_at 2 c (by omega) hc
 unfold oneN
 by_cases h1 : c < 128
 · rw [if_pos h1]
   refine ⟨_, Ev.congr (f := fun _ => some (strOfNums [(c : Int) % 256])) (fun k => by simp only [rf01_One.f]; rw [if_pos (by omega)]) (Ev.now _), ?_⟩
   rw [show (c : Int) % 256 = (c : Int) by omega, bs_strOfNums]
   · simp
   · intro x hx
     simp at hx
     omega
 by_cases h2 : c < 2048
 · rw [if_neg h1, if_pos h2]
   refine ⟨_, Ev.congr (fun k => by simp only [rf01_One.f]; rw [if_neg (by omega), if_pos (by omega)]) (t0.bind (Ev.now _)), ?_⟩
   rw [show (wrap64 (192 + (wrap64 (Int.tdiv (c : Int) 64)))) % 256 = ((192 + c / 64 : Nat) : Int) by
    rw [show Int.tdiv (c : Int) 64 = ((c / 64 : Nat) : Int) from rfl, w64 (n := ((c / 64 : Nat) : Int)) (by omega) (by omega), w64 (by omega) (by omega)]; omega]
   exact bs_str2 _ _ (by omega) (by omega)
 by_cases h3 : c < 65536
 · rw [if_neg h1, if_neg h2, if_pos h3]
   refine ⟨strOfNums [(wrap64 (224 + (wrap64 (Int.tdiv (c : Int) 4096)))) % 256, ((128 + c / 64 % 64 : Nat) : Int), ((128 + c % 64 : Nat) : Int)], ?_, ?_⟩
   · refine Ev.congr (fun k => by simp only [rf01_One.f]; rw [if_neg (by omega), if_neg (by omega), if_pos (by omega)]) ?_
     refine t1.bind ?_
     refine t0.bind ?_
     exact Ev.now _
   rw [show (wrap64 (224 + (wrap64 (Int.tdiv (c : Int) 4096)))) % 256 = ((224 + c / 4096 : Nat) : Int) by
    rw [show Int.tdiv (c : Int) 4096 = ((c / 4096 : Nat) : Int) from rfl, w64 (n := ((c / 4096 : Nat) : Int)) (by omega) (by omega), w64 (by omega) (by omega)]; omega]
   exact bs_str3 _ _ _ (by omega) (by omega) (by omega)
 · rw [if_neg h1, if_neg h2, if_neg h3]
   refine ⟨strOfNums [(wrap64 (240 + (wrap64 (Int.tdiv (c : Int) 262144)))) % 256, ((128 + c / 4096 % 64 : Nat) : Int), ((128 + c / 64 % 64 : Nat) : Int), ((128 + c % 64 : Nat) : Int)], ?_, ?_⟩
   · refine Ev.congr (fun k => by simp only [rf01_One.f]; rw [if_neg (by omega), if_neg (by omega), if_neg (by omega)]) ?_
     refine t2.bind ?_
     refine t1.bind ?_
     refine t0.bind ?_
     exact Ev.now _
   rw [show (wrap64 (240 + (wrap64 (Int.tdiv (c : Int) 262144)))) % 256 = ((240 + c / 262144 : Nat) : Int) by
    rw [show Int.tdiv (c : Int) 262144 = ((c / 262144 : Nat) : Int) from rfl, w64 (n := ((c / 262144 : Nat) : Int)) (by omega) (by omega), w64 (by omega) (by omega)]; omega]
   exact bs_str4 _ _ _ _ (by omega) (by omega) (by omega) (by omega)
def nextC (i c b : Nat) : Nat := if i = 1 then (if b ≥ 240 then b - 240 else if b ≥ 224 then b - 224 else if b ≥ 192 then b - 192 else b) else 64 * c + b % 64
def firstL (l : List Nat) : Nat → Nat → Nat → Nat × Nat
 | 0, _, _ => (0, 0)
 | d + 1, i, c => match l[i - 1]? with
  | none => (0, 0)
  | some b => if (nextC i c b ≤ 1114111 ∧ (nextC i c b < 55296 ∨ 57343 < nextC i c b)) ∧ oneN (nextC i c b) = l.take i then (nextC i c b, i) else firstL l d (i + 1) (nextC i c b)
theorem ref_first_at (s : ByteArray) (c i : Nat) (hi : 1 ≤ i) (hi4 : i ≤ 4) (hs : i ≤ s.size) (R : Nat × Nat)
 (h : ¬ ((c ≤ 1114111 ∧ (c < 55296 ∨ 57343 < c)) ∧ oneN c = (bs s).take i) → Ev (fun k => rf01_First.l0 k s (c : Int) ((i + 1 : Nat) : Int)) ((R.1 : Int), (R.2 : Int))) :
 Ev (fun k => rf01_First.j3 k s (c : Int) (i : Int)) (if (c ≤ 1114111 ∧ (c < 55296 ∨ 57343 < c)) ∧ oneN c = (bs s).take i then ((c : Int), (i : Int)) else ((R.1 : Int), (R.2 : Int))) := by
 have ew : wrap64 ((i : Int) + 1) = ((i + 1 : Nat) : Int) := by rw [w64 (by omega) (by omega)]; omega
 refine Ev.step (f := _) (fun k => by simp only [rf01_First.j3]; rw [ref_mayU, ew]) ?_
 simp only [Option.bind_some]
 by_cases h1 : c ≤ 1114111 ∧ (c < 55296 ∨ 57343 < c)
 · rw [decide_eq_true h1]
   refine Ev.pos rfl ?_
   obtain ⟨t, ht, hb⟩ := ref_one c h1.1
   refine ht.bind (Ev.pos (by omega) (Ev.pos (by omega) ?_))
   have hu : bs (s.extract 0 (i : Int).toNat) = (bs s).take i := by rw [Int.toNat_natCast, bs_upto]
   by_cases h2 : oneN c = (bs s).take i
   · rw [if_pos ⟨h1, h2⟩]
     exact Ev.pos (by rw [toList_bs, hb, hu, h2]) (Ev.now _)
   · have h3 := h fun g => h2 g.2
     rw [if_neg fun g => h2 g.2]
     exact Ev.neg (by rw [toList_bs, hb, hu]; exact h2) h3
 · have h3 := h fun g => h1 g.1
   rw [decide_eq_false h1, if_neg fun g => h1 g.1]
   exact Ev.neg (by simp) h3
theorem ref_first_j2 (s : ByteArray) (b c : Nat) (hb : b < 256) (R : Int × Int) (h : Ev (fun k => rf01_First.j3 k s ((nextC 1 c b : Nat) : Int) ((1 : Nat) : Int)) R) :
 Ev (fun k => if (b : Int) ≥ 192 then (rf01_First.j2 k s (wrap64 ((b : Int) - 192)) ((1 : Nat) : Int) (b : Int)) else (rf01_First.j2 k s (b : Int) ((1 : Nat) : Int) (b : Int))) R := by
 have en : nextC 1 c b = if b ≥ 240 then b - 240 else if b ≥ 224 then b - 224 else if b ≥ 192 then b - 192 else b := by unfold nextC; rw [if_pos rfl]
 by_cases a2 : b ≥ 240
 · rw [if_pos a2] at en
   refine Ev.pos (by omega) (Ev.step (f := fun k => rf01_First.j3 k s ((nextC 1 c b : Nat) : Int) ((1 : Nat) : Int)) (fun k => ?_) h)
   simp only [rf01_First.j2]
   rw [if_pos (by omega), if_pos (by omega), w64 (n := (b : Int) - 240) (by omega) (by omega), en, show (b : Int) - 240 = ((b - 240 : Nat) : Int) by omega]
 rw [if_neg a2] at en
 by_cases a3 : b ≥ 224
 · rw [if_pos a3] at en
   refine Ev.pos (by omega) (Ev.step (f := fun k => rf01_First.j3 k s ((nextC 1 c b : Nat) : Int) ((1 : Nat) : Int)) (fun k => ?_) h)
   simp only [rf01_First.j2]
   rw [if_pos (by omega), if_neg (by omega), w64 (n := (b : Int) - 224) (by omega) (by omega), en, show (b : Int) - 224 = ((b - 224 : Nat) : Int) by omega]
 rw [if_neg a3] at en
 by_cases a1 : b ≥ 192
 · rw [if_pos a1] at en
   refine Ev.pos (by omega) (Ev.step (f := fun k => rf01_First.j3 k s ((nextC 1 c b : Nat) : Int) ((1 : Nat) : Int)) (fun k => ?_) h)
   simp only [rf01_First.j2]
   rw [if_neg (by omega), if_neg (by omega), w64 (n := (b : Int) - 192) (by omega) (by omega), en, show (b : Int) - 192 = ((b - 192 : Nat) : Int) by omega]
 rw [if_neg a1] at en
 refine Ev.neg (by omega) (Ev.step (f := fun k => rf01_First.j3 k s ((nextC 1 c b : Nat) : Int) ((1 : Nat) : Int)) (fun k => ?_) h)
 simp only [rf01_First.j2]
 rw [if_neg (by omega), if_neg (by omega), en]
theorem next_wrap {i b c : Nat} (hb : b < 256) (hc : c ≤ 6000000000) (g : ¬ i = 1) : wrap64 ((wrap64 (64 * (c : Int))) + (Int.tmod (b : Int) 64)) = ((nextC i c b : Nat) : Int) := by
 unfold nextC
 rw [if_neg g, show Int.tmod (b : Int) 64 = ((b % 64 : Nat) : Int) from rfl, w64 (n := 64 * (c : Int)) (by omega) (by omega), w64 (by omega) (by omega)]
 omega
theorem ref_first_from (s : ByteArray) (hs : s.size ≤ 1099511627776) : ∀ (d i c : Nat), i + d = 5 → 1 ≤ i → c + 1 ≤ 64 ^ i * 300 → Ev (fun k => rf01_First.l0 k s (c : Int) (i : Int)) (((firstL (bs s) d i c).1 : Int), ((firstL (bs s) d i c).2 : Int))
 | 0, i, c, hi, h1, hc => by
  obtain rfl : i = 5 := by omega
  refine Ev.step (f := fun k => rf01_First.j1 k s (c : Int) ((5 : Nat) : Int) false) (fun k => by simp only [rf01_First.l0]; rw [if_neg (by omega)]) ?_
  exact Ev.step (f := fun _ => some (0, 0)) (fun k => by simp only [rf01_First.j1]; rw [if_neg (by simp)]) (Ev.now _)
 | d + 1, i, c, hi, h1, hc => by
  by_cases h : i ≤ s.size
  · obtain ⟨b, hb, hbt, hd⟩ := bs_get s (i - 1) (by omega)
    have hget : (bs s)[i - 1]? = some b := by
     rw [← List.head?_drop, hd]
     rfl
    have hp : 64 ^ (i + 1) = 64 * 64 ^ i := by rw [Nat.pow_succ, Nat.mul_comm]
    have hp2 : 64 ^ i ≤ 16777216 := Nat.le_trans (Nat.pow_le_pow_right (by decide) (show i ≤ 4 by omega)) (by decide)
    have hp4 : 1 ≤ 64 ^ i := Nat.pos_of_ne_zero (by simp)
    have hn1 : nextC i c b + 1 ≤ 64 ^ (i + 1) * 300 := by
     unfold nextC
     rw [hp]
     generalize 64 ^ i = p at *
     repeat' split
     all_goals omega
    have hcb : c ≤ 6000000000 := by
     have h300 := Nat.mul_le_mul_right 300 hp2
     exact Nat.le_trans (Nat.le_of_succ_le hc) (Nat.le_trans h300 (by decide))
    clear hp hp2 hp4 hc
    have ih := ref_first_from s hs d (i + 1) (nextC i c b) (by omega) (by omega) hn1
    clear hn1
    have ew : wrap64 ((i : Int) - 1) = ((i - 1 : Nat) : Int) := by rw [w64 (by omega) (by omega)]; omega
    have ewb : wrap64 (b : Int) = (b : Int) := w64 (by omega) (by omega)
    have hres : firstL (bs s) (d + 1) i c = if (nextC i c b ≤ 1114111 ∧ (nextC i c b < 55296 ∨ 57343 < nextC i c b)) ∧ oneN (nextC i c b) = (bs s).take i then (nextC i c b, i) else firstL (bs s) d (i + 1) (nextC i c b) := by
     simp only [firstL]
     rw [hget]
    rw [hres]
    have hj := ref_first_at s (nextC i c b) i h1 (by omega) h (firstL (bs s) d (i + 1) (nextC i c b)) fun _ => ih
    refine Ev.step (f := fun k => rf01_First.j1 k s (c : Int) (i : Int) true) (fun k => ?_) (Ev.step (f := fun k => if (i : Int) = 1 then (if (b : Int) ≥ 192 then (rf01_First.j2 k s (wrap64 ((b : Int) - 192)) (i : Int) (b : Int)) else (rf01_First.j2 k s (b : Int) (i : Int) (b : Int))) else (rf01_First.j3 k s (wrap64 ((wrap64 (64 * (c : Int))) + (Int.tmod (b : Int) 64))) (i : Int))) (fun k => ?_) ?_)
    · simp only [rf01_First.l0]
      rw [if_pos (by omega), decide_eq_true (by omega)]
    · simp only [rf01_First.j1]
      rw [if_pos trivial, ew, if_pos (by omega), if_pos (by omega), hbt, ewb]
    · have e : (if (nextC i c b ≤ 1114111 ∧ (nextC i c b < 55296 ∨ 57343 < nextC i c b)) ∧ oneN (nextC i c b) = (bs s).take i then (((nextC i c b : Nat) : Int), (i : Int)) else (((firstL (bs s) d (i + 1) (nextC i c b)).1 : Int), ((firstL (bs s) d (i + 1) (nextC i c b)).2 : Int))) =
       (((if (nextC i c b ≤ 1114111 ∧ (nextC i c b < 55296 ∨ 57343 < nextC i c b)) ∧ oneN (nextC i c b) = (bs s).take i then (nextC i c b, i) else firstL (bs s) d (i + 1) (nextC i c b)).1 : Int), ((if (nextC i c b ≤ 1114111 ∧ (nextC i c b < 55296 ∨ 57343 < nextC i c b)) ∧ oneN (nextC i c b) = (bs s).take i then (nextC i c b, i) else firstL (bs s) d (i + 1) (nextC i c b)).2 : Int)) := by split <;> rfl
      rw [e] at hj
      by_cases g : i = 1
      · refine Ev.pos (by omega) ?_
        rw [g] at hj ⊢
        exact ref_first_j2 s b c hb _ hj
      · refine Ev.neg (by omega) ?_
        have e2 := next_wrap (i := i) hb hcb g
        rw [e2]
        exact hj
  · refine Ev.step (f := fun k => rf01_First.j1 k s (c : Int) (i : Int) false) (fun k => ?_) ?_
    · simp only [rf01_First.l0]
      rw [if_pos (by omega), decide_eq_false (by omega)]
    · have hget : (bs s)[i - 1]? = none := List.getElem?_eq_none (by rw [bs_length]; omega)
      have hres : firstL (bs s) (d + 1) i c = (0, 0) := by
       simp only [firstL]
       rw [hget]
      rw [hres]
      exact Ev.step (f := fun _ => some (0, 0)) (fun k => by simp only [rf01_First.j1]; rw [if_neg (by simp)]) (Ev.now _)
def adj (b : Nat) : Nat := if b ≥ 240 then b - 240 else if b ≥ 224 then b - 224 else if b ≥ 192 then b - 192 else b
def MayU (c : Nat) : Prop := c ≤ 1114111 ∧ (c < 55296 ∨ 57343 < c)
theorem oneN1 (c a : Nat) : oneN c = [a] ↔ c < 128 ∧ a = c := by
 unfold oneN
 repeat' split
 all_goals (simp only [List.cons.injEq, and_true, reduceCtorEq, and_false, false_iff]; omega)
theorem oneN2 (c a b : Nat) : oneN c = [a, b] ↔ 128 ≤ c ∧ c < 2048 ∧ a = 192 + c / 64 ∧ b = 128 + c % 64 := by
 unfold oneN
 repeat' split
 all_goals (simp only [List.cons.injEq, and_true, reduceCtorEq, and_false, false_iff]; omega)
theorem oneN3 (c a b d : Nat) : oneN c = [a, b, d] ↔ 2048 ≤ c ∧ c < 65536 ∧ a = 224 + c / 4096 ∧ b = 128 + c / 64 % 64 ∧ d = 128 + c % 64 := by
 unfold oneN
 repeat' split
 all_goals (simp only [List.cons.injEq, and_true, reduceCtorEq, and_false, false_iff]; omega)
theorem oneN4 (c a b d e : Nat) : oneN c = [a, b, d, e] ↔ 65536 ≤ c ∧ a = 240 + c / 262144 ∧ b = 128 + c / 4096 % 64 ∧ d = 128 + c / 64 % 64 ∧ e = 128 + c % 64 := by
 unfold oneN
 repeat' split
 all_goals (simp only [List.cons.injEq, and_true, reduceCtorEq, and_false, false_iff]; omega)
theorem adj_cases (b : Nat) : (240 ≤ b ∧ adj b = b - 240) ∨ (224 ≤ b ∧ b < 240 ∧ adj b = b - 224) ∨ (192 ≤ b ∧ b < 224 ∧ adj b = b - 192) ∨ (b < 192 ∧ adj b = b) := by
 unfold adj
 repeat' split
 all_goals omega
theorem one1 (b0 : Nat) (h0 : b0 < 256) : (MayU (adj b0) ∧ oneN (adj b0) = [b0]) ↔ b0 < 128 := by
 have ha := adj_cases b0
 unfold MayU
 rw [oneN1]
 omega
theorem one2 (b0 b1 : Nat) (h0 : b0 < 256) (h1 : b1 < 256) (hb : 128 ≤ b0) : (MayU (64 * adj b0 + b1 % 64) ∧ oneN (64 * adj b0 + b1 % 64) = [b0, b1]) ↔ (b0 / 32 = 6 ∧ b1 / 64 = 2 ∧ 128 ≤ b0 % 32 * 64 + b1 % 64) := by
 have ha := adj_cases b0
 unfold MayU
 rw [oneN2]
 rcases ha with ha | ha | ha | ha <;> omega
theorem one3 (b0 b1 b2 : Nat) (h0 : b0 < 256) (h1 : b1 < 256) (h2 : b2 < 256) (hb : 128 ≤ b0) : (MayU (64 * (64 * adj b0 + b1 % 64) + b2 % 64) ∧ oneN (64 * (64 * adj b0 + b1 % 64) + b2 % 64) = [b0, b1, b2]) ↔
 (b0 / 16 = 14 ∧ b1 / 64 = 2 ∧ b2 / 64 = 2 ∧ 2048 ≤ b0 % 16 * 4096 + b1 % 64 * 64 + b2 % 64 ∧ MayU (b0 % 16 * 4096 + b1 % 64 * 64 + b2 % 64)) := by
 have ha := adj_cases b0
 unfold MayU
 rw [oneN3]
 rcases ha with ha | ha | ha | ha
 · constructor
   · omega
   · omega
 · have e : 64 * (64 * adj b0 + b1 % 64) + b2 % 64 = b0 % 16 * 4096 + b1 % 64 * 64 + b2 % 64 := by omega
   rw [e]
   constructor
   · intro h
     refine ⟨by omega, by omega, by omega, h.2.1, h.1⟩
   · intro h
     refine ⟨h.2.2.2.2, h.2.2.2.1, by omega, by omega, by omega, by omega⟩
 · constructor
   · omega
   · omega
 · constructor
   · omega
   · omega
theorem one4 (b0 b1 b2 b3 : Nat) (h0 : b0 < 256) (h1 : b1 < 256) (h2 : b2 < 256) (h3 : b3 < 256) (hb : 128 ≤ b0) : (MayU (64 * (64 * (64 * adj b0 + b1 % 64) + b2 % 64) + b3 % 64) ∧ oneN (64 * (64 * (64 * adj b0 + b1 % 64) + b2 % 64) + b3 % 64) = [b0, b1, b2, b3]) ↔
 (b0 / 8 = 30 ∧ b1 / 64 = 2 ∧ b2 / 64 = 2 ∧ b3 / 64 = 2 ∧ 65536 ≤ b0 % 8 * 262144 + b1 % 64 * 4096 + b2 % 64 * 64 + b3 % 64 ∧ MayU (b0 % 8 * 262144 + b1 % 64 * 4096 + b2 % 64 * 64 + b3 % 64)) := by
 have ha := adj_cases b0
 unfold MayU
 rw [oneN4]
 rcases ha with ha | ha | ha | ha
 · by_cases h8 : b0 / 8 = 30
   · have e : 64 * (64 * (64 * adj b0 + b1 % 64) + b2 % 64) + b3 % 64 = b0 % 8 * 262144 + b1 % 64 * 4096 + b2 % 64 * 64 + b3 % 64 := by omega
     rw [e]
     constructor
     · intro h
       refine ⟨by omega, by omega, by omega, by omega, h.2.1, h.1⟩
     · intro h
       refine ⟨h.2.2.2.2.2, h.2.2.2.2.1, by omega, by omega, by omega, by omega⟩
   · constructor
     · intro h
       have a := h.1.1
       clear h
       omega
     · intro h
       exact absurd h.1 h8
 all_goals
  constructor
  · intro h
    have a := h.2.2.1
    clear h
    generalize (64 * (64 * (64 * adj b0 + b1 % 64) + b2 % 64) + b3 % 64) / 262144 = X at a
    omega
  · intro h
    have a := h.1
    clear h
    omega
theorem mayC_mayU {c : Nat} (h : MayC c) : MayU c := by
 unfold MayC at h
 unfold MayU
 omega
def ucsOf (p : Nat × Nat) : Nat := if p.2 = 0 then 0 else if MayC p.1 then p.2 else 0
theorem ucsOf_pos {c n : Nat} (hn : n ≠ 0) : ucsOf (c, n) = if MayC c then n else 0 := by simp only [ucsOf]; rw [if_neg hn]
theorem firstL_none {l : List Nat} {d i c : Nat} (h : l[i - 1]? = none) : firstL l d i c = (0, 0) := by
 cases d with
 | zero => rfl
 | succ d =>
  simp only [firstL]
  rw [h]
instance (c : Nat) : Decidable (MayU c) := by unfold MayU; exact inferInstance
theorem firstL_some {l : List Nat} {d i c b : Nat} (h : l[i - 1]? = some b) : firstL l (d + 1) i c = if MayU (nextC i c b) ∧ oneN (nextC i c b) = l.take i then (nextC i c b, i) else firstL l d (i + 1) (nextC i c b) := by
 simp only [firstL]
 rw [h]
 rfl
theorem firstL_ucs (l : List Nat) (hl : ∀ b ∈ l, b < 256) : ucsOf (firstL l 4 1 0) = ucsAt l := by
 match l, hl with
 | [], _ => rfl
 | b0 :: r, hl =>
  have h0 := hl b0 (by simp)
  have n1 : nextC 1 0 b0 = adj b0 := rfl
  rw [firstL_some (i := 1) (b := b0) rfl, n1, List.take_succ_cons, List.take_zero]
  by_cases c1 : b0 < 128
  · rw [if_pos ((one1 b0 h0).2 c1), ucsOf_pos (by omega), ucsAt_low _ _ (by omega), if_neg]
    unfold MayC adj
    rw [if_neg (by omega), if_neg (by omega), if_neg (by omega)]
    omega
  rw [if_neg fun g => c1 ((one1 b0 h0).1 g)]
  match r, hl with
  | [], _ =>
   rw [firstL_none rfl]
   rfl
  | b1 :: r, hl =>
   have h1 := hl b1 (by simp)
   have n2 : nextC 2 (adj b0) b1 = 64 * adj b0 + b1 % 64 := rfl
   rw [firstL_some (i := 2) (b := b1) rfl, n2, List.take_succ_cons, List.take_succ_cons, List.take_zero]
   by_cases c2 : b0 / 32 = 6 ∧ b1 / 64 = 2 ∧ 128 ≤ b0 % 32 * 64 + b1 % 64
   · rw [if_pos ((one2 b0 b1 h0 h1 (by omega)).2 c2), ucsOf_pos (by omega)]
     have e : 64 * adj b0 + b1 % 64 = b0 % 32 * 64 + b1 % 64 := by
      unfold adj
      rw [if_neg (by omega), if_neg (by omega), if_pos (by omega)]
      omega
     rw [e]
     simp only [ucsAt]
     rw [if_pos c2.1]
     by_cases hm : MayC (b0 % 32 * 64 + b1 % 64)
     · rw [if_pos hm, if_pos ⟨c2.2.1, c2.2.2, hm⟩]
     · rw [if_neg hm, if_neg fun g => hm g.2.2]
   rw [if_neg fun g => c2 ((one2 b0 b1 h0 h1 (by omega)).1 g)]
   match r, hl with
   | [], _ =>
    rw [firstL_none rfl]
    simp only [ucsAt]
    by_cases h6 : b0 / 32 = 6
    · rw [if_pos h6, if_neg fun g => c2 ⟨h6, g.1, g.2.1⟩]
      rfl
    · rw [if_neg h6]
      rfl
   | b2 :: r, hl =>
    have h2 := hl b2 (by simp)
    have n3 : nextC 3 (64 * adj b0 + b1 % 64) b2 = 64 * (64 * adj b0 + b1 % 64) + b2 % 64 := rfl
    rw [firstL_some (i := 3) (b := b2) rfl, n3, List.take_succ_cons, List.take_succ_cons, List.take_succ_cons, List.take_zero]
    have hu2 : b0 / 32 = 6 → ucsAt (b0 :: b1 :: b2 :: r) = 0 := by
     intro h6
     simp only [ucsAt]
     rw [if_pos h6, if_neg fun g => c2 ⟨h6, g.1, g.2.1⟩]
    by_cases c3 : b0 / 16 = 14 ∧ b1 / 64 = 2 ∧ b2 / 64 = 2 ∧ 2048 ≤ b0 % 16 * 4096 + b1 % 64 * 64 + b2 % 64 ∧ MayU (b0 % 16 * 4096 + b1 % 64 * 64 + b2 % 64)
    · have c31 := c3.1
      rw [if_pos ((one3 b0 b1 b2 h0 h1 h2 (by omega)).2 c3), ucsOf_pos (by omega)]
      have e : 64 * (64 * adj b0 + b1 % 64) + b2 % 64 = b0 % 16 * 4096 + b1 % 64 * 64 + b2 % 64 := by
       unfold adj
       rw [if_neg (by omega), if_pos (by omega)]
       omega
      rw [e]
      by_cases hm : MayC (b0 % 16 * 4096 + b1 % 64 * 64 + b2 % 64)
      · rw [if_pos hm]
        simp only [ucsAt]
        rw [if_neg (by omega), if_pos c3.1, if_pos ⟨c3.2.1, c3.2.2.1, c3.2.2.2.1, hm⟩]
      · rw [if_neg hm]
        simp only [ucsAt]
        rw [if_neg (by omega), if_pos c3.1, if_neg fun g => hm g.2.2.2]
    rw [if_neg fun g => c3 ((one3 b0 b1 b2 h0 h1 h2 (by omega)).1 g)]
    have hu3 : b0 / 16 = 14 → ucsAt (b0 :: b1 :: b2 :: r) = 0 := by
     intro h6
     simp only [ucsAt]
     rw [if_neg (by omega), if_pos h6, if_neg fun g => c3 ⟨h6, g.1, g.2.1, g.2.2.1, mayC_mayU g.2.2.2⟩]
    match r, hl, hu2, hu3 with
    | [], _, hu2, hu3 =>
     rw [firstL_none rfl]
     by_cases h6 : b0 / 32 = 6
     · rw [hu2 h6]
       rfl
     by_cases h7 : b0 / 16 = 14
     · rw [hu3 h7]
       rfl
     · simp only [ucsAt]
       rw [if_neg h6, if_neg h7]
       rfl
    | b3 :: r, hl, hu2, hu3 =>
     have h3 := hl b3 (by simp)
     have n4 : nextC 4 (64 * (64 * adj b0 + b1 % 64) + b2 % 64) b3 = 64 * (64 * (64 * adj b0 + b1 % 64) + b2 % 64) + b3 % 64 := rfl
     rw [firstL_some (i := 4) (b := b3) rfl, n4, List.take_succ_cons, List.take_succ_cons, List.take_succ_cons, List.take_succ_cons, List.take_zero]
     by_cases c4 : b0 / 8 = 30 ∧ b1 / 64 = 2 ∧ b2 / 64 = 2 ∧ b3 / 64 = 2 ∧ 65536 ≤ b0 % 8 * 262144 + b1 % 64 * 4096 + b2 % 64 * 64 + b3 % 64 ∧ MayU (b0 % 8 * 262144 + b1 % 64 * 4096 + b2 % 64 * 64 + b3 % 64)
     · have c41 := c4.1
       rw [if_pos ((one4 b0 b1 b2 b3 h0 h1 h2 h3 (by omega)).2 c4), ucsOf_pos (by omega)]
       have e : 64 * (64 * (64 * adj b0 + b1 % 64) + b2 % 64) + b3 % 64 = b0 % 8 * 262144 + b1 % 64 * 4096 + b2 % 64 * 64 + b3 % 64 := by
        unfold adj
        rw [if_pos (by omega)]
        omega
       rw [e]
       by_cases hm : MayC (b0 % 8 * 262144 + b1 % 64 * 4096 + b2 % 64 * 64 + b3 % 64)
       · rw [if_pos hm]
         simp only [ucsAt]
         rw [if_neg (by omega), if_neg (by omega), if_pos c4.1, if_pos ⟨c4.2.1, c4.2.2.1, c4.2.2.2.1, c4.2.2.2.2.1, hm⟩]
       · rw [if_neg hm]
         simp only [ucsAt]
         rw [if_neg (by omega), if_neg (by omega), if_pos c4.1, if_neg fun g => hm g.2.2.2.2]
     · rw [if_neg fun g => c4 ((one4 b0 b1 b2 b3 h0 h1 h2 h3 (by omega)).1 g)]
       by_cases h6 : b0 / 32 = 6
       · rw [hu2 h6]
         rfl
       by_cases h7 : b0 / 16 = 14
       · rw [hu3 h7]
         rfl
       · simp only [ucsAt]
         rw [if_neg h6, if_neg h7]
         by_cases h8 : b0 / 8 = 30
         · rw [if_pos h8, if_neg fun g => c4 ⟨h8, g.1, g.2.1, g.2.2.1, g.2.2.2.1, mayC_mayU g.2.2.2.2⟩]
           rfl
         · rw [if_neg h8]
           rfl
theorem ref_take (s : ByteArray) (hs : s.size ≤ 1099511627776) : ∃ c : Int, Ev (fun k => rf04_Take.f k s) (c, (ucsAt (bs s) : Int)) := by
 have h1 := ref_first_from s hs 4 1 0 (by omega) (by omega) (by omega)
 have h2 := firstL_ucs (bs s) (bs_lt s)
 unfold ucsOf at h2
 by_cases h : (firstL (bs s) 4 1 0).2 = 0
 · rw [if_pos h] at h2
   rw [← h2]
   exact ⟨0, h1.bind (Ev.pos (by omega) (Ev.now _))⟩
 · rw [if_neg h] at h2
   by_cases h3 : MayC (firstL (bs s) 4 1 0).1
   · rw [if_pos h3] at h2
     rw [← h2]
     refine ⟨((firstL (bs s) 4 1 0).1 : Int), h1.bind (Ev.neg (by omega) ?_)⟩
     simp only [ref_may4, decide_eq_true h3, Option.bind_some, if_true]
     exact Ev.now _
   · rw [if_neg h3] at h2
     rw [← h2]
     refine ⟨0, h1.bind (Ev.neg (by omega) ?_)⟩
     simp only [ref_may4, decide_eq_false h3, Option.bind_some, Bool.false_eq_true, if_false]
     exact Ev.now _
theorem ref_piece (s : ByteArray) (hs : s.size ≤ 1099511627776) : Ev (fun k => rf07_Piece.f k s) (pieceN (bs s) : Int) := by
 unfold rf07_Piece.f
 rcases bs_cases s with ⟨-, h2, h3⟩ | ⟨b, r, hb, h2, h3, h4, h5, h6, h7⟩
 · rw [h2]
   exact Ev.pos h3 (Ev.now _)
 · have hp : pieceN (bs s) = if isLit b = true then 1 else if trip (bs s) = true then 3 else ucsAt (bs s) := by rw [h2]; rfl
   refine Ev.neg h6 (Ev.pos (by omega) ?_)
   rw [h3, hp]
   refine (ref_lit hb).bind ?_
   by_cases hl : isLit b = true
   · rw [if_pos hl]
     exact Ev.pos hl (Ev.now _)
   rw [if_neg hl]
   refine Ev.neg hl ?_
   rw [ref_trip]
   simp only [Option.bind_some]
   by_cases ht : trip (bs s) = true
   · rw [if_pos ht]
     exact Ev.pos ht (Ev.now _)
   rw [if_neg ht]
   refine Ev.neg ht ?_
   obtain ⟨c, hc⟩ := ref_take s hs
   exact hc.bind (Ev.now _)
end Go.Proofs.YtkipkbggnfllkaaGreatDoor.P
end
section
namespace Go.Proofs.YtkipkbggnfllkaaGreatDoor.P
open Go.RowKit Go.Proofs.YtkipkbggnfllkaaGreatDoorW.PrintWords Go.Proofs.YtkipkbggnfllkaaGreatDoorW.PrintLast Go.Proofs.YtkipkbggnfllkaaGreatDoorW.PrintMore
attribute [local go_sem] max2_int min2_int max_two min_two max_three min_three max_four min_four
set_option linter.unusedVariables false
set_option linter.unusedSimpArgs false
def slices_Index_string_string.l0 : Nat → List ByteArray → ByteArray → Int → Int → Option (Int)
 | 0, _, _, _, _ => none
 | k + 1, x0, x1, x7, x8 => if x8 < x7 then (if 0 ≤ x8 then (if x8 < (x0.length : Int) then (if x1.toList = (rdOf ByteArray.empty x0 x8).toList then (some x8) else (slices_Index_string_string.l0 k x0 x1 x7 (wrap64 (x8 + 1)))) else (none)) else (none)) else (some (-1))
def slices_Index_string_string.f (k : Nat) (l0 : List ByteArray) (a1 : ByteArray) : Option (Int) := slices_Index_string_string.l0 k l0 a1 (l0.length : Int) 0
set_option maxHeartbeats 8000000 in
set_option maxRecDepth 100000 in
theorem slices_Index_string_string.calls (k : Nat) (A0 : Option Addr) (c0 : Nat) (l0 : List ByteArray) (a1 : ByteArray) (r : Int) (w : World) (hr0 : Kd.C Kd.string w A0 l0.length l0) (hc0 : l0.length ≤ c0) (h : slices_Index_string_string.f k l0 a1 = some r) :
 Calls Tryz.prog 69 #[.slice A0 l0.length c0, .string a1] w fun e w' => e = .returned (.int .i64 r) ∧ Drawn0 w w' := by
 have HR0 := Aside0.mk hr0
 have HC0 := Aside0.mk hc0
 clear hr0 hc0
 have H : (slices_Index_string_string.l0 k l0 a1 (l0.length : Int) 0) = some r := h
 clear h
 have H' := Aside0.mk H
 clear H
 go_enter Tryz.func69, Tryz.ntmps69
 go_wp2
 go_loopg [8] k (fun kq v8 w' => ∃ (x8_1 : Int), v8 = .int .i64 x8_1 ∧ Aside0 (slices_Index_string_string.l0 kq l0 a1 (l0.length : Int) x8_1 = some r) ∧ Aside0 (kq ≤ k) ∧ Drawn0 w w')
 case atStart => exact ⟨(0), (by first | rfl | (simp; done) | (simp [*]; done)), H', ⟨Nat.le_refl _⟩, by repeat (first | exact Drawn0.refl _ | apply Drawn0.step)⟩
 case round =>
  clear H'
  try clear p2
  obtain ⟨x8_1, rfl, HA, HK1, ⟨m1, rfl⟩⟩ := hrel
  cases gk with
  | zero => exact absurd HA.out (by simp [slices_Index_string_string.l0])
  | succ k1 =>
   have H := HA.out
   clear HA
   simp only [slices_Index_string_string.l0] at H
   by_cases c3 : x8_1 < (l0.length : Int)
   · rw [if_pos c3] at H
     have c3b0 : decide (x8_1 < (l0.length : Int)) = true := decide_eq_true c3
     clear c3
     by_cases c4 : 0 ≤ x8_1
     · rw [if_pos c4] at H
       have c4b0 : decide (0 ≤ x8_1) = true := decide_eq_true c4
       clear c4
       by_cases c5 : x8_1 < (l0.length : Int)
       · rw [if_pos c5] at H
         have c5b0 : decide (x8_1 < (l0.length : Int)) = true := decide_eq_true c5
         clear c5
         by_cases c6 : a1.toList = (rdOf ByteArray.empty l0 x8_1).toList
         · rw [if_pos c6] at H
           have c6b0 : (a1.toList == (rdOf ByteArray.empty l0 x8_1).toList) = true := beq_iff_eq.mpr c6
           have c6b1 : (a1.toList != (rdOf ByteArray.empty l0 x8_1).toList) = false := bne_eq_false_iff_eq.mpr c6
           clear c6
           obtain rfl := Option.some.inj H
           have p304 : 0 ≤ (x8_1 : Int) := of_decide_eq_true (by first | (with_reducible assumption) | assumption)
           have q304 : x8_1 < (l0.length : Int) := of_decide_eq_true (by first | (with_reducible assumption) | assumption)
           obtain ⟨ad304, e304, hx304_0⟩ := Kd.at_string HR0.out x8_1 p304 q304
           cases e304
           replace p304 := eq_true p304
           replace q304 := eq_true q304
           go_wp2
           go_ret
           exact ⟨by first | rfl | (simp; done) | (simp [*]; done), by repeat (first | exact Drawn0.refl _ | apply Drawn0.step)⟩
         · rw [if_neg c6] at H
           have c6b0 : (a1.toList == (rdOf ByteArray.empty l0 x8_1).toList) = false := beq_eq_false_iff_ne.mpr c6
           have c6b1 : (a1.toList != (rdOf ByteArray.empty l0 x8_1).toList) = true := bne_iff_ne.mpr c6
           have H' := Aside0.mk H
           clear H
           have p304 : 0 ≤ (x8_1 : Int) := of_decide_eq_true (by first | (with_reducible assumption) | assumption)
           have q304 : x8_1 < (l0.length : Int) := of_decide_eq_true (by first | (with_reducible assumption) | assumption)
           obtain ⟨ad304, e304, hx304_0⟩ := Kd.at_string HR0.out x8_1 p304 q304
           cases e304
           replace p304 := eq_true p304
           replace q304 := eq_true q304
           go_wp2
           go_roundg k1
           case measure => have := HK1.out; omega
           case rel => exact ⟨(wrap64 (x8_1 + 1)), (by first | rfl | (simp; done) | (simp [*]; done)), H', ⟨by have := HK1.out; omega⟩, by repeat (first | exact Drawn0.refl _ | apply Drawn0.step)⟩
       · rw [if_neg c5] at H
         exact absurd H (by simp)
     · rw [if_neg c4] at H
       exact absurd H (by simp)
   · rw [if_neg c3] at H
     have c3b0 : decide (x8_1 < (l0.length : Int)) = false := decide_eq_false c3
     clear c3
     obtain rfl := Option.some.inj H
     go_wp2
     go_ret
     exact ⟨by first | rfl | (simp; done) | (simp [*]; done), by repeat (first | exact Drawn0.refl _ | apply Drawn0.step)⟩
def slices_Contains_string_string.f (k : Nat) (l0 : List ByteArray) (a1 : ByteArray) : Option (Bool) := (slices_Index_string_string.f k l0 a1).bind fun t305 => (some (decide (t305 ≥ 0)))
set_option maxHeartbeats 8000000 in
set_option maxRecDepth 100000 in
theorem slices_Contains_string_string.calls (k : Nat) (A0 : Option Addr) (c0 : Nat) (l0 : List ByteArray) (a1 : ByteArray) (r : Bool) (w : World) (hr0 : Kd.C Kd.string w A0 l0.length l0) (hc0 : l0.length ≤ c0) (h : slices_Contains_string_string.f k l0 a1 = some r) :
 Calls Tryz.prog 51 #[.slice A0 l0.length c0, .string a1] w fun e w' => e = .returned (.bool r) ∧ Drawn0 w w' := by
 have HR0 := Aside0.mk hr0
 have HC0 := Aside0.mk hc0
 clear hr0 hc0
 have H : ((slices_Index_string_string.f k l0 a1).bind fun t305 => (some (decide (t305 ≥ 0)))) = some r := h
 clear h
 replace H := Option.bind_eq_some_iff.mp H
 obtain ⟨t305, A30, H⟩ := H
 replace H : (some (decide (t305 ≥ 0))) = some r := H
 have A3 := Aside0.mk A30
 clear A30
 obtain rfl := Option.some.inj H
 go_enter Tryz.func51, Tryz.ntmps51
 go_wp2_with (first | ((with_reducible refine gate_callee (f := 69) rfl ?_); refine goesL_ (some 7) rfl rfl Tryz.func69 (by kernel_rfl) rfl #[.slice A0 l0.length c0, .string a1] rfl (by (try simp only [List.map_toArray, List.map_cons, List.map_nil]); first | done | rfl | (simp only [List.length_drop, List.length_take]; rfl)) ?_; (with_reducible refine (slices_Index_string_string.calls k _ _ l0 a1 t305 _ ?side1 ?side2 A3.out).mono ?_); (case side1 => repeat (first | exact HR0.out | (with_reducible refine Kd.C_alloc ?_ _) | (with_reducible refine Kd.C_drewN ?_ _) | (with_reducible refine Kd.C_drew ?_))); (case side2 => exact HC0.out); rintro e w' ⟨rfl, ⟨nd, rfl⟩⟩; refine ⟨_, rfl, ?_⟩))
 go_ret
 exact ⟨by first | rfl | (simp; done) | (simp [*]; done), by repeat (first | exact Drawn0.refl _ | apply Drawn0.step)⟩
mutual
def tmpl_names.l0 : Nat → List ByteArray → Int → List (S41) → Int → Int → Option (List ByteArray × Int)
 | 0, _, _, _, _, _ => none
 | k + 1, x4, x5, x10, x11, x12 => if x12 < x11 then (if 0 ≤ x12 then (if x12 < (x10.length : Int) then (tmpl_names.l1 k x4 x5 x10 x11 x12 ((rd_T41 x10 x12).f2) (((rd_T41 x10 x12).f2).length : Int) 0) else (none)) else (none)) else (some (x4, x5))
def tmpl_names.l1 : Nat → List ByteArray → Int → List (S41) → Int → Int → List (S43) → Int → Int → Option (List ByteArray × Int)
 | 0, _, _, _, _, _, _, _, _ => none
 | k + 1, x4, x5, x10, x11, x12, x17, x18, x19 => if x19 < x18 then (if 0 ≤ x19 then (if x19 < (x17.length : Int) then ((slices_Contains_string_string.f k x4 ((rd_T43 x17 x19).f0)).bind fun t310 => (if t310 = true then (tmpl_names.l1 k x4 (wrap64 (x5 + 1)) x10 x11 x12 x17 x18 (wrap64 (x19 + 1))) else (if x4.length < 8796093022208 then (tmpl_names.l1 k (x4 ++ [(rd_T43 x17 x19).f0]) (wrap64 (x5 + 1)) x10 x11 x12 x17 x18 (wrap64 (x19 + 1))) else (none)))) else (none)) else (none)) else (tmpl_names.l0 k x4 x5 x10 x11 (wrap64 (x12 + 1)))
end
def tmpl_names.f (k : Nat) (l0 : List (S41)) : Option (List ByteArray × Int) := tmpl_names.l0 k ([] : List ByteArray) 0 l0 (l0.length : Int) 0
set_option maxHeartbeats 8000000 in
set_option maxRecDepth 100000 in
theorem tmpl_names.calls (k : Nat) (A0 : Option Addr) (c0 : Nat) (l0 : List (S41)) (r1 : List ByteArray) (r2 : Int) (w : World) (hr0 : Kd.C k41 w A0 l0.length l0) (hc0 : l0.length ≤ c0) (h : tmpl_names.f k l0 = some (r1, r2)) :
 Calls Tryz.prog 35 #[.slice A0 l0.length c0] w fun e w' => ∃ v0_ : Value, e = .returned (.tuple #[v0_, .int .i64 r2]) ∧ Kd.R Kd.string 9 w' w.heap.size (fun _ => True) v0_ r1 ∧ Below w.heap.size w w' := by
 have hu41 := Tryz.underlying41
 have hu43 := Tryz.underlying43
 have HR0 := Aside0.mk hr0
 have HC0 := Aside0.mk hc0
 clear hr0 hc0
 have HB := Aside0.mk (Below.refl w.heap.size w)
 have H : (tmpl_names.l0 k ([] : List ByteArray) 0 l0 (l0.length : Int) 0) = some (r1, r2) := h
 clear h
 have H' := Aside0.mk H
 clear H
 go_enter Tryz.func35, Tryz.ntmps35
 go_wp2
 go_loopg [4, 5, 12] k (fun kq v4 v5 v12 w' => ∃ (x4_1 : List ByteArray) (x5_1 : Int) (x12_1 : Int), v5 = .int .i64 x5_1 ∧ v12 = .int .i64 x12_1 ∧ Aside0 (tmpl_names.l0 kq x4_1 x5_1 l0 (l0.length : Int) x12_1 = some (r1, r2)) ∧ Aside0 (kq ≤ k) ∧ Aside0 (Kd.R Kd.string 9 w' w.heap.size (fun _ => True) v4 x4_1) ∧ Aside0 (Below w.heap.size w w'))
 case atStart => exact ⟨(([] : List ByteArray)), (0), (0), (by first | rfl | (simp; done) | (simp [*]; done)), (by first | rfl | (simp; done) | (simp [*]; done)), H', ⟨Nat.le_refl _⟩, ⟨by first | exact Kd.R_nil _ _ _ _ _ | exact Kd.N_nil _ _ _ _ _ | exact Kd.V_nil _ _ _ _ _ | exact Kd.Q_nil _ _ _ _ _ | exact Kd.S_nil _ _ _ _ _⟩, ⟨by repeat (first | (with_reducible first | exact HB.out | apply below_alloc | apply pw_below_drewN | apply below_drew1) | exact HB.out)⟩⟩
 case round =>
  clear H'
  obtain ⟨x4_1, x5_1, x12_1, rfl, rfl, HA, HK1, HO_4, HB⟩ := hrel
  cases gk with
  | zero => exact absurd HA.out (by simp [tmpl_names.l0])
  | succ k1 =>
   have H := HA.out
   clear HA
   simp only [tmpl_names.l0] at H
   by_cases c2 : x12_1 < (l0.length : Int)
   · rw [if_pos c2] at H
     have c2b0 : decide (x12_1 < (l0.length : Int)) = true := decide_eq_true c2
     clear c2
     by_cases c3 : 0 ≤ x12_1
     · rw [if_pos c3] at H
       have c3b0 : decide (0 ≤ x12_1) = true := decide_eq_true c3
       clear c3
       by_cases c4 : x12_1 < (l0.length : Int)
       · rw [if_pos c4] at H
         have c4b0 : decide (x12_1 < (l0.length : Int)) = true := decide_eq_true c4
         clear c4
         have H' := Aside0.mk H
         clear H
         have p306 : 0 ≤ (x12_1 : Int) := of_decide_eq_true (by first | (with_reducible assumption) | assumption)
         have q306 : x12_1 < (l0.length : Int) := of_decide_eq_true (by first | (with_reducible assumption) | assumption)
         obtain ⟨ad306, A306_2, c306_2, e306, hx306_0, hx306_1, hx306_2, hl306_2, hi306_2⟩ := at_T41 HR0.out x12_1 p306 q306
         cases e306
         replace hx306_0 := (HB.out.cell (World.block_lt_of_cell? w _ hx306_0)).trans hx306_0
         replace hx306_1 := (HB.out.cell (World.block_lt_of_cell? w _ hx306_1)).trans hx306_1
         replace hx306_2 := (HB.out.cell (World.block_lt_of_cell? w _ hx306_2)).trans hx306_2
         have HR306_2 := Aside0.mk hi306_2
         have HC306_2 := Aside0.mk hl306_2
         clear hi306_2 hl306_2
         replace p306 := eq_true p306
         replace q306 := eq_true q306
         go_wp2_with (first | ((with_reducible refine gate_dst (N := 7) rfl ?_); refine box_event ?hg (N := 7) ?hd (cs := #[.string (⟨#[]⟩ : ByteArray), .int .u8 0, .slice none 0 0]) (t := 41) ?hr ?_; (case hd => rfl); (case hg => rfl); (case hr => first | (go_simp; done) | (go_simp; rfl)); intro gb307 hg w5 hbox hb; have n0_ := Aside0.mk (Kd.R_below (by (with_reducible repeat (first | apply Kd.R_alloc | apply Kd.R_drewN | apply Kd.R_drew)); exact HO_4.out) hb); have n1_ := Aside0.mk (below_step (by repeat (first | (with_reducible first | exact HB.out | apply below_alloc | apply pw_below_drewN | apply below_drew1) | exact HB.out)) hb); have n2_ := Aside0.mk (hbox); have n3_ := Aside0.mk ((by rw [hg]; exact (below_size (by repeat (first | (with_reducible first | exact HB.out | apply below_alloc | apply pw_below_drewN | apply below_drew1) | exact HB.out))) : w.heap.size ≤ gb307)); have n4_ := Aside0.mk ((by rw [hg]; exact (below_size (by repeat (first | (with_reducible first | exact HB.out | apply below_alloc | apply pw_below_drewN | apply below_drew1) | exact HB.out))) : w.heap.size ≤ gb307)); clear HO_4; clear HB; have HO_4 := n0_; have HB := n1_; have BK307 := n2_; have GW307 := n3_; have GE307 := n4_; clear n0_ n1_ n2_ n3_ n4_; clear hb hbox hg; have hcz6_0 : w5.cell? ⟨gb307, 0, none⟩ = some (.string (⟨#[]⟩ : ByteArray)) := (blk_cell BK307.out 0).trans rfl; have hcz6_1 : w5.cell? ⟨gb307, 1, none⟩ = some (.int .u8 0) := (blk_cell BK307.out 1).trans rfl; have hcz6_2 : w5.cell? ⟨gb307, 2, none⟩ = some (.slice none 0 0) := (blk_cell BK307.out 2).trans rfl; have hfz6_0 := blk_frozen BK307.out 0; have hfz6_1 := blk_frozen BK307.out 1; have hfz6_2 := blk_frozen BK307.out 2))
         go_loopg [4, 5, 19] k1 (fun kq v4 v5 v19 w' => ∃ (x4_2 : List ByteArray) (x5_2 : Int) (x19_2 : Int), v5 = .int .i64 x5_2 ∧ v19 = .int .i64 x19_2 ∧ Aside0 (tmpl_names.l1 kq x4_2 x5_2 l0 (l0.length : Int) x12_1 ((rd_T41 l0 x12_1).f2) (((rd_T41 l0 x12_1).f2).length : Int) x19_2 = some (r1, r2)) ∧ Aside0 (kq ≤ k1) ∧ Aside0 (Kd.R Kd.string 9 w' w.heap.size (fun _ => True) v4 x4_2) ∧ Aside0 (w'.heap[gb307]? = some (.cells #[.string ((rd_T41 l0 x12_1).f0), .int .u8 ((rd_T41 l0 x12_1).f1), (.slice A306_2 ((rd_T41 l0 x12_1).f2).length c306_2)] 41 (0, 0))) ∧ Aside0 (Below w.heap.size w w'))
         case atStart => exact ⟨(x4_1), (x5_1), (0), (by first | rfl | (simp; done) | (simp [*]; done)), (by first | rfl | (simp; done) | (simp [*]; done)), H', ⟨Nat.le_refl _⟩, ⟨by (with_reducible repeat (first | apply Kd.R_alloc | apply Kd.R_drewN | apply Kd.R_drew)); exact Kd.R_mono (Kd.R_far (p := ⟨gb307, 2, none⟩) (Kd.R_far (p := ⟨gb307, 1, none⟩) (Kd.R_far (p := ⟨gb307, 0, none⟩) (Kd.R_types HO_4.out BK307.out (by decide)) (fun _ hk => hk.2) (.string ((rd_T41 l0 x12_1).f0))) (fun _ hk => hk.2) (.int .u8 ((rd_T41 l0 x12_1).f1))) (fun _ hk => hk.2) (.slice A306_2 ((rd_T41 l0 x12_1).f2).length c306_2)) (fun _ hk => trivial)⟩, ⟨by (with_reducible repeat (first | refine blk_drewN ?_ _ | refine blk_drew ?_ | refine blk_alloc ?_ _)); refine blk_put (cs := #[.string ((rd_T41 l0 x12_1).f0), .int .u8 ((rd_T41 l0 x12_1).f1), .slice none 0 0]) ?_ 2 _ rfl; (with_reducible repeat (first | refine blk_drewN ?_ _ | refine blk_drew ?_ | refine blk_alloc ?_ _)); refine blk_put (cs := #[.string ((rd_T41 l0 x12_1).f0), .int .u8 0, .slice none 0 0]) ?_ 1 _ rfl; (with_reducible repeat (first | refine blk_drewN ?_ _ | refine blk_drew ?_ | refine blk_alloc ?_ _)); refine blk_put (cs := #[.string (⟨#[]⟩ : ByteArray), .int .u8 0, .slice none 0 0]) ?_ 0 _ rfl; (with_reducible repeat (first | refine blk_drewN ?_ _ | refine blk_drew ?_ | refine blk_alloc ?_ _)); exact BK307.out⟩, ⟨by repeat (first | (with_reducible first | exact HB.out | apply below_alloc | apply pw_below_drewN | apply below_drew1 | refine below_set ?_ GE307.out) | exact HB.out)⟩⟩
         case round =>
          clear H'
          try clear c2
          try clear c2b0
          try clear p2
          try clear c3
          try clear c3b0
          try clear p3
          try clear q3
          try clear hx3
          try clear c4
          try clear c4b0
          try clear hcz6_0
          try clear hcz6_1
          try clear hcz6_2
          try clear hfz6_0
          try clear hfz6_1
          try clear hfz6_2
          try clear hx306_0
          try clear hx306_1
          try clear hx306_2
          try clear p306
          try clear q306
          obtain ⟨x4_2, x5_2, x19_2, rfl, rfl, HA, HK2, HO_4, BK307, HB⟩ := hrel
          cases gk with
          | zero => exact absurd HA.out (by simp [tmpl_names.l1])
          | succ k2 =>
           have H := HA.out
           clear HA
           simp only [tmpl_names.l1] at H
           by_cases c7 : x19_2 < (((rd_T41 l0 x12_1).f2).length : Int)
           · rw [if_pos c7] at H
             have c7b0 : decide (x19_2 < (((rd_T41 l0 x12_1).f2).length : Int)) = true := decide_eq_true c7
             clear c7
             by_cases c8 : 0 ≤ x19_2
             · rw [if_pos c8] at H
               have c8b0 : decide (0 ≤ x19_2) = true := decide_eq_true c8
               clear c8
               by_cases c9 : x19_2 < (((rd_T41 l0 x12_1).f2).length : Int)
               · rw [if_pos c9] at H
                 have c9b0 : decide (x19_2 < (((rd_T41 l0 x12_1).f2).length : Int)) = true := decide_eq_true c9
                 clear c9
                 replace H := Option.bind_eq_some_iff.mp H
                 obtain ⟨t310, A100, H⟩ := H
                 replace H : (if t310 = true then (tmpl_names.l1 k2 x4_2 (wrap64 (x5_2 + 1)) l0 (l0.length : Int) x12_1 ((rd_T41 l0 x12_1).f2) (((rd_T41 l0 x12_1).f2).length : Int) (wrap64 (x19_2 + 1))) else (if x4_2.length < 8796093022208 then (tmpl_names.l1 k2 (x4_2 ++ [(rd_T43 ((rd_T41 l0 x12_1).f2) x19_2).f0]) (wrap64 (x5_2 + 1)) l0 (l0.length : Int) x12_1 ((rd_T41 l0 x12_1).f2) (((rd_T41 l0 x12_1).f2).length : Int) (wrap64 (x19_2 + 1))) else (none))) = some (r1, r2) := H
                 have A10 := Aside0.mk A100
                 clear A100
                 by_cases c11 : t310 = true
                 · subst c11
                   have H1 : (tmpl_names.l1 k2 x4_2 (wrap64 (x5_2 + 1)) l0 (l0.length : Int) x12_1 ((rd_T41 l0 x12_1).f2) (((rd_T41 l0 x12_1).f2).length : Int) (wrap64 (x19_2 + 1))) = some (r1, r2) := by rw [if_pos rfl] at H; exact H
                   clear H
                   have H := H1
                   clear H1
                   have H' := Aside0.mk H
                   clear H
                   have p308 : 0 ≤ (x19_2 : Int) := of_decide_eq_true (by first | (with_reducible assumption) | assumption)
                   have q308 : x19_2 < (((rd_T41 l0 x12_1).f2).length : Int) := of_decide_eq_true (by first | (with_reducible assumption) | assumption)
                   obtain ⟨ad308, e308, hx308_0, hx308_1, hx308_2⟩ := at_T43 HR306_2.out x19_2 p308 q308
                   cases e308
                   replace hx308_0 := (HB.out.cell (World.block_lt_of_cell? w _ hx308_0)).trans hx308_0
                   replace hx308_1 := (HB.out.cell (World.block_lt_of_cell? w _ hx308_1)).trans hx308_1
                   replace hx308_2 := (HB.out.cell (World.block_lt_of_cell? w _ hx308_2)).trans hx308_2
                   replace p308 := eq_true p308
                   replace q308 := eq_true q308
                   go_wp2_with (first | ((with_reducible refine gate_dst (N := 9) rfl ?_); refine box_event ?hg (N := 9) ?hd (cs := #[.string (⟨#[]⟩ : ByteArray), .int .i64 0, .bool false]) (t := 43) ?hr ?_; (case hd => rfl); (case hg => rfl); (case hr => first | (go_simp; done) | (go_simp; rfl)); intro gb309 hg w12 hbox hb; have n0_ := Aside0.mk (Kd.R_below (by (with_reducible repeat (first | apply Kd.R_alloc | apply Kd.R_drewN | apply Kd.R_drew)); exact HO_4.out) hb); have n1_ := Aside0.mk (blk_below (g := gb307) (o := .cells #[.string ((rd_T41 l0 x12_1).f0), .int .u8 ((rd_T41 l0 x12_1).f1), .slice (some ad308) ((rd_T41 l0 x12_1).f2).length c306_2] 41 (0, 0)) (by (with_reducible repeat (first | refine blk_drewN ?_ _ | refine blk_drew ?_ | refine blk_alloc ?_ _)); exact BK307.out) hb); have n2_ := Aside0.mk (below_step (by repeat (first | (with_reducible first | exact HB.out | apply below_alloc | apply pw_below_drewN | apply below_drew1 | refine below_set ?_ GE307.out) | exact HB.out)) hb); have n3_ := Aside0.mk (hbox); have n4_ := Aside0.mk ((by rw [hg]; exact (below_size (by repeat (first | (with_reducible first | exact HB.out | apply below_alloc | apply pw_below_drewN | apply below_drew1 | refine below_set ?_ GE307.out) | exact HB.out))) : w.heap.size ≤ gb309)); have n5_ := Aside0.mk ((by rw [hg]; exact (below_size (by repeat (first | (with_reducible first | exact HB.out | apply below_alloc | apply pw_below_drewN | apply below_drew1 | refine below_set ?_ GE307.out) | exact HB.out))) : w.heap.size ≤ gb309)); have n6_ := Aside0.mk ((by rw [hg]; exact Nat.ne_of_lt (blk_lt (g := gb307) (o := .cells #[.string ((rd_T41 l0 x12_1).f0), .int .u8 ((rd_T41 l0 x12_1).f1), .slice (some ad308) ((rd_T41 l0 x12_1).f2).length c306_2] 41 (0, 0)) (by (with_reducible repeat (first | refine blk_drewN ?_ _ | refine blk_drew ?_ | refine blk_alloc ?_ _)); exact BK307.out)) : gb307 ≠ gb309)); have n7_ := Aside0.mk ((by rw [hg]; exact Nat.ne_of_gt (blk_lt (g := gb307) (o := .cells #[.string ((rd_T41 l0 x12_1).f0), .int .u8 ((rd_T41 l0 x12_1).f1), .slice (some ad308) ((rd_T41 l0 x12_1).f2).length c306_2] 41 (0, 0)) (by (with_reducible repeat (first | refine blk_drewN ?_ _ | refine blk_drew ?_ | refine blk_alloc ?_ _)); exact BK307.out)) : gb309 ≠ gb307)); clear HO_4; clear BK307; clear HB; have HO_4 := n0_; have BK307 := n1_; have HB := n2_; have BK309 := n3_; have GW309 := n4_; have GE309 := n5_; have NB307_309 := n6_; have NB309_307 := n7_; clear n0_ n1_ n2_ n3_ n4_ n5_ n6_ n7_; clear hb hbox hg; have hnb13 := NB309_307.out; have hnc13 := NB307_309.out; have hcz14_0 : w12.cell? ⟨gb309, 0, none⟩ = some (.string (⟨#[]⟩ : ByteArray)) := (blk_cell BK309.out 0).trans rfl; have hcz14_1 : w12.cell? ⟨gb309, 1, none⟩ = some (.int .i64 0) := (blk_cell BK309.out 1).trans rfl; have hcz14_2 : w12.cell? ⟨gb309, 2, none⟩ = some (.bool false) := (blk_cell BK309.out 2).trans rfl; have hfz14_0 := blk_frozen BK309.out 0; have hfz14_1 := blk_frozen BK309.out 1; have hfz14_2 := blk_frozen BK309.out 2; obtain ⟨Ao15, co15, eo15⟩ := Kd.R_slice HO_4.out; subst eo15) | ((with_reducible refine gate_callee (f := 51) rfl ?_); refine goesL_ (some 28) rfl rfl Tryz.func51 (by kernel_rfl) rfl #[.slice Ao15 x4_2.length co15, .string ((rd_T43 ((rd_T41 l0 x12_1).f2) x19_2).f0)] rfl (by (try simp only [List.map_toArray, List.map_cons, List.map_nil]); first | done | rfl | (simp only [List.length_drop, List.length_take]; rfl)) ?_; (with_reducible refine (slices_Contains_string_string.calls k2 _ _ x4_2 ((rd_T43 ((rd_T41 l0 x12_1).f2) x19_2).f0) true _ ?side1 ?side2 A10.out).mono ?_); (case side1 => refine (Kd.R_reads' (e := 9) (base := w.heap.size) (ok := fun k_ => True) (n := x4_2.length) (c := co15) ?_).2.2; exact (by (with_reducible repeat (first | apply Kd.R_alloc | apply Kd.R_drewN | apply Kd.R_drew)); exact (Kd.R_mono (Kd.R_far (p := ⟨gb309, 2, none⟩) (Kd.R_far (p := ⟨gb309, 1, none⟩) (Kd.R_far (p := ⟨gb309, 0, none⟩) (Kd.R_types HO_4.out BK309.out (by decide)) (fun _ hk => hk.2) (.string ((rd_T43 ((rd_T41 l0 x12_1).f2) x19_2).f0))) (fun _ hk => hk.2) (.int .i64 ((rd_T43 ((rd_T41 l0 x12_1).f2) x19_2).f1))) (fun _ hk => hk.2) (.bool ((rd_T43 ((rd_T41 l0 x12_1).f2) x19_2).f2))) (fun _ h_ => h_.1)))); (case side2 => exact (Kd.R_reads' HO_4.out).2.1); rintro e w' ⟨rfl, ⟨nd, rfl⟩⟩; refine ⟨_, rfl, ?_⟩))
                   go_roundg k2
                   case measure => have := HK1.out; have := HK2.out; omega
                   case rel => exact ⟨(x4_2), (wrap64 (x5_2 + 1)), (wrap64 (x19_2 + 1)), (by first | rfl | (simp; done) | (simp [*]; done)), (by first | rfl | (simp; done) | (simp [*]; done)), H', ⟨by have := HK1.out; have := HK2.out; omega⟩, ⟨by (with_reducible repeat (first | apply Kd.R_alloc | apply Kd.R_drewN | apply Kd.R_drew)); exact Kd.R_mono (Kd.R_far (p := ⟨gb309, 2, none⟩) (Kd.R_far (p := ⟨gb309, 1, none⟩) (Kd.R_far (p := ⟨gb309, 0, none⟩) (Kd.R_types HO_4.out BK309.out (by decide)) (fun _ hk => hk.2) (.string ((rd_T43 ((rd_T41 l0 x12_1).f2) x19_2).f0))) (fun _ hk => hk.2) (.int .i64 ((rd_T43 ((rd_T41 l0 x12_1).f2) x19_2).f1))) (fun _ hk => hk.2) (.bool ((rd_T43 ((rd_T41 l0 x12_1).f2) x19_2).f2))) (fun _ hk => trivial)⟩, ⟨by (with_reducible repeat (first | refine blk_drewN ?_ _ | refine blk_drew ?_ | refine blk_alloc ?_ _)); refine blk_far ?_ NB307_309.out _; (with_reducible repeat (first | refine blk_drewN ?_ _ | refine blk_drew ?_ | refine blk_alloc ?_ _)); refine blk_far ?_ NB307_309.out _; (with_reducible repeat (first | refine blk_drewN ?_ _ | refine blk_drew ?_ | refine blk_alloc ?_ _)); refine blk_far ?_ NB307_309.out _; (with_reducible repeat (first | refine blk_drewN ?_ _ | refine blk_drew ?_ | refine blk_alloc ?_ _)); exact BK307.out⟩, ⟨by repeat (first | (with_reducible first | exact HB.out | apply below_alloc | apply pw_below_drewN | apply below_drew1 | refine below_set ?_ GE307.out | refine below_set ?_ GE309.out) | exact HB.out)⟩⟩
                 · replace c11 := Bool.eq_false_iff.mpr c11
                   subst c11
                   have H1 : (if x4_2.length < 8796093022208 then (tmpl_names.l1 k2 (x4_2 ++ [(rd_T43 ((rd_T41 l0 x12_1).f2) x19_2).f0]) (wrap64 (x5_2 + 1)) l0 (l0.length : Int) x12_1 ((rd_T41 l0 x12_1).f2) (((rd_T41 l0 x12_1).f2).length : Int) (wrap64 (x19_2 + 1))) else (none)) = some (r1, r2) := by rw [if_neg (show ¬ (false = true) by decide)] at H; exact H
                   clear H
                   have H := H1
                   clear H1
                   by_cases c16 : x4_2.length < 8796093022208
                   · rw [if_pos c16] at H
                     have LMc16 := Aside0.mk c16
                     clear c16
                     obtain ⟨y311, hy311⟩ : ∃ y_ : List ByteArray, y_ = (x4_2 ++ [(rd_T43 ((rd_T41 l0 x12_1).f2) x19_2).f0]) := ⟨_, rfl⟩
                     replace H : (tmpl_names.l1 k2 y311 (wrap64 (x5_2 + 1)) l0 (l0.length : Int) x12_1 ((rd_T41 l0 x12_1).f2) (((rd_T41 l0 x12_1).f2).length : Int) (wrap64 (x19_2 + 1))) = some (r1, r2) := by first | (rw [hy311]; with_reducible exact H) | (have H2_ := (Option.bind_some _ _).symm.trans H; rw [hy311]; with_reducible exact H2_) | (have H2_ := (Option.bind_some _ _).symm.trans H; with_reducible exact H2_) | with_reducible exact H | (rw [hy311]; exact H) | exact H
                     have Ny311 := Aside0.mk hy311
                     clear hy311
                     have H' := Aside0.mk H
                     clear H
                     have p308 : 0 ≤ (x19_2 : Int) := of_decide_eq_true (by first | (with_reducible assumption) | assumption)
                     have q308 : x19_2 < (((rd_T41 l0 x12_1).f2).length : Int) := of_decide_eq_true (by first | (with_reducible assumption) | assumption)
                     obtain ⟨ad308, e308, hx308_0, hx308_1, hx308_2⟩ := at_T43 HR306_2.out x19_2 p308 q308
                     cases e308
                     replace hx308_0 := (HB.out.cell (World.block_lt_of_cell? w _ hx308_0)).trans hx308_0
                     replace hx308_1 := (HB.out.cell (World.block_lt_of_cell? w _ hx308_1)).trans hx308_1
                     replace hx308_2 := (HB.out.cell (World.block_lt_of_cell? w _ hx308_2)).trans hx308_2
                     replace p308 := eq_true p308
                     replace q308 := eq_true q308
                     go_wp2_with (first | ((with_reducible refine gate_dst (N := 9) rfl ?_); refine box_event ?hg (N := 9) ?hd (cs := #[.string (⟨#[]⟩ : ByteArray), .int .i64 0, .bool false]) (t := 43) ?hr ?_; (case hd => rfl); (case hg => rfl); (case hr => first | (go_simp; done) | (go_simp; rfl)); intro gb309 hg w17 hbox hb; have n0_ := Aside0.mk (Kd.R_below (by (with_reducible repeat (first | apply Kd.R_alloc | apply Kd.R_drewN | apply Kd.R_drew)); exact HO_4.out) hb); have n1_ := Aside0.mk (blk_below (g := gb307) (o := .cells #[.string ((rd_T41 l0 x12_1).f0), .int .u8 ((rd_T41 l0 x12_1).f1), .slice (some ad308) ((rd_T41 l0 x12_1).f2).length c306_2] 41 (0, 0)) (by (with_reducible repeat (first | refine blk_drewN ?_ _ | refine blk_drew ?_ | refine blk_alloc ?_ _)); exact BK307.out) hb); have n2_ := Aside0.mk (below_step (by repeat (first | (with_reducible first | exact HB.out | apply below_alloc | apply pw_below_drewN | apply below_drew1 | refine below_set ?_ GE307.out) | exact HB.out)) hb); have n3_ := Aside0.mk (hbox); have n4_ := Aside0.mk ((by rw [hg]; exact (below_size (by repeat (first | (with_reducible first | exact HB.out | apply below_alloc | apply pw_below_drewN | apply below_drew1 | refine below_set ?_ GE307.out) | exact HB.out))) : w.heap.size ≤ gb309)); have n5_ := Aside0.mk ((by rw [hg]; exact (below_size (by repeat (first | (with_reducible first | exact HB.out | apply below_alloc | apply pw_below_drewN | apply below_drew1 | refine below_set ?_ GE307.out) | exact HB.out))) : w.heap.size ≤ gb309)); have n6_ := Aside0.mk ((by rw [hg]; exact Nat.ne_of_lt (blk_lt (g := gb307) (o := .cells #[.string ((rd_T41 l0 x12_1).f0), .int .u8 ((rd_T41 l0 x12_1).f1), .slice (some ad308) ((rd_T41 l0 x12_1).f2).length c306_2] 41 (0, 0)) (by (with_reducible repeat (first | refine blk_drewN ?_ _ | refine blk_drew ?_ | refine blk_alloc ?_ _)); exact BK307.out)) : gb307 ≠ gb309)); have n7_ := Aside0.mk ((by rw [hg]; exact Nat.ne_of_gt (blk_lt (g := gb307) (o := .cells #[.string ((rd_T41 l0 x12_1).f0), .int .u8 ((rd_T41 l0 x12_1).f1), .slice (some ad308) ((rd_T41 l0 x12_1).f2).length c306_2] 41 (0, 0)) (by (with_reducible repeat (first | refine blk_drewN ?_ _ | refine blk_drew ?_ | refine blk_alloc ?_ _)); exact BK307.out)) : gb309 ≠ gb307)); clear HO_4; clear BK307; clear HB; have HO_4 := n0_; have BK307 := n1_; have HB := n2_; have BK309 := n3_; have GW309 := n4_; have GE309 := n5_; have NB307_309 := n6_; have NB309_307 := n7_; clear n0_ n1_ n2_ n3_ n4_ n5_ n6_ n7_; clear hb hbox hg; have hnb18 := NB309_307.out; have hnc18 := NB307_309.out; have hcz19_0 : w17.cell? ⟨gb309, 0, none⟩ = some (.string (⟨#[]⟩ : ByteArray)) := (blk_cell BK309.out 0).trans rfl; have hcz19_1 : w17.cell? ⟨gb309, 1, none⟩ = some (.int .i64 0) := (blk_cell BK309.out 1).trans rfl; have hcz19_2 : w17.cell? ⟨gb309, 2, none⟩ = some (.bool false) := (blk_cell BK309.out 2).trans rfl; have hfz19_0 := blk_frozen BK309.out 0; have hfz19_1 := blk_frozen BK309.out 1; have hfz19_2 := blk_frozen BK309.out 2; obtain ⟨Ao20, co20, eo20⟩ := Kd.R_slice HO_4.out; subst eo20) | ((with_reducible refine gate_callee (f := 51) rfl ?_); refine goesL_ (some 28) rfl rfl Tryz.func51 (by kernel_rfl) rfl #[.slice Ao20 x4_2.length co20, .string ((rd_T43 ((rd_T41 l0 x12_1).f2) x19_2).f0)] rfl (by (try simp only [List.map_toArray, List.map_cons, List.map_nil]); first | done | rfl | (simp only [List.length_drop, List.length_take]; rfl)) ?_; (with_reducible refine (slices_Contains_string_string.calls k2 _ _ x4_2 ((rd_T43 ((rd_T41 l0 x12_1).f2) x19_2).f0) false _ ?side1 ?side2 A10.out).mono ?_); (case side1 => refine (Kd.R_reads' (e := 9) (base := w.heap.size) (ok := fun k_ => True) (n := x4_2.length) (c := co20) ?_).2.2; exact (by (with_reducible repeat (first | apply Kd.R_alloc | apply Kd.R_drewN | apply Kd.R_drew)); exact (Kd.R_mono (Kd.R_far (p := ⟨gb309, 2, none⟩) (Kd.R_far (p := ⟨gb309, 1, none⟩) (Kd.R_far (p := ⟨gb309, 0, none⟩) (Kd.R_types HO_4.out BK309.out (by decide)) (fun _ hk => hk.2) (.string ((rd_T43 ((rd_T41 l0 x12_1).f2) x19_2).f0))) (fun _ hk => hk.2) (.int .i64 ((rd_T43 ((rd_T41 l0 x12_1).f2) x19_2).f1))) (fun _ hk => hk.2) (.bool ((rd_T43 ((rd_T41 l0 x12_1).f2) x19_2).f2))) (fun _ h_ => h_.1)))); (case side2 => exact (Kd.R_reads' HO_4.out).2.1); rintro e w' ⟨rfl, ⟨nd, rfl⟩⟩; refine ⟨_, rfl, ?_⟩) | ((with_reducible refine gate_builtin (b := .append) (xs := #[.tmp 30, .tmp 33]) rfl ?_); at_builtin; refine Kd.R_append Kd.string (w0 := w) w.heap.size rfl (.tmp 30) (.tmp 33) 32 9 (.string ⟨#[]⟩) 16 rfl Tryz.underlying32 info9 rfl (by decide) (by omega) (.slice Ao20 x4_2.length co20) x4_2 ((rd_T43 ((rd_T41 l0 x12_1).f2) x19_2).f0) [.string ((rd_T43 ((rd_T41 l0 x12_1).f2) x19_2).f0)] (fun _ => True) (fun _ => False) rfl (by first | (go_simp; done) | (go_simp; rfl)) ?aP (fun _ hk => hk.elim) ?aF ?aO ?aB ?aS ?aL ?_; (case aP => exact rfl); (case aB => exact (by repeat (first | (with_reducible first | exact HB.out | apply below_alloc | apply pw_below_drewN | apply below_drew1 | refine below_set ?_ GE307.out | refine below_set ?_ GE309.out) | exact HB.out))); (case aF => exact (fun _ _ => trivial)); (case aO => exact (by (with_reducible repeat (first | apply Kd.R_alloc | apply Kd.R_drewN | apply Kd.R_drew)); exact Kd.R_mono (Kd.R_far (p := ⟨gb309, 2, none⟩) (Kd.R_far (p := ⟨gb309, 1, none⟩) (Kd.R_far (p := ⟨gb309, 0, none⟩) (Kd.R_types HO_4.out BK309.out (by decide)) (fun _ hk => hk.2) (.string ((rd_T43 ((rd_T41 l0 x12_1).f2) x19_2).f0))) (fun _ hk => hk.2) (.int .i64 ((rd_T43 ((rd_T41 l0 x12_1).f2) x19_2).f1))) (fun _ hk => hk.2) (.bool ((rd_T43 ((rd_T41 l0 x12_1).f2) x19_2).f2))) (fun _ hk => trivial))); (case aS => exact (below_size (by repeat (first | (with_reducible first | exact HB.out | apply below_alloc | apply pw_below_drewN | apply below_drew1 | refine below_set ?_ GE307.out | refine below_set ?_ GE309.out) | exact HB.out)))); (case aL => have := LMc16.out; omega); intro v312 w21 ho hb hg hat; rw [← Ny311.out] at ho; have n0_ := Aside0.mk (blk_grown (g := gb307) (o := .cells #[.string ((rd_T41 l0 x12_1).f0), .int .u8 ((rd_T41 l0 x12_1).f1), .slice (some ad308) ((rd_T41 l0 x12_1).f2).length c306_2] 41 (0, 0)) (by (with_reducible repeat (first | refine blk_drewN ?_ _ | refine blk_drew ?_ | refine blk_alloc ?_ _)); refine blk_far ?_ NB307_309.out _; (with_reducible repeat (first | refine blk_drewN ?_ _ | refine blk_drew ?_ | refine blk_alloc ?_ _)); refine blk_far ?_ NB307_309.out _; (with_reducible repeat (first | refine blk_drewN ?_ _ | refine blk_drew ?_ | refine blk_alloc ?_ _)); refine blk_far ?_ NB307_309.out _; (with_reducible repeat (first | refine blk_drewN ?_ _ | refine blk_drew ?_ | refine blk_alloc ?_ _)); exact BK307.out) hg (Kd.R_ne HO_4.out BK307.out (by decide))); have n1_ := Aside0.mk (blk_grown (g := gb309) (o := .cells #[.string ((rd_T43 ((rd_T41 l0 x12_1).f2) x19_2).f0), .int .i64 ((rd_T43 ((rd_T41 l0 x12_1).f2) x19_2).f1), .bool ((rd_T43 ((rd_T41 l0 x12_1).f2) x19_2).f2)] 43 (0, 0)) (by (with_reducible repeat (first | refine blk_drewN ?_ _ | refine blk_drew ?_ | refine blk_alloc ?_ _)); refine blk_put (cs := #[.string ((rd_T43 ((rd_T41 l0 x12_1).f2) x19_2).f0), .int .i64 ((rd_T43 ((rd_T41 l0 x12_1).f2) x19_2).f1), .bool false]) ?_ 2 _ rfl; (with_reducible repeat (first | refine blk_drewN ?_ _ | refine blk_drew ?_ | refine blk_alloc ?_ _)); refine blk_put (cs := #[.string ((rd_T43 ((rd_T41 l0 x12_1).f2) x19_2).f0), .int .i64 0, .bool false]) ?_ 1 _ rfl; (with_reducible repeat (first | refine blk_drewN ?_ _ | refine blk_drew ?_ | refine blk_alloc ?_ _)); refine blk_put (cs := #[.string (⟨#[]⟩ : ByteArray), .int .i64 0, .bool false]) ?_ 0 _ rfl; (with_reducible repeat (first | refine blk_drewN ?_ _ | refine blk_drew ?_ | refine blk_alloc ?_ _)); exact BK309.out) hg (Kd.R_ne HO_4.out BK309.out (by decide))); have n2_ := Aside0.mk (hb); have n3_ := Aside0.mk (ho); clear BK307; clear BK309; clear HB; clear HO_4; have BK307 := n0_; have BK309 := n1_; have HB := n2_; have HO313 := n3_; clear n0_ n1_ n2_ n3_; clear ho hb hg hat))
                     go_roundg k2
                     case measure => have := HK1.out; have := HK2.out; omega
                     case rel => exact ⟨(y311), (wrap64 (x5_2 + 1)), (wrap64 (x19_2 + 1)), (by first | rfl | (simp; done) | (simp [*]; done)), (by first | rfl | (simp; done) | (simp [*]; done)), H', ⟨by have := HK1.out; have := HK2.out; omega⟩, ⟨by (with_reducible repeat (first | apply Kd.R_alloc | apply Kd.R_drewN | apply Kd.R_drew)); exact HO313.out⟩, ⟨by (with_reducible repeat (first | refine blk_drewN ?_ _ | refine blk_drew ?_ | refine blk_alloc ?_ _)); exact BK307.out⟩, ⟨by repeat (first | (with_reducible first | exact HB.out | apply below_alloc | apply pw_below_drewN | apply below_drew1 | refine below_set ?_ GE307.out | refine below_set ?_ GE309.out) | exact HB.out)⟩⟩
                   · rw [if_neg c16] at H
                     exact absurd H (by simp)
               · rw [if_neg c9] at H
                 exact absurd H (by simp)
             · rw [if_neg c8] at H
               exact absurd H (by simp)
           · rw [if_neg c7] at H
             have c7b0 : decide (x19_2 < (((rd_T41 l0 x12_1).f2).length : Int)) = false := decide_eq_false c7
             clear c7
             have H' := Aside0.mk H
             clear H
             go_wp2
             go_roundg k2
             case measure => have := HK1.out; have := HK2.out; omega
             case rel => exact ⟨(x4_2), (x5_2), (wrap64 (x12_1 + 1)), (by first | rfl | (simp; done) | (simp [*]; done)), (by first | rfl | (simp; done) | (simp [*]; done)), H', ⟨by have := HK1.out; have := HK2.out; omega⟩, ⟨by (with_reducible repeat (first | apply Kd.R_alloc | apply Kd.R_drewN | apply Kd.R_drew)); exact HO_4.out⟩, ⟨by repeat (first | (with_reducible first | exact HB.out | apply below_alloc | apply pw_below_drewN | apply below_drew1 | refine below_set ?_ GE307.out) | exact HB.out)⟩⟩
       · rw [if_neg c4] at H
         exact absurd H (by simp)
     · rw [if_neg c3] at H
       exact absurd H (by simp)
   · rw [if_neg c2] at H
     have c2b0 : decide (x12_1 < (l0.length : Int)) = false := decide_eq_false c2
     clear c2
     simp only [Option.some.injEq, Prod.mk.injEq] at H
     obtain ⟨rfl, rfl⟩ := H
     go_wp2
     go_ret2
     exact ⟨_, by first | rfl | (simp [errW_none, errW_some] <;> rfl) | (simp [*, errW_none, errW_some] <;> rfl), by (with_reducible repeat (first | apply Kd.R_alloc | apply Kd.R_drewN | apply Kd.R_drew)); exact HO_4.out, by repeat (first | (with_reducible first | exact HB.out | apply below_alloc | apply pw_below_drewN | apply below_drew1) | exact HB.out)⟩
def tmpl_Once.f (k : Nat) (l0 : List (S41)) : Option (Bool) := (tmpl_names.f k l0).bind fun bt318 => (some ((bt318.1.length : Int) == bt318.2))
set_option maxHeartbeats 8000000 in
set_option maxRecDepth 100000 in
theorem tmpl_Once.calls (k : Nat) (A0 : Option Addr) (c0 : Nat) (l0 : List (S41)) (r : Bool) (w : World) (hr0 : Kd.C k41 w A0 l0.length l0) (hc0 : l0.length ≤ c0) (h : tmpl_Once.f k l0 = some r) :
 Calls Tryz.prog 17 #[.slice A0 l0.length c0] w fun e w' => e = .returned (.bool r) ∧ Below w.heap.size w w' := by
 have HR0 := Aside0.mk hr0
 have HC0 := Aside0.mk hc0
 clear hr0 hc0
 have HB := Aside0.mk (Below.refl w.heap.size w)
 have H : ((tmpl_names.f k l0).bind fun bt318 => (some ((bt318.1.length : Int) == bt318.2))) = some r := h
 clear h
 replace H := Option.bind_eq_some_iff.mp H
 obtain ⟨⟨t318, t319⟩, A20, H⟩ := H
 replace H : (some ((t318.length : Int) == t319)) = some r := H
 have A2 := Aside0.mk A20
 clear A20
 obtain rfl := Option.some.inj H
 go_enter Tryz.func17, Tryz.ntmps17
 go_wp2_with (first | ((with_reducible refine gate_callee (f := 35) rfl ?_); refine goesL_ (some 7) rfl rfl Tryz.func35 (by kernel_rfl) rfl #[.slice A0 l0.length c0] rfl (by (try simp only [List.map_toArray, List.map_cons, List.map_nil]); first | done | rfl | (simp only [List.length_drop, List.length_take]; rfl)) ?_; (with_reducible refine (tmpl_names.calls k _ _ l0 t318 t319 _ ?side1 ?side2 A2.out).mono ?_); (case side1 => repeat (first | exact HR0.out | (with_reducible refine Kd.C_alloc ?_ _) | (with_reducible refine Kd.C_drewN ?_ _) | (with_reducible refine Kd.C_drew ?_))); (case side2 => exact HC0.out); rintro e w3 ⟨v320, rfl, ho0, hb⟩; refine ⟨_, rfl, ?_⟩; have n0_ := Aside0.mk (Kd.R_lower ho0 (below_size (by repeat (first | (with_reducible first | exact HB.out | apply below_alloc | apply pw_below_drewN | apply below_drew1) | exact HB.out)))); have n1_ := Aside0.mk (below_step (by repeat (first | (with_reducible first | exact HB.out | apply below_alloc | apply pw_below_drewN | apply below_drew1) | exact HB.out)) hb); clear HB; have HO321 := n0_; have HB := n1_; clear n0_ n1_; (try clear hb); (try clear hb2); (try clear hk); (try clear hi); (try clear ho0); obtain ⟨Ao4, co4, eo4⟩ := Kd.R_slice HO321.out; subst eo4))
 go_ret
 exact ⟨by first | rfl | (simp [errW_none, errW_some] <;> rfl) | (simp [*, errW_none, errW_some] <;> rfl), by repeat (first | (with_reducible first | exact HB.out | apply below_alloc | apply pw_below_drewN | apply below_drew1) | exact HB.out)⟩
def tmpl_Names.f (k : Nat) (l0 : List (S41)) : Option (List ByteArray) := (tmpl_names.f k l0).bind fun bt314 => (some bt314.1)
set_option maxHeartbeats 8000000 in
set_option maxRecDepth 100000 in
theorem tmpl_Names.calls (k : Nat) (A0 : Option Addr) (c0 : Nat) (l0 : List (S41)) (r : List ByteArray) (w : World) (hr0 : Kd.C k41 w A0 l0.length l0) (hc0 : l0.length ≤ c0) (h : tmpl_Names.f k l0 = some r) :
 Calls Tryz.prog 16 #[.slice A0 l0.length c0] w fun e w' => ∃ v0_ : Value, e = .returned (v0_) ∧ Kd.R Kd.string 9 w' w.heap.size (fun _ => True) v0_ r ∧ Below w.heap.size w w' := by
 have HR0 := Aside0.mk hr0
 have HC0 := Aside0.mk hc0
 clear hr0 hc0
 have HB := Aside0.mk (Below.refl w.heap.size w)
 have H : ((tmpl_names.f k l0).bind fun bt314 => (some bt314.1)) = some r := h
 clear h
 replace H := Option.bind_eq_some_iff.mp H
 obtain ⟨⟨t314, t315⟩, A20, H⟩ := H
 replace H : (some t314) = some r := H
 have A2 := Aside0.mk A20
 clear A20
 obtain rfl := Option.some.inj H
 go_enter Tryz.func16, Tryz.ntmps16
 go_wp2_with (first | ((with_reducible refine gate_callee (f := 35) rfl ?_); refine goesL_ (some 7) rfl rfl Tryz.func35 (by kernel_rfl) rfl #[.slice A0 l0.length c0] rfl (by (try simp only [List.map_toArray, List.map_cons, List.map_nil]); first | done | rfl | (simp only [List.length_drop, List.length_take]; rfl)) ?_; (with_reducible refine (tmpl_names.calls k _ _ l0 t314 t315 _ ?side1 ?side2 A2.out).mono ?_); (case side1 => repeat (first | exact HR0.out | (with_reducible refine Kd.C_alloc ?_ _) | (with_reducible refine Kd.C_drewN ?_ _) | (with_reducible refine Kd.C_drew ?_))); (case side2 => exact HC0.out); rintro e w3 ⟨v316, rfl, ho0, hb⟩; refine ⟨_, rfl, ?_⟩; have n0_ := Aside0.mk (Kd.R_lower ho0 (below_size (by repeat (first | (with_reducible first | exact HB.out | apply below_alloc | apply pw_below_drewN | apply below_drew1) | exact HB.out)))); have n1_ := Aside0.mk (below_step (by repeat (first | (with_reducible first | exact HB.out | apply below_alloc | apply pw_below_drewN | apply below_drew1) | exact HB.out)) hb); clear HB; have HO317 := n0_; have HB := n1_; clear n0_ n1_; (try clear hb); (try clear hb2); (try clear hk); (try clear hi); (try clear ho0)))
 go_ret
 exact ⟨_, by first | rfl | (simp [errW_none, errW_some] <;> rfl) | (simp [*, errW_none, errW_some] <;> rfl), by (with_reducible repeat (first | apply Kd.R_alloc | apply Kd.R_drewN | apply Kd.R_drew)); exact HO317.out, by repeat (first | (with_reducible first | exact HB.out | apply below_alloc | apply pw_below_drewN | apply below_drew1) | exact HB.out)⟩
def rf07_Has.l0 : Nat → List ByteArray → ByteArray → Int → Option (Bool)
 | 0, _, _, _ => none
 | k + 1, x0, x1, x5 => if x5 < (x0.length : Int) then (if 0 ≤ x5 then (if (rdOf ByteArray.empty x0 x5).toList = x1.toList then (some true) else (rf07_Has.l0 k x0 x1 (wrap64 (x5 + 1)))) else (none)) else (some false)
def rf07_Has.f (k : Nat) (l0 : List ByteArray) (a1 : ByteArray) : Option (Bool) := rf07_Has.l0 k l0 a1 0
set_option maxHeartbeats 8000000 in
set_option maxRecDepth 100000 in
theorem rf07_Has.calls (k : Nat) (A0 : Option Addr) (c0 : Nat) (l0 : List ByteArray) (a1 : ByteArray) (r : Bool) (w : World) (hr0 : Kd.C Kd.string w A0 l0.length l0) (hc0 : l0.length ≤ c0) (h : rf07_Has.f k l0 a1 = some r) :
 Calls Tryz.prog 26 #[.slice A0 l0.length c0, .string a1] w fun e w' => e = .returned (.bool r) ∧ Drawn0 w w' := by
 have HR0 := Aside0.mk hr0
 have HC0 := Aside0.mk hc0
 clear hr0 hc0
 have H : (rf07_Has.l0 k l0 a1 0) = some r := h
 clear h
 have H' := Aside0.mk H
 clear H
 go_enter Tryz.func26, Tryz.ntmps26
 go_wp2
 go_loopg [5] k (fun kq v5 w' => ∃ (x5_1 : Int), v5 = .int .i64 x5_1 ∧ Aside0 (rf07_Has.l0 kq l0 a1 x5_1 = some r) ∧ Aside0 (kq ≤ k) ∧ Drawn0 w w')
 case atStart => exact ⟨(0), (by first | rfl | (simp; done) | (simp [*]; done)), H', ⟨Nat.le_refl _⟩, by repeat (first | exact Drawn0.refl _ | apply Drawn0.step)⟩
 case round =>
  clear H'
  try clear c2
  try clear p2
  obtain ⟨x5_1, rfl, HA, HK1, ⟨m1, rfl⟩⟩ := hrel
  cases gk with
  | zero => exact absurd HA.out (by simp [rf07_Has.l0])
  | succ k1 =>
   have H := HA.out
   clear HA
   simp only [rf07_Has.l0] at H
   by_cases c3 : x5_1 < (l0.length : Int)
   · rw [if_pos c3] at H
     have c3b0 : decide (x5_1 < (l0.length : Int)) = true := decide_eq_true c3
     clear c3
     by_cases c4 : 0 ≤ x5_1
     · rw [if_pos c4] at H
       have c4b0 : decide (0 ≤ x5_1) = true := decide_eq_true c4
       clear c4
       by_cases c5 : (rdOf ByteArray.empty l0 x5_1).toList = a1.toList
       · rw [if_pos c5] at H
         have c5b0 : ((rdOf ByteArray.empty l0 x5_1).toList == a1.toList) = true := beq_iff_eq.mpr c5
         have c5b1 : ((rdOf ByteArray.empty l0 x5_1).toList != a1.toList) = false := bne_eq_false_iff_eq.mpr c5
         clear c5
         obtain rfl := Option.some.inj H
         have p262 : 0 ≤ (x5_1 : Int) := of_decide_eq_true (by first | (with_reducible assumption) | assumption)
         have q262 : x5_1 < (l0.length : Int) := of_decide_eq_true (by first | (with_reducible assumption) | assumption)
         obtain ⟨ad262, e262, hx262_0⟩ := Kd.at_string HR0.out x5_1 p262 q262
         cases e262
         replace p262 := eq_true p262
         replace q262 := eq_true q262
         go_wp2
         go_ret
         exact ⟨by first | rfl | (simp; done) | (simp [*]; done), by repeat (first | exact Drawn0.refl _ | apply Drawn0.step)⟩
       · rw [if_neg c5] at H
         have c5b0 : ((rdOf ByteArray.empty l0 x5_1).toList == a1.toList) = false := beq_eq_false_iff_ne.mpr c5
         have c5b1 : ((rdOf ByteArray.empty l0 x5_1).toList != a1.toList) = true := bne_iff_ne.mpr c5
         have H' := Aside0.mk H
         clear H
         have p262 : 0 ≤ (x5_1 : Int) := of_decide_eq_true (by first | (with_reducible assumption) | assumption)
         have q262 : x5_1 < (l0.length : Int) := of_decide_eq_true (by first | (with_reducible assumption) | assumption)
         obtain ⟨ad262, e262, hx262_0⟩ := Kd.at_string HR0.out x5_1 p262 q262
         cases e262
         replace p262 := eq_true p262
         replace q262 := eq_true q262
         go_wp2
         go_roundg k1
         case measure => have := HK1.out; omega
         case rel => exact ⟨(wrap64 (x5_1 + 1)), (by first | rfl | (simp; done) | (simp [*]; done)), H', ⟨by have := HK1.out; omega⟩, by repeat (first | exact Drawn0.refl _ | apply Drawn0.step)⟩
     · rw [if_neg c4] at H
       exact absurd H (by simp)
   · rw [if_neg c3] at H
     have c3b0 : decide (x5_1 < (l0.length : Int)) = false := decide_eq_false c3
     clear c3
     obtain rfl := Option.some.inj H
     go_wp2
     go_ret
     exact ⟨by first | rfl | (simp; done) | (simp [*]; done), by repeat (first | exact Drawn0.refl _ | apply Drawn0.step)⟩
mutual
def rf07_Names.l0 : Nat → List (S41) → List ByteArray → Int → Option (List ByteArray)
 | 0, _, _, _ => none
 | k + 1, x0, x3, x4 => if x4 < (x0.length : Int) then (rf07_Names.l1 k x0 x3 x4 0) else (some x3)
def rf07_Names.l1 : Nat → List (S41) → List ByteArray → Int → Int → Option (List ByteArray)
 | 0, _, _, _, _ => none
 | k + 1, x0, x3, x4, x5 => if 0 ≤ x4 then (if x4 < (x0.length : Int) then (if x5 < (((rd_T41 x0 x4).f2).length : Int) then (if 0 ≤ x5 then ((rf07_Has.f k x3 ((rd_T43 ((rd_T41 x0 x4).f2) x5).f0)).bind fun t266 => (if t266 = true then (rf07_Names.l1 k x0 x3 x4 (wrap64 (x5 + 1))) else (if x3.length < 8796093022208 then (rf07_Names.l1 k x0 (x3 ++ [(rd_T43 ((rd_T41 x0 x4).f2) x5).f0]) x4 (wrap64 (x5 + 1))) else (none)))) else (none)) else (rf07_Names.l0 k x0 x3 (wrap64 (x4 + 1)))) else (none)) else (none)
end
def rf07_Names.f (k : Nat) (l0 : List (S41)) : Option (List ByteArray) := rf07_Names.l0 k l0 ([] : List ByteArray) 0
set_option maxHeartbeats 8000000 in
set_option maxRecDepth 100000 in
theorem rf07_Names.calls (k : Nat) (A0 : Option Addr) (c0 : Nat) (l0 : List (S41)) (r : List ByteArray) (w : World) (hr0 : Kd.C k41 w A0 l0.length l0) (hc0 : l0.length ≤ c0) (h : rf07_Names.f k l0 = some r) :
 Calls Tryz.prog 10 #[.slice A0 l0.length c0] w fun e w' => ∃ v0_ : Value, e = .returned (v0_) ∧ Kd.R Kd.string 9 w' w.heap.size (fun _ => True) v0_ r ∧ Below w.heap.size w w' := by
 have HR0 := Aside0.mk hr0
 have HC0 := Aside0.mk hc0
 clear hr0 hc0
 have HB := Aside0.mk (Below.refl w.heap.size w)
 have H : (rf07_Names.l0 k l0 ([] : List ByteArray) 0) = some r := h
 clear h
 have H' := Aside0.mk H
 clear H
 go_enter Tryz.func10, Tryz.ntmps10
 go_wp2
 go_loopg [3, 4] k (fun kq v3 v4 w' => ∃ (x3_1 : List ByteArray) (x4_1 : Int), v4 = .int .i64 x4_1 ∧ Aside0 (rf07_Names.l0 kq l0 x3_1 x4_1 = some r) ∧ Aside0 (kq ≤ k) ∧ Aside0 (Kd.R Kd.string 9 w' w.heap.size (fun _ => True) v3 x3_1) ∧ Aside0 (Below w.heap.size w w'))
 case atStart => exact ⟨(([] : List ByteArray)), (0), (by first | rfl | (simp; done) | (simp [*]; done)), H', ⟨Nat.le_refl _⟩, ⟨by first | exact Kd.R_nil _ _ _ _ _ | exact Kd.N_nil _ _ _ _ _ | exact Kd.V_nil _ _ _ _ _ | exact Kd.Q_nil _ _ _ _ _ | exact Kd.S_nil _ _ _ _ _⟩, ⟨by repeat (first | (with_reducible first | exact HB.out | apply below_alloc | apply pw_below_drewN | apply below_drew1) | exact HB.out)⟩⟩
 case round =>
  clear H'
  try clear c1
  obtain ⟨x3_1, x4_1, rfl, HA, HK1, HO_3, HB⟩ := hrel
  cases gk with
  | zero => exact absurd HA.out (by simp [rf07_Names.l0])
  | succ k1 =>
   have H := HA.out
   clear HA
   simp only [rf07_Names.l0] at H
   by_cases c2 : x4_1 < (l0.length : Int)
   · rw [if_pos c2] at H
     have c2b0 : decide (x4_1 < (l0.length : Int)) = true := decide_eq_true c2
     clear c2
     have H' := Aside0.mk H
     clear H
     go_wp2
     go_loopg [3, 5] k1 (fun kq v3 v5 w' => ∃ (x3_2 : List ByteArray) (x5_2 : Int), v5 = .int .i64 x5_2 ∧ Aside0 (rf07_Names.l1 kq l0 x3_2 x4_1 x5_2 = some r) ∧ Aside0 (kq ≤ k1) ∧ Aside0 (Kd.R Kd.string 9 w' w.heap.size (fun _ => True) v3 x3_2) ∧ Aside0 (Below w.heap.size w w'))
     case atStart => exact ⟨(x3_1), (0), (by first | rfl | (simp; done) | (simp [*]; done)), H', ⟨Nat.le_refl _⟩, ⟨by (with_reducible repeat (first | apply Kd.R_alloc | apply Kd.R_drewN | apply Kd.R_drew)); exact HO_3.out⟩, ⟨by repeat (first | (with_reducible first | exact HB.out | apply below_alloc | apply pw_below_drewN | apply below_drew1) | exact HB.out)⟩⟩
     case round =>
      clear H'
      try clear c1
      try clear c2
      try clear c2b0
      try clear p2
      obtain ⟨x3_2, x5_2, rfl, HA, HK2, HO_3, HB⟩ := hrel
      cases gk with
      | zero => exact absurd HA.out (by simp [rf07_Names.l1])
      | succ k2 =>
       have H := HA.out
       clear HA
       simp only [rf07_Names.l1] at H
       by_cases c3 : 0 ≤ x4_1
       · rw [if_pos c3] at H
         have c3b0 : decide (0 ≤ x4_1) = true := decide_eq_true c3
         clear c3
         by_cases c4 : x4_1 < (l0.length : Int)
         · rw [if_pos c4] at H
           have c4b0 : decide (x4_1 < (l0.length : Int)) = true := decide_eq_true c4
           clear c4
           by_cases c5 : x5_2 < (((rd_T41 l0 x4_1).f2).length : Int)
           · rw [if_pos c5] at H
             have c5b0 : decide (x5_2 < (((rd_T41 l0 x4_1).f2).length : Int)) = true := decide_eq_true c5
             clear c5
             by_cases c6 : 0 ≤ x5_2
             · rw [if_pos c6] at H
               have c6b0 : decide (0 ≤ x5_2) = true := decide_eq_true c6
               clear c6
               replace H := Option.bind_eq_some_iff.mp H
               obtain ⟨t266, A70, H⟩ := H
               replace H : (if t266 = true then (rf07_Names.l1 k2 l0 x3_2 x4_1 (wrap64 (x5_2 + 1))) else (if x3_2.length < 8796093022208 then (rf07_Names.l1 k2 l0 (x3_2 ++ [(rd_T43 ((rd_T41 l0 x4_1).f2) x5_2).f0]) x4_1 (wrap64 (x5_2 + 1))) else (none))) = some r := H
               have A7 := Aside0.mk A70
               clear A70
               by_cases c8 : t266 = true
               · subst c8
                 have H1 : (rf07_Names.l1 k2 l0 x3_2 x4_1 (wrap64 (x5_2 + 1))) = some r := by rw [if_pos rfl] at H; exact H
                 clear H
                 have H := H1
                 clear H1
                 have H' := Aside0.mk H
                 clear H
                 have p263 : 0 ≤ (x4_1 : Int) := of_decide_eq_true (by first | (with_reducible assumption) | assumption)
                 have q263 : x4_1 < (l0.length : Int) := of_decide_eq_true (by first | (with_reducible assumption) | assumption)
                 obtain ⟨ad263, A263_2, c263_2, e263, hx263_0, hx263_1, hx263_2, hl263_2, hi263_2⟩ := at_T41 HR0.out x4_1 p263 q263
                 cases e263
                 replace hx263_0 := (HB.out.cell (World.block_lt_of_cell? w _ hx263_0)).trans hx263_0
                 replace hx263_1 := (HB.out.cell (World.block_lt_of_cell? w _ hx263_1)).trans hx263_1
                 replace hx263_2 := (HB.out.cell (World.block_lt_of_cell? w _ hx263_2)).trans hx263_2
                 have HR263_2 := Aside0.mk hi263_2
                 have HC263_2 := Aside0.mk hl263_2
                 clear hi263_2 hl263_2
                 replace p263 := eq_true p263
                 replace q263 := eq_true q263
                 have p264 : 0 ≤ (x4_1 : Int) := of_decide_eq_true (by first | (with_reducible assumption) | assumption)
                 have q264 : x4_1 < (l0.length : Int) := of_decide_eq_true (by first | (with_reducible assumption) | assumption)
                 obtain ⟨ad264, A264_2, c264_2, e264, hx264_0, hx264_1, hx264_2, hl264_2, hi264_2⟩ := at_T41 HR0.out x4_1 p264 q264
                 obtain rfl : ad263 = ad264 := (by injection e264)
                 replace hx264_0 := (HB.out.cell (World.block_lt_of_cell? w _ hx264_0)).trans hx264_0
                 replace hx264_1 := (HB.out.cell (World.block_lt_of_cell? w _ hx264_1)).trans hx264_1
                 replace hx264_2 := (HB.out.cell (World.block_lt_of_cell? w _ hx264_2)).trans hx264_2
                 have HR264_2 := Aside0.mk hi264_2
                 have HC264_2 := Aside0.mk hl264_2
                 clear hi264_2 hl264_2
                 replace p264 := eq_true p264
                 replace q264 := eq_true q264
                 have ea_ := Option.some.inj (hx263_2.symm.trans hx264_2)
                 injection ea_ with ea_ en_ ec_
                 subst ea_
                 subst ec_
                 clear en_
                 have p265 : 0 ≤ (x5_2 : Int) := of_decide_eq_true (by first | (with_reducible assumption) | assumption)
                 have q265 : x5_2 < (((rd_T41 l0 x4_1).f2).length : Int) := of_decide_eq_true (by first | (with_reducible assumption) | assumption)
                 obtain ⟨ad265, e265, hx265_0, hx265_1, hx265_2⟩ := at_T43 HR264_2.out x5_2 p265 q265
                 cases e265
                 replace hx265_0 := (HB.out.cell (World.block_lt_of_cell? w _ hx265_0)).trans hx265_0
                 replace hx265_1 := (HB.out.cell (World.block_lt_of_cell? w _ hx265_1)).trans hx265_1
                 replace hx265_2 := (HB.out.cell (World.block_lt_of_cell? w _ hx265_2)).trans hx265_2
                 replace p265 := eq_true p265
                 replace q265 := eq_true q265
                 obtain ⟨Ao9, co9, eo9⟩ := Kd.R_slice HO_3.out
                 subst eo9
                 go_wp2_with (first | ((with_reducible refine gate_callee (f := 26) rfl ?_); refine goesL_ (some 32) rfl rfl Tryz.func26 (by kernel_rfl) rfl #[.slice Ao9 x3_2.length co9, .string ((rd_T43 ((rd_T41 l0 x4_1).f2) x5_2).f0)] rfl (by (try simp only [List.map_toArray, List.map_cons, List.map_nil]); first | done | rfl | (simp only [List.length_drop, List.length_take]; rfl)) ?_; (with_reducible refine (rf07_Has.calls k2 _ _ x3_2 ((rd_T43 ((rd_T41 l0 x4_1).f2) x5_2).f0) true _ ?side1 ?side2 A7.out).mono ?_); (case side1 => repeat (first | exact (Kd.R_reads' HO_3.out).2.2 | (with_reducible refine Kd.C_alloc ?_ _) | (with_reducible refine Kd.C_drewN ?_ _) | (with_reducible refine Kd.C_drew ?_))); (case side2 => exact (Kd.R_reads' HO_3.out).2.1); rintro e w' ⟨rfl, ⟨nd, rfl⟩⟩; refine ⟨_, rfl, ?_⟩))
                 go_roundg k2
                 case measure => have := HK1.out; have := HK2.out; omega
                 case rel => exact ⟨(x3_2), (wrap64 (x5_2 + 1)), (by first | rfl | (simp; done) | (simp [*]; done)), H', ⟨by have := HK1.out; have := HK2.out; omega⟩, ⟨by (with_reducible repeat (first | apply Kd.R_alloc | apply Kd.R_drewN | apply Kd.R_drew)); exact HO_3.out⟩, ⟨by repeat (first | (with_reducible first | exact HB.out | apply below_alloc | apply pw_below_drewN | apply below_drew1) | exact HB.out)⟩⟩
               · replace c8 := Bool.eq_false_iff.mpr c8
                 subst c8
                 have H1 : (if x3_2.length < 8796093022208 then (rf07_Names.l1 k2 l0 (x3_2 ++ [(rd_T43 ((rd_T41 l0 x4_1).f2) x5_2).f0]) x4_1 (wrap64 (x5_2 + 1))) else (none)) = some r := by rw [if_neg (show ¬ (false = true) by decide)] at H; exact H
                 clear H
                 have H := H1
                 clear H1
                 by_cases c10 : x3_2.length < 8796093022208
                 · rw [if_pos c10] at H
                   have LMc10 := Aside0.mk c10
                   clear c10
                   obtain ⟨y269, hy269⟩ : ∃ y_ : List ByteArray, y_ = (x3_2 ++ [(rd_T43 ((rd_T41 l0 x4_1).f2) x5_2).f0]) := ⟨_, rfl⟩
                   replace H : (rf07_Names.l1 k2 l0 y269 x4_1 (wrap64 (x5_2 + 1))) = some r := by first | (rw [hy269]; with_reducible exact H) | (have H2_ := (Option.bind_some _ _).symm.trans H; rw [hy269]; with_reducible exact H2_) | (have H2_ := (Option.bind_some _ _).symm.trans H; with_reducible exact H2_) | with_reducible exact H | (rw [hy269]; exact H) | exact H
                   have Ny269 := Aside0.mk hy269
                   clear hy269
                   have H' := Aside0.mk H
                   clear H
                   have p263 : 0 ≤ (x4_1 : Int) := of_decide_eq_true (by first | (with_reducible assumption) | assumption)
                   have q263 : x4_1 < (l0.length : Int) := of_decide_eq_true (by first | (with_reducible assumption) | assumption)
                   obtain ⟨ad263, A263_2, c263_2, e263, hx263_0, hx263_1, hx263_2, hl263_2, hi263_2⟩ := at_T41 HR0.out x4_1 p263 q263
                   cases e263
                   replace hx263_0 := (HB.out.cell (World.block_lt_of_cell? w _ hx263_0)).trans hx263_0
                   replace hx263_1 := (HB.out.cell (World.block_lt_of_cell? w _ hx263_1)).trans hx263_1
                   replace hx263_2 := (HB.out.cell (World.block_lt_of_cell? w _ hx263_2)).trans hx263_2
                   have HR263_2 := Aside0.mk hi263_2
                   have HC263_2 := Aside0.mk hl263_2
                   clear hi263_2 hl263_2
                   replace p263 := eq_true p263
                   replace q263 := eq_true q263
                   have p264 : 0 ≤ (x4_1 : Int) := of_decide_eq_true (by first | (with_reducible assumption) | assumption)
                   have q264 : x4_1 < (l0.length : Int) := of_decide_eq_true (by first | (with_reducible assumption) | assumption)
                   obtain ⟨ad264, A264_2, c264_2, e264, hx264_0, hx264_1, hx264_2, hl264_2, hi264_2⟩ := at_T41 HR0.out x4_1 p264 q264
                   obtain rfl : ad263 = ad264 := (by injection e264)
                   replace hx264_0 := (HB.out.cell (World.block_lt_of_cell? w _ hx264_0)).trans hx264_0
                   replace hx264_1 := (HB.out.cell (World.block_lt_of_cell? w _ hx264_1)).trans hx264_1
                   replace hx264_2 := (HB.out.cell (World.block_lt_of_cell? w _ hx264_2)).trans hx264_2
                   have HR264_2 := Aside0.mk hi264_2
                   have HC264_2 := Aside0.mk hl264_2
                   clear hi264_2 hl264_2
                   replace p264 := eq_true p264
                   replace q264 := eq_true q264
                   have ea_ := Option.some.inj (hx263_2.symm.trans hx264_2)
                   injection ea_ with ea_ en_ ec_
                   subst ea_
                   subst ec_
                   clear en_
                   have p265 : 0 ≤ (x5_2 : Int) := of_decide_eq_true (by first | (with_reducible assumption) | assumption)
                   have q265 : x5_2 < (((rd_T41 l0 x4_1).f2).length : Int) := of_decide_eq_true (by first | (with_reducible assumption) | assumption)
                   obtain ⟨ad265, e265, hx265_0, hx265_1, hx265_2⟩ := at_T43 HR264_2.out x5_2 p265 q265
                   cases e265
                   replace hx265_0 := (HB.out.cell (World.block_lt_of_cell? w _ hx265_0)).trans hx265_0
                   replace hx265_1 := (HB.out.cell (World.block_lt_of_cell? w _ hx265_1)).trans hx265_1
                   replace hx265_2 := (HB.out.cell (World.block_lt_of_cell? w _ hx265_2)).trans hx265_2
                   replace p265 := eq_true p265
                   replace q265 := eq_true q265
                   obtain ⟨Ao11, co11, eo11⟩ := Kd.R_slice HO_3.out
                   subst eo11
                   go_wp2_with (first | ((with_reducible refine gate_callee (f := 26) rfl ?_); refine goesL_ (some 32) rfl rfl Tryz.func26 (by kernel_rfl) rfl #[.slice Ao11 x3_2.length co11, .string ((rd_T43 ((rd_T41 l0 x4_1).f2) x5_2).f0)] rfl (by (try simp only [List.map_toArray, List.map_cons, List.map_nil]); first | done | rfl | (simp only [List.length_drop, List.length_take]; rfl)) ?_; (with_reducible refine (rf07_Has.calls k2 _ _ x3_2 ((rd_T43 ((rd_T41 l0 x4_1).f2) x5_2).f0) false _ ?side1 ?side2 A7.out).mono ?_); (case side1 => repeat (first | exact (Kd.R_reads' HO_3.out).2.2 | (with_reducible refine Kd.C_alloc ?_ _) | (with_reducible refine Kd.C_drewN ?_ _) | (with_reducible refine Kd.C_drew ?_))); (case side2 => exact (Kd.R_reads' HO_3.out).2.1); rintro e w' ⟨rfl, ⟨nd, rfl⟩⟩; refine ⟨_, rfl, ?_⟩; have p267 : 0 ≤ (x4_1 : Int) := of_decide_eq_true (by first | (with_reducible assumption) | assumption); have q267 : x4_1 < (l0.length : Int) := of_decide_eq_true (by first | (with_reducible assumption) | assumption); obtain ⟨ad267, A267_2, c267_2, e267, hx267_0, hx267_1, hx267_2, hl267_2, hi267_2⟩ := at_T41 HR0.out x4_1 p267 q267; obtain rfl : ad263 = ad267 := (by injection e267); replace hx267_0 := (HB.out.cell (World.block_lt_of_cell? w _ hx267_0)).trans hx267_0; replace hx267_1 := (HB.out.cell (World.block_lt_of_cell? w _ hx267_1)).trans hx267_1; replace hx267_2 := (HB.out.cell (World.block_lt_of_cell? w _ hx267_2)).trans hx267_2; have HR267_2 := Aside0.mk hi267_2; have HC267_2 := Aside0.mk hl267_2; clear hi267_2 hl267_2; replace p267 := eq_true p267; replace q267 := eq_true q267; have ea_ := Option.some.inj (hx263_2.symm.trans hx267_2); injection ea_ with ea_ en_ ec_; subst ea_; subst ec_; clear en_; have p268 : 0 ≤ (x5_2 : Int) := of_decide_eq_true (by first | (with_reducible assumption) | assumption); have q268 : x5_2 < (((rd_T41 l0 x4_1).f2).length : Int) := of_decide_eq_true (by first | (with_reducible assumption) | assumption); obtain ⟨ad268, e268, hx268_0, hx268_1, hx268_2⟩ := at_T43 HR267_2.out x5_2 p268 q268; cases e268; replace hx268_0 := (HB.out.cell (World.block_lt_of_cell? w _ hx268_0)).trans hx268_0; replace hx268_1 := (HB.out.cell (World.block_lt_of_cell? w _ hx268_1)).trans hx268_1; replace hx268_2 := (HB.out.cell (World.block_lt_of_cell? w _ hx268_2)).trans hx268_2; replace p268 := eq_true p268; replace q268 := eq_true q268) | ((with_reducible refine gate_builtin (b := .append) (xs := #[.tmp 34, .tmp 44]) rfl ?_); at_builtin; refine Kd.R_append Kd.string (w0 := w) w.heap.size rfl (.tmp 34) (.tmp 44) 32 9 (.string ⟨#[]⟩) 16 rfl Tryz.underlying32 info9 rfl (by decide) (by omega) (.slice Ao11 x3_2.length co11) x3_2 ((rd_T43 ((rd_T41 l0 x4_1).f2) x5_2).f0) [.string ((rd_T43 ((rd_T41 l0 x4_1).f2) x5_2).f0)] (fun _ => True) (fun _ => False) rfl rfl ?aP (fun _ hk => hk.elim) ?aF ?aO ?aB ?aS ?aL ?_; (case aP => exact rfl); (case aB => exact (by repeat (first | (with_reducible first | exact HB.out | apply below_alloc | apply pw_below_drewN | apply below_drew1) | exact HB.out))); (case aF => exact (fun _ _ => trivial)); (case aO => exact (by (with_reducible repeat (first | apply Kd.R_alloc | apply Kd.R_drewN | apply Kd.R_drew)); exact HO_3.out)); (case aS => exact (below_size (by repeat (first | (with_reducible first | exact HB.out | apply below_alloc | apply pw_below_drewN | apply below_drew1) | exact HB.out)))); (case aL => have := LMc10.out; omega); intro v270 w12 ho hb hg hat; rw [← Ny269.out] at ho; have n0_ := Aside0.mk (hb); have n1_ := Aside0.mk (ho); clear HB; clear HO_3; have HB := n0_; have HO271 := n1_; clear n0_ n1_; clear ho hb hg hat))
                   go_roundg k2
                   case measure => have := HK1.out; have := HK2.out; omega
                   case rel => exact ⟨(y269), (wrap64 (x5_2 + 1)), (by first | rfl | (simp; done) | (simp [*]; done)), H', ⟨by have := HK1.out; have := HK2.out; omega⟩, ⟨by (with_reducible repeat (first | apply Kd.R_alloc | apply Kd.R_drewN | apply Kd.R_drew)); exact HO271.out⟩, ⟨by repeat (first | (with_reducible first | exact HB.out | apply below_alloc | apply pw_below_drewN | apply below_drew1) | exact HB.out)⟩⟩
                 · rw [if_neg c10] at H
                   exact absurd H (by simp)
             · rw [if_neg c6] at H
               exact absurd H (by simp)
           · rw [if_neg c5] at H
             have c5b0 : decide (x5_2 < (((rd_T41 l0 x4_1).f2).length : Int)) = false := decide_eq_false c5
             clear c5
             have H' := Aside0.mk H
             clear H
             have p263 : 0 ≤ (x4_1 : Int) := of_decide_eq_true (by first | (with_reducible assumption) | assumption)
             have q263 : x4_1 < (l0.length : Int) := of_decide_eq_true (by first | (with_reducible assumption) | assumption)
             obtain ⟨ad263, A263_2, c263_2, e263, hx263_0, hx263_1, hx263_2, hl263_2, hi263_2⟩ := at_T41 HR0.out x4_1 p263 q263
             cases e263
             replace hx263_0 := (HB.out.cell (World.block_lt_of_cell? w _ hx263_0)).trans hx263_0
             replace hx263_1 := (HB.out.cell (World.block_lt_of_cell? w _ hx263_1)).trans hx263_1
             replace hx263_2 := (HB.out.cell (World.block_lt_of_cell? w _ hx263_2)).trans hx263_2
             have HR263_2 := Aside0.mk hi263_2
             have HC263_2 := Aside0.mk hl263_2
             clear hi263_2 hl263_2
             replace p263 := eq_true p263
             replace q263 := eq_true q263
             go_wp2
             go_roundg k2
             case measure => have := HK1.out; have := HK2.out; omega
             case rel => exact ⟨(x3_2), (wrap64 (x4_1 + 1)), (by first | rfl | (simp; done) | (simp [*]; done)), H', ⟨by have := HK1.out; have := HK2.out; omega⟩, ⟨by (with_reducible repeat (first | apply Kd.R_alloc | apply Kd.R_drewN | apply Kd.R_drew)); exact HO_3.out⟩, ⟨by repeat (first | (with_reducible first | exact HB.out | apply below_alloc | apply pw_below_drewN | apply below_drew1) | exact HB.out)⟩⟩
         · rw [if_neg c4] at H
           exact absurd H (by simp)
       · rw [if_neg c3] at H
         exact absurd H (by simp)
   · rw [if_neg c2] at H
     have c2b0 : decide (x4_1 < (l0.length : Int)) = false := decide_eq_false c2
     clear c2
     obtain rfl := Option.some.inj H
     go_wp2
     go_ret
     exact ⟨_, by first | rfl | (simp [errW_none, errW_some] <;> rfl) | (simp [*, errW_none, errW_some] <;> rfl), by (with_reducible repeat (first | apply Kd.R_alloc | apply Kd.R_drewN | apply Kd.R_drew)); exact HO_3.out, by repeat (first | (with_reducible first | exact HB.out | apply below_alloc | apply pw_below_drewN | apply below_drew1) | exact HB.out)⟩
def rf05_Texts.l0 : Nat → List ByteArray → List ByteArray → Int → Option (Bool)
 | 0, _, _, _ => none
 | k + 1, x0, x1, x5 => if x5 < (x0.length : Int) then (if 0 ≤ x5 then (if x5 < (x1.length : Int) then (if (rdOf ByteArray.empty x0 x5).toList = (rdOf ByteArray.empty x1 x5).toList then (rf05_Texts.l0 k x0 x1 (wrap64 (x5 + 1))) else (some false)) else (none)) else (none)) else (some true)
def rf05_Texts.f (k : Nat) (l0 : List ByteArray) (l1 : List ByteArray) : Option (Bool) := if (l0.length : Int) = (l1.length : Int) then (rf05_Texts.l0 k l0 l1 0) else (some false)
set_option maxHeartbeats 8000000 in
set_option maxRecDepth 100000 in
theorem rf05_Texts.calls (k : Nat) (A0 : Option Addr) (c0 : Nat) (l0 : List ByteArray) (A1 : Option Addr) (c1 : Nat) (l1 : List ByteArray) (r : Bool) (w : World) (hr0 : Kd.C Kd.string w A0 l0.length l0) (hc0 : l0.length ≤ c0) (hr1 : Kd.C Kd.string w A1 l1.length l1) (hc1 : l1.length ≤ c1) (h : rf05_Texts.f k l0 l1 = some r) :
 Calls Tryz.prog 15 #[.slice A0 l0.length c0, .slice A1 l1.length c1] w fun e w' => e = .returned (.bool r) ∧ Drawn0 w w' := by
 have HR0 := Aside0.mk hr0
 have HC0 := Aside0.mk hc0
 clear hr0 hc0
 have HR1 := Aside0.mk hr1
 have HC1 := Aside0.mk hc1
 clear hr1 hc1
 have H : (if (l0.length : Int) = (l1.length : Int) then (rf05_Texts.l0 k l0 l1 0) else (some false)) = some r := h
 clear h
 by_cases c3 : (l0.length : Int) = (l1.length : Int)
 · rw [if_pos c3] at H
   have c3b0 : ((l0.length : Int) == (l1.length : Int)) = true := beq_iff_eq.mpr c3
   have c3b1 : ((l0.length : Int) != (l1.length : Int)) = false := bne_eq_false_iff_eq.mpr c3
   have c3b2 : (l0.length == l1.length) = true := by first | simpa using c3 | (simp at c3 ⊢; omega)
   clear c3
   have H' := Aside0.mk H
   clear H
   go_enter Tryz.func15, Tryz.ntmps15
   go_wp2
   repeat (go_quiet (fail); try go_wp2)
   go_loopg [5] k (fun kq v5 w' => ∃ (x5_1 : Int), v5 = .int .i64 x5_1 ∧ Aside0 (rf05_Texts.l0 kq l0 l1 x5_1 = some r) ∧ Aside0 (kq ≤ k) ∧ Drawn0 w w')
   case atStart => exact ⟨(0), (by first | rfl | (simp; done) | (simp [*]; done)), H', ⟨Nat.le_refl _⟩, by repeat (first | exact Drawn0.refl _ | apply Drawn0.step)⟩
   case round =>
    clear H'
    try clear c1
    try clear p2
    try clear c3
    try clear c3b0
    try clear c3b1
    try clear c3b2
    obtain ⟨x5_1, rfl, HA, HK1, ⟨m1, rfl⟩⟩ := hrel
    cases gk with
    | zero => exact absurd HA.out (by simp [rf05_Texts.l0])
    | succ k1 =>
     have H := HA.out
     clear HA
     simp only [rf05_Texts.l0] at H
     by_cases c4 : x5_1 < (l0.length : Int)
     · rw [if_pos c4] at H
       have c4b0 : decide (x5_1 < (l0.length : Int)) = true := decide_eq_true c4
       clear c4
       by_cases c5 : 0 ≤ x5_1
       · rw [if_pos c5] at H
         have c5b0 : decide (0 ≤ x5_1) = true := decide_eq_true c5
         clear c5
         by_cases c6 : x5_1 < (l1.length : Int)
         · rw [if_pos c6] at H
           have c6b0 : decide (x5_1 < (l1.length : Int)) = true := decide_eq_true c6
           clear c6
           by_cases c7 : (rdOf ByteArray.empty l0 x5_1).toList = (rdOf ByteArray.empty l1 x5_1).toList
           · rw [if_pos c7] at H
             have c7b0 : ((rdOf ByteArray.empty l0 x5_1).toList == (rdOf ByteArray.empty l1 x5_1).toList) = true := beq_iff_eq.mpr c7
             have c7b1 : ((rdOf ByteArray.empty l0 x5_1).toList != (rdOf ByteArray.empty l1 x5_1).toList) = false := bne_eq_false_iff_eq.mpr c7
             clear c7
             have H' := Aside0.mk H
             clear H
             have p302 : 0 ≤ (x5_1 : Int) := of_decide_eq_true (by first | (with_reducible assumption) | assumption)
             have q302 : x5_1 < (l0.length : Int) := of_decide_eq_true (by first | (with_reducible assumption) | assumption)
             obtain ⟨ad302, e302, hx302_0⟩ := Kd.at_string HR0.out x5_1 p302 q302
             cases e302
             replace p302 := eq_true p302
             replace q302 := eq_true q302
             have p303 : 0 ≤ (x5_1 : Int) := of_decide_eq_true (by first | (with_reducible assumption) | assumption)
             have q303 : x5_1 < (l1.length : Int) := of_decide_eq_true (by first | (with_reducible assumption) | assumption)
             obtain ⟨ad303, e303, hx303_0⟩ := Kd.at_string HR1.out x5_1 p303 q303
             cases e303
             replace p303 := eq_true p303
             replace q303 := eq_true q303
             go_wp2
             repeat (go_quiet (fail); try go_wp2)
             go_roundg k1
             case measure => have := HK1.out; omega
             case rel => exact ⟨(wrap64 (x5_1 + 1)), (by first | rfl | (simp; done) | (simp [*]; done)), H', ⟨by have := HK1.out; omega⟩, by repeat (first | exact Drawn0.refl _ | apply Drawn0.step)⟩
           · rw [if_neg c7] at H
             have c7b0 : ((rdOf ByteArray.empty l0 x5_1).toList == (rdOf ByteArray.empty l1 x5_1).toList) = false := beq_eq_false_iff_ne.mpr c7
             have c7b1 : ((rdOf ByteArray.empty l0 x5_1).toList != (rdOf ByteArray.empty l1 x5_1).toList) = true := bne_iff_ne.mpr c7
             obtain rfl := Option.some.inj H
             have p302 : 0 ≤ (x5_1 : Int) := of_decide_eq_true (by first | (with_reducible assumption) | assumption)
             have q302 : x5_1 < (l0.length : Int) := of_decide_eq_true (by first | (with_reducible assumption) | assumption)
             obtain ⟨ad302, e302, hx302_0⟩ := Kd.at_string HR0.out x5_1 p302 q302
             cases e302
             replace p302 := eq_true p302
             replace q302 := eq_true q302
             have p303 : 0 ≤ (x5_1 : Int) := of_decide_eq_true (by first | (with_reducible assumption) | assumption)
             have q303 : x5_1 < (l1.length : Int) := of_decide_eq_true (by first | (with_reducible assumption) | assumption)
             obtain ⟨ad303, e303, hx303_0⟩ := Kd.at_string HR1.out x5_1 p303 q303
             cases e303
             replace p303 := eq_true p303
             replace q303 := eq_true q303
             go_wp2
             repeat (go_quiet (fail); try go_wp2)
             go_ret
             exact ⟨by first | rfl | (simp; done) | (simp [*]; done), by repeat (first | exact Drawn0.refl _ | apply Drawn0.step)⟩
         · rw [if_neg c6] at H
           exact absurd H (by simp)
       · rw [if_neg c5] at H
         exact absurd H (by simp)
     · rw [if_neg c4] at H
       have c4b0 : decide (x5_1 < (l0.length : Int)) = false := decide_eq_false c4
       clear c4
       obtain rfl := Option.some.inj H
       go_wp2
       repeat (go_quiet (fail); try go_wp2)
       go_ret
       exact ⟨by first | rfl | (simp; done) | (simp [*]; done), by repeat (first | exact Drawn0.refl _ | apply Drawn0.step)⟩
 · rw [if_neg c3] at H
   have c3b0 : ((l0.length : Int) == (l1.length : Int)) = false := beq_eq_false_iff_ne.mpr c3
   have c3b1 : ((l0.length : Int) != (l1.length : Int)) = true := bne_iff_ne.mpr c3
   have c3b2 : (l0.length == l1.length) = false := by first | simpa using c3 | (simp at c3 ⊢; omega)
   obtain rfl := Option.some.inj H
   go_enter Tryz.func15, Tryz.ntmps15
   go_wp2
   repeat (go_quiet (fail); try go_wp2)
   go_ret
   exact ⟨by first | rfl | (simp; done) | (simp [*]; done), by repeat (first | exact Drawn0.refl _ | apply Drawn0.step)⟩
end Go.Proofs.YtkipkbggnfllkaaGreatDoor.P
end
section
namespace Go.Proofs.YtkipkbggnfllkaaGreatDoor.P
open Go.RowKit Go.Proofs.YtkipkbggnfllkaaGreatDoorW.PrintWords Go.Proofs.YtkipkbggnfllkaaGreatDoorW.PrintLast Go.Proofs.YtkipkbggnfllkaaGreatDoorW.PrintMore
set_option linter.unusedVariables false
set_option linter.unusedSimpArgs false
def hasB (l : List ByteArray) (s : ByteArray) : Bool := l.any fun y => y.toList == s.toList
def nub : List ByteArray → List ByteArray → List ByteArray
 | acc, [] => acc
 | acc, x :: r => nub (if hasB acc x = true then acc else acc ++ [x]) r
theorem nub_append : ∀ (l m acc : List ByteArray), nub acc (l ++ m) = nub (nub acc l) m
 | [], m, acc => rfl
 | x :: l, m, acc => by
  simp only [List.cons_append, nub]
  exact nub_append l m _
theorem nub_length : ∀ (l acc : List ByteArray), (nub acc l).length ≤ acc.length + l.length
 | [], acc => Nat.le_refl _
 | x :: l, acc => by
  simp only [nub, List.length_cons]
  refine Nat.le_trans (nub_length l _) ?_
  split
  · omega
  · rw [List.length_append, List.length_singleton]
    omega
theorem rdOf_at (l : List ByteArray) (i : Nat) (h : i < l.length) : ∃ y, rdOf ByteArray.empty l (i : Int) = y ∧ l.drop i = y :: l.drop (i + 1) := by
 refine ⟨l[i], ?_, List.drop_eq_getElem_cons h⟩
 unfold rdOf
 rw [Int.toNat_natCast, List.getD_eq_getElem?_getD, List.getElem?_eq_getElem h]
 rfl
theorem ref_has_from (l : List ByteArray) (s : ByteArray) (hl : l.length ≤ 1099511627776) : ∀ (d i : Nat), i + d = l.length → Ev (fun k => rf07_Has.l0 k l s (i : Int)) (hasB (l.drop i) s)
 | 0, i, hi => by
  rw [List.drop_eq_nil_of_le (by omega)]
  exact Ev.step (f := fun _ => some false) (fun k => by simp only [rf07_Has.l0]; rw [if_neg (by omega)]) (Ev.now _)
 | d + 1, i, hi => by
  obtain ⟨y, h1, h2⟩ := rdOf_at l i (by omega)
  have ih := ref_has_from l s hl d (i + 1) (by omega)
  have ew : wrap64 ((i : Int) + 1) = ((i + 1 : Nat) : Int) := by rw [w64 (by omega) (by omega)]; omega
  rw [h2]
  have e : hasB (y :: l.drop (i + 1)) s = (y.toList == s.toList || hasB (l.drop (i + 1)) s) := rfl
  rw [e]
  refine Ev.step (f := fun k => if y.toList = s.toList then some true else rf07_Has.l0 k l s ((i + 1 : Nat) : Int)) (fun k => ?_) ?_
  · have c1 : ((i : Int) < (l.length : Int)) = True := eq_true (by omega)
    have c2 : (0 ≤ (i : Int)) = True := eq_true (by omega)
    simp only [rf07_Has.l0, c1, c2, h1, ew, if_true]
  · by_cases g : y.toList = s.toList
    · rw [beq_iff_eq.2 g, Bool.true_or]
      exact Ev.pos g (Ev.now _)
    · rw [beq_eq_false_iff_ne.2 g, Bool.false_or]
      exact Ev.neg g ih
theorem ref_has (l : List ByteArray) (s : ByteArray) (hl : l.length ≤ 1099511627776) : Ev (fun k => rf07_Has.f k l s) (hasB l s) := ref_has_from l s hl l.length 0 (Nat.zero_add _)
theorem prog_index_from (l : List ByteArray) (s : ByteArray) (hl : l.length ≤ 1099511627776) : ∀ (d i : Nat), i + d = l.length → ∃ r : Int, Ev (fun k => slices_Index_string_string.l0 k l s (l.length : Int) (i : Int)) r ∧ decide (r ≥ 0) = hasB (l.drop i) s
 | 0, i, hi => by
  rw [List.drop_eq_nil_of_le (by omega)]
  exact ⟨-1, Ev.step (f := fun _ => some (-1)) (fun k => by simp only [slices_Index_string_string.l0]; rw [if_neg (by omega)]) (Ev.now _), rfl⟩
 | d + 1, i, hi => by
  obtain ⟨y, h1, h2⟩ := rdOf_at l i (by omega)
  obtain ⟨r, ih1, ih2⟩ := prog_index_from l s hl d (i + 1) (by omega)
  have ew : wrap64 ((i : Int) + 1) = ((i + 1 : Nat) : Int) := by rw [w64 (by omega) (by omega)]; omega
  rw [h2]
  have e : hasB (y :: l.drop (i + 1)) s = (y.toList == s.toList || hasB (l.drop (i + 1)) s) := rfl
  rw [e]
  have hstep : ∀ r', Ev (fun k => if s.toList = y.toList then some (i : Int) else slices_Index_string_string.l0 k l s (l.length : Int) ((i + 1 : Nat) : Int)) r' → Ev (fun k => slices_Index_string_string.l0 k l s (l.length : Int) (i : Int)) r' := by
   intro r' hr'
   refine Ev.step (f := _) (fun k => ?_) hr'
   have c1 : ((i : Int) < (l.length : Int)) = True := eq_true (by omega)
   have c2 : (0 ≤ (i : Int)) = True := eq_true (by omega)
   simp only [slices_Index_string_string.l0, c1, c2, h1, ew, if_true]
  by_cases g : s.toList = y.toList
  · rw [beq_iff_eq.2 g.symm, Bool.true_or]
    exact ⟨(i : Int), hstep _ (Ev.pos g (Ev.now _)), decide_eq_true (by omega)⟩
  · rw [beq_eq_false_iff_ne.2 (fun k => g k.symm), Bool.false_or]
    exact ⟨r, hstep _ (Ev.neg g ih1), ih2⟩
theorem prog_contains (l : List ByteArray) (s : ByteArray) (hl : l.length ≤ 1099511627776) : Ev (fun k => slices_Contains_string_string.f k l s) (hasB l s) := by
 obtain ⟨r, h1, h2⟩ := prog_index_from l s hl l.length 0 (Nat.zero_add _)
 rw [List.drop_zero] at h2
 rw [← h2]
 exact Ev.bind (g := fun k => slices_Index_string_string.f k l s) h1 (Ev.now _)
def vNames (l : List S43) : List ByteArray := l.map (·.f0)
def tNames (t : List S41) : List ByteArray := t.flatMap fun x => vNames x.f2
theorem rd43_at (l : List S43) (i : Nat) (h : i < l.length) : ∃ y, rd_T43 l (i : Int) = y ∧ l.drop i = y :: l.drop (i + 1) := by
 refine ⟨l[i], ?_, List.drop_eq_getElem_cons h⟩
 unfold rd_T43
 rw [Int.toNat_natCast, List.getD_eq_getElem?_getD, List.getElem?_eq_getElem h]
 rfl
theorem rd41_at (l : List S41) (i : Nat) (h : i < l.length) : ∃ y, rd_T41 l (i : Int) = y ∧ l.drop i = y :: l.drop (i + 1) := by
 refine ⟨l[i], ?_, List.drop_eq_getElem_cons h⟩
 unfold rd_T41
 rw [Int.toNat_natCast, List.getD_eq_getElem?_getD, List.getElem?_eq_getElem h]
 rfl
theorem prog_names_l1 (t : List S41) (n : Int) (i : Nat) (hi : i ≤ 1099511627776) (sp : List S43) (hsp : sp.length ≤ 1099511627776) (R : List ByteArray × Int) : ∀ (d j : Nat) (acc : List ByteArray) (c : Nat), j + d = sp.length → acc.length ≤ c → c + d ≤ 1099511627776 →
 Ev (fun k => tmpl_names.l0 k (nub acc (vNames (sp.drop j))) ((c + d : Nat) : Int) t n ((i + 1 : Nat) : Int)) R → Ev (fun k => tmpl_names.l1 k acc (c : Int) t n (i : Int) sp (sp.length : Int) (j : Int)) R
 | 0, j, acc, c, hj, ha, hc, h => by
  rw [List.drop_eq_nil_of_le (by omega)] at h
  have ew : wrap64 ((i : Int) + 1) = ((i + 1 : Nat) : Int) := by rw [w64 (by omega) (by omega)]; omega
  refine Ev.step (f := _) (fun k => ?_) h
  simp only [tmpl_names.l1]
  rw [if_neg (by omega), ew]
  rfl
 | d + 1, j, acc, c, hj, ha, hc, h => by
  obtain ⟨y, h1, h2⟩ := rd43_at sp j (by omega)
  have ew : wrap64 ((j : Int) + 1) = ((j + 1 : Nat) : Int) := by rw [w64 (by omega) (by omega)]; omega
  have ew2 : wrap64 ((c : Int) + 1) = ((c + 1 : Nat) : Int) := by rw [w64 (by omega) (by omega)]; omega
  rw [h2] at h
  have e : vNames (y :: sp.drop (j + 1)) = y.f0 :: vNames (sp.drop (j + 1)) := rfl
  rw [e] at h
  simp only [nub] at h
  have hcon := prog_contains acc y.f0 (by omega)
  refine Ev.step (f := fun k => (slices_Contains_string_string.f k acc y.f0).bind fun t205 => (if t205 = true then (tmpl_names.l1 k acc ((c + 1 : Nat) : Int) t n (i : Int) sp (sp.length : Int) ((j + 1 : Nat) : Int)) else (tmpl_names.l1 k (acc ++ [y.f0]) ((c + 1 : Nat) : Int) t n (i : Int) sp (sp.length : Int) ((j + 1 : Nat) : Int)))) (fun k => ?_) (hcon.bind ?_)
  · have c1 : ((j : Int) < (sp.length : Int)) = True := eq_true (by omega)
    have c2 : (0 ≤ (j : Int)) = True := eq_true (by omega)
    have c3 : (acc.length < 8796093022208) = True := eq_true (by omega)
    simp only [tmpl_names.l1, c1, c2, c3, h1, ew, ew2, if_true]
  · rw [show c + (d + 1) = c + 1 + d by omega] at h
    by_cases g : hasB acc y.f0 = true
    · rw [if_pos g] at h
      exact Ev.pos g (prog_names_l1 t n i hi sp hsp R d (j + 1) acc (c + 1) (by omega) (by omega) (by omega) h)
    · rw [if_neg g] at h
      exact Ev.neg g (prog_names_l1 t n i hi sp hsp R d (j + 1) (acc ++ [y.f0]) (c + 1) (by omega) (by rw [List.length_append, List.length_singleton]; omega) (by omega) h)
theorem prog_names_l0 (t : List S41) (ht : t.length ≤ 1000000000) : ∀ (d i : Nat) (acc : List ByteArray) (c : Nat), i + d = t.length → acc.length ≤ c → c + (tNames (t.drop i)).length ≤ 1099511627776 →
 Ev (fun k => tmpl_names.l0 k acc (c : Int) t (t.length : Int) (i : Int)) (nub acc (tNames (t.drop i)), ((c + (tNames (t.drop i)).length : Nat) : Int))
 | 0, i, acc, c, hi, ha, hc => by
  rw [List.drop_eq_nil_of_le (by omega)]
  exact Ev.step (f := fun _ => some (acc, (c : Int))) (fun k => by simp only [tmpl_names.l0]; rw [if_neg (by omega)]) (Ev.now _)
 | d + 1, i, acc, c, hi, ha, hc => by
  obtain ⟨y, h1, h2⟩ := rd41_at t i (by omega)
  rw [h2] at hc ⊢
  have e : tNames (y :: t.drop (i + 1)) = vNames y.f2 ++ tNames (t.drop (i + 1)) := rfl
  rw [e, List.length_append] at hc
  rw [e, List.length_append, nub_append]
  have hvl : (vNames y.f2).length = y.f2.length := List.length_map ..
  have ih := prog_names_l0 t ht d (i + 1) (nub acc (vNames y.f2)) (c + y.f2.length) (by omega) (by have := nub_length (vNames y.f2) acc; omega) (by omega)
  have hl1 := prog_names_l1 t (t.length : Int) i (by omega) y.f2 (by omega) _ y.f2.length 0 acc c (Nat.zero_add _) ha (by omega) (by rw [List.drop_zero]; exact ih)
  rw [hvl, ← Nat.add_assoc]
  refine Ev.step (f := _) (fun k => ?_) hl1
  have c1 : ((i : Int) < (t.length : Int)) = True := eq_true (by omega)
  have c2 : (0 ≤ (i : Int)) = True := eq_true (by omega)
  simp only [tmpl_names.l0, c1, c2, h1, if_true]
  rfl
theorem prog_names (t : List S41) (ht : t.length ≤ 1000000000) (hn : (tNames t).length ≤ 1099511627776) : Ev (fun k => tmpl_names.f k t) (nub [] (tNames t), (((tNames t).length : Nat) : Int)) := by
 have := prog_names_l0 t ht t.length 0 [] 0 (Nat.zero_add _) (Nat.le_refl _) (by rw [List.drop_zero, Nat.zero_add]; exact hn)
 rw [List.drop_zero, Nat.zero_add] at this
 exact this
theorem prog_Names (t : List S41) (ht : t.length ≤ 1000000000) (hn : (tNames t).length ≤ 1099511627776) : Ev (fun k => tmpl_Names.f k t) (nub [] (tNames t)) := (prog_names t ht hn).bind (Ev.now _)
theorem prog_Once (t : List S41) (ht : t.length ≤ 1000000000) (hn : (tNames t).length ≤ 1099511627776) : Ev (fun k => tmpl_Once.f k t) (((nub [] (tNames t)).length : Int) == (((tNames t).length : Nat) : Int)) := (prog_names t ht hn).bind (Ev.now _)
theorem ref_names_l1 (t : List S41) (ht : t.length ≤ 1000000000) (i : Nat) (hi : i < t.length) (y : S41) (hy : rd_T41 t (i : Int) = y) (R : List ByteArray) : ∀ (d j : Nat) (acc : List ByteArray), j + d = y.f2.length → acc.length + d ≤ 1099511627776 → y.f2.length ≤ 1099511627776 →
 Ev (fun k => rf07_Names.l0 k t (nub acc (vNames (y.f2.drop j))) ((i + 1 : Nat) : Int)) R → Ev (fun k => rf07_Names.l1 k t acc (i : Int) (j : Int)) R
 | 0, j, acc, hj, ha, hsp, h => by
  rw [List.drop_eq_nil_of_le (by omega)] at h
  have ew : wrap64 ((i : Int) + 1) = ((i + 1 : Nat) : Int) := by rw [w64 (by omega) (by omega)]; omega
  refine Ev.step (f := _) (fun k => ?_) h
  have c1 : (0 ≤ (i : Int)) = True := eq_true (by omega)
  have c2 : ((i : Int) < (t.length : Int)) = True := eq_true (by omega)
  have c3 : ((j : Int) < (y.f2.length : Int)) = False := eq_false (by omega)
  simp only [rf07_Names.l1, hy, c1, c2, c3, ew, if_true, if_false]
  rfl
 | d + 1, j, acc, hj, ha, hsp, h => by
  obtain ⟨x, h1, h2⟩ := rd43_at y.f2 j (by omega)
  have ew : wrap64 ((j : Int) + 1) = ((j + 1 : Nat) : Int) := by rw [w64 (by omega) (by omega)]; omega
  rw [h2] at h
  have e : vNames (x :: y.f2.drop (j + 1)) = x.f0 :: vNames (y.f2.drop (j + 1)) := rfl
  rw [e] at h
  simp only [nub] at h
  have hcon := ref_has acc x.f0 (by omega)
  refine Ev.step (f := fun k => (rf07_Has.f k acc x.f0).bind fun t217 => (if t217 = true then (rf07_Names.l1 k t acc (i : Int) ((j + 1 : Nat) : Int)) else (rf07_Names.l1 k t (acc ++ [x.f0]) (i : Int) ((j + 1 : Nat) : Int)))) (fun k => ?_) (hcon.bind ?_)
  · have c1 : (0 ≤ (i : Int)) = True := eq_true (by omega)
    have c2 : ((i : Int) < (t.length : Int)) = True := eq_true (by omega)
    have c3 : ((j : Int) < (y.f2.length : Int)) = True := eq_true (by omega)
    have c4 : (0 ≤ (j : Int)) = True := eq_true (by omega)
    have c5 : (acc.length < 8796093022208) = True := eq_true (by omega)
    simp only [rf07_Names.l1, hy, c1, c2, c3, c4, c5, h1, ew, if_true]
  · by_cases g : hasB acc x.f0 = true
    · rw [if_pos g] at h
      exact Ev.pos g (ref_names_l1 t ht i hi y hy R d (j + 1) acc (by omega) (by omega) hsp h)
    · rw [if_neg g] at h
      exact Ev.neg g (ref_names_l1 t ht i hi y hy R d (j + 1) (acc ++ [x.f0]) (by omega) (by rw [List.length_append, List.length_singleton]; omega) hsp h)
theorem ref_names_l0 (t : List S41) (ht : t.length ≤ 1000000000) : ∀ (d i : Nat) (acc : List ByteArray), i + d = t.length → acc.length + (tNames (t.drop i)).length ≤ 1099511627776 →
 Ev (fun k => rf07_Names.l0 k t acc (i : Int)) (nub acc (tNames (t.drop i)))
 | 0, i, acc, hi, hc => by
  rw [List.drop_eq_nil_of_le (by omega)]
  exact Ev.step (f := fun _ => some acc) (fun k => by simp only [rf07_Names.l0]; rw [if_neg (by omega)]) (Ev.now _)
 | d + 1, i, acc, hi, hc => by
  obtain ⟨y, h1, h2⟩ := rd41_at t i (by omega)
  rw [h2] at hc ⊢
  have e : tNames (y :: t.drop (i + 1)) = vNames y.f2 ++ tNames (t.drop (i + 1)) := rfl
  rw [e, List.length_append] at hc
  rw [e, nub_append]
  have hvl : (vNames y.f2).length = y.f2.length := List.length_map ..
  have ih := ref_names_l0 t ht d (i + 1) (nub acc (vNames y.f2)) (by omega) (by have := nub_length (vNames y.f2) acc; omega)
  have hl1 := ref_names_l1 t ht i (by omega) y h1 _ y.f2.length 0 acc (Nat.zero_add _) (by omega) (by omega) (by rw [List.drop_zero]; exact ih)
  refine Ev.step (f := _) (fun k => ?_) hl1
  have c1 : ((i : Int) < (t.length : Int)) = True := eq_true (by omega)
  simp only [rf07_Names.l0, c1, if_true]
  rfl
theorem ref_names (t : List S41) (ht : t.length ≤ 1000000000) (hn : (tNames t).length ≤ 1099511627776) : Ev (fun k => rf07_Names.f k t) (nub [] (tNames t)) := by
 have := ref_names_l0 t ht t.length 0 [] (Nat.zero_add _) (by rw [List.drop_zero]; simpa using hn)
 rw [List.drop_zero] at this
 exact this
theorem ref_texts_from (l : List ByteArray) (hl : l.length ≤ 1099511627776) : ∀ (d i : Nat), i + d = l.length → Ev (fun k => rf05_Texts.l0 k l l (i : Int)) true
 | 0, i, hi => Ev.step (f := fun _ => some true) (fun k => by simp only [rf05_Texts.l0]; rw [if_neg (by omega)]) (Ev.now _)
 | d + 1, i, hi => by
  have ih := ref_texts_from l hl d (i + 1) (by omega)
  have ew : wrap64 ((i : Int) + 1) = ((i + 1 : Nat) : Int) := by rw [w64 (by omega) (by omega)]; omega
  refine Ev.step (f := _) (fun k => ?_) ih
  have c1 : ((i : Int) < (l.length : Int)) = True := eq_true (by omega)
  have c2 : (0 ≤ (i : Int)) = True := eq_true (by omega)
  simp only [rf05_Texts.l0, c1, c2, ew, if_true]
theorem ref_texts (l : List ByteArray) (hl : l.length ≤ 1099511627776) : Ev (fun k => rf05_Texts.f k l l) true := by
 unfold rf05_Texts.f
 exact Ev.pos rfl (ref_texts_from l hl l.length 0 (Nat.zero_add _))
end Go.Proofs.YtkipkbggnfllkaaGreatDoor.P
end
section
namespace Go.Proofs.YtkipkbggnfllkaaGreatDoor.P
open Go.RowKit Go.Proofs.YtkipkbggnfllkaaGreatDoorW.PrintWords Go.Proofs.YtkipkbggnfllkaaGreatDoorW.PrintLast Go.Proofs.YtkipkbggnfllkaaGreatDoorW.PrintMore
attribute [local go_sem] max2_int min2_int max_two min_two max_three min_three max_four min_four
set_option linter.unusedVariables false
set_option linter.unusedSimpArgs false
def rf07_Literal.l0 : Nat → ByteArray → Option (Bool)
 | 0, _ => none
 | k + 1, x0 => if x0.toList = ([] : List UInt8) then (some true) else ((rf07_Piece.f k x0).bind fun t276 => (if t276 = 0 then (some false) else (if 0 ≤ t276 then (if t276 ≤ (x0.size : Int) then (rf07_Literal.l0 k (x0.extract (t276 : Int).toNat x0.size)) else (none)) else (none))))
def rf07_Literal.f (k : Nat) (a0 : ByteArray) : Option (Bool) := if a0.toList = ([] : List UInt8) then (some false) else (rf07_Literal.l0 k a0)
set_option maxHeartbeats 8000000 in
set_option maxRecDepth 100000 in
theorem rf07_Literal.calls (k : Nat) (a0 : ByteArray) (r : Bool) (w : World) (h : rf07_Literal.f k a0 = some r) :
 Calls Tryz.prog 28 #[.string a0] w fun e w' => e = .returned (.bool r) ∧ Below w.heap.size w w' := by
 have HB := Aside0.mk (Below.refl w.heap.size w)
 have H : (if a0.toList = ([] : List UInt8) then (some false) else (rf07_Literal.l0 k a0)) = some r := h
 clear h
 by_cases c2 : a0.toList = ([] : List UInt8)
 · rw [if_pos c2] at H
   have c2b0 : (a0.toList == ([] : List UInt8)) = true := beq_iff_eq.mpr c2
   have c2b1 : (a0.toList != ([] : List UInt8)) = false := bne_eq_false_iff_eq.mpr c2
   clear c2
   obtain rfl := Option.some.inj H
   go_enter Tryz.func28, Tryz.ntmps28
   go_wp2
   go_ret
   exact ⟨by first | rfl | (simp [errW_none, errW_some] <;> rfl) | (simp [*, errW_none, errW_some] <;> rfl), by repeat (first | (with_reducible first | exact HB.out | apply below_alloc | apply pw_below_drewN | apply below_drew1) | exact HB.out)⟩
 · rw [if_neg c2] at H
   have c2b0 : (a0.toList == ([] : List UInt8)) = false := beq_eq_false_iff_ne.mpr c2
   have c2b1 : (a0.toList != ([] : List UInt8)) = true := bne_iff_ne.mpr c2
   have H' := Aside0.mk H
   clear H
   go_enter Tryz.func28, Tryz.ntmps28
   go_wp2
   go_loopg [0] k (fun kq v0 w' => ∃ (x0_1 : ByteArray), v0 = .string x0_1 ∧ Aside0 (rf07_Literal.l0 kq x0_1 = some r) ∧ Aside0 (kq ≤ k) ∧ Aside0 (Below w.heap.size w w'))
   case atStart => exact ⟨(a0), (by first | rfl | (simp; done) | (simp [*]; done)), H', ⟨Nat.le_refl _⟩, ⟨by repeat (first | (with_reducible first | exact HB.out | apply below_alloc | apply pw_below_drewN | apply below_drew1) | exact HB.out)⟩⟩
   case round =>
    clear H'
    try clear c2
    try clear c2b0
    try clear c2b1
    try clear p2
    obtain ⟨x0_1, rfl, HA, HK1, HB⟩ := hrel
    cases gk with
    | zero => exact absurd HA.out (by simp [rf07_Literal.l0])
    | succ k1 =>
     have H := HA.out
     clear HA
     simp only [rf07_Literal.l0] at H
     by_cases c3 : x0_1.toList = ([] : List UInt8)
     · rw [if_pos c3] at H
       have c3b0 : (x0_1.toList == ([] : List UInt8)) = true := beq_iff_eq.mpr c3
       have c3b1 : (x0_1.toList != ([] : List UInt8)) = false := bne_eq_false_iff_eq.mpr c3
       clear c3
       obtain rfl := Option.some.inj H
       go_wp2
       go_ret
       exact ⟨by first | rfl | (simp [errW_none, errW_some] <;> rfl) | (simp [*, errW_none, errW_some] <;> rfl), by repeat (first | (with_reducible first | exact HB.out | apply below_alloc | apply pw_below_drewN | apply below_drew1) | exact HB.out)⟩
     · rw [if_neg c3] at H
       have c3b0 : (x0_1.toList == ([] : List UInt8)) = false := beq_eq_false_iff_ne.mpr c3
       have c3b1 : (x0_1.toList != ([] : List UInt8)) = true := bne_iff_ne.mpr c3
       replace H := Option.bind_eq_some_iff.mp H
       obtain ⟨t276, A40, H⟩ := H
       replace H : (if t276 = 0 then (some false) else (if 0 ≤ t276 then (if t276 ≤ (x0_1.size : Int) then (rf07_Literal.l0 k1 (x0_1.extract (t276 : Int).toNat x0_1.size)) else (none)) else (none))) = some r := H
       have A4 := Aside0.mk A40
       clear A40
       by_cases c5 : t276 = 0
       · rw [if_pos c5] at H
         have c5b0 : (t276 == 0) = true := beq_iff_eq.mpr c5
         have c5b1 : (t276 != 0) = false := bne_eq_false_iff_eq.mpr c5
         clear c5
         obtain rfl := Option.some.inj H
         go_wp2_with (first | ((with_reducible refine gate_callee (f := 42) rfl ?_); refine goesL_ (some 9) rfl rfl Tryz.func42 (by kernel_rfl) rfl #[.string x0_1] rfl (by (try simp only [List.map_toArray, List.map_cons, List.map_nil]); first | done | rfl | (simp only [List.length_drop, List.length_take]; rfl)) ?_; (with_reducible refine (rf07_Piece.calls k1 x0_1 t276 _ A4.out).mono ?_); rintro e w6 ⟨rfl, hb⟩; refine ⟨_, rfl, ?_⟩; have n0_ := Aside0.mk (below_step (by repeat (first | (with_reducible first | exact HB.out | apply below_alloc | apply pw_below_drewN | apply below_drew1) | exact HB.out)) hb); clear HB; have HB := n0_; clear n0_; (try clear hb); (try clear hb2); (try clear hk); (try clear hi)))
         go_ret
         exact ⟨by first | rfl | (simp [errW_none, errW_some] <;> rfl) | (simp [*, errW_none, errW_some] <;> rfl), by repeat (first | (with_reducible first | exact HB.out | apply below_alloc | apply pw_below_drewN | apply below_drew1) | exact HB.out)⟩
       · rw [if_neg c5] at H
         have c5b0 : (t276 == 0) = false := beq_eq_false_iff_ne.mpr c5
         have c5b1 : (t276 != 0) = true := bne_iff_ne.mpr c5
         by_cases c7 : 0 ≤ t276
         · rw [if_pos c7] at H
           have c7b0 := eq_true c7
           have c7b1 : decide (0 ≤ t276) = true := decide_eq_true c7
           clear c7
           by_cases c8 : t276 ≤ (x0_1.size : Int)
           · rw [if_pos c8] at H
             have c8b0 := eq_true c8
             have c8b1 : decide (t276 ≤ (x0_1.size : Int)) = true := decide_eq_true c8
             clear c8
             have H' := Aside0.mk H
             clear H
             go_wp2_with (first | ((with_reducible refine gate_callee (f := 42) rfl ?_); refine goesL_ (some 9) rfl rfl Tryz.func42 (by kernel_rfl) rfl #[.string x0_1] rfl (by (try simp only [List.map_toArray, List.map_cons, List.map_nil]); first | done | rfl | (simp only [List.length_drop, List.length_take]; rfl)) ?_; (with_reducible refine (rf07_Piece.calls k1 x0_1 t276 _ A4.out).mono ?_); rintro e w9 ⟨rfl, hb⟩; refine ⟨_, rfl, ?_⟩; have n0_ := Aside0.mk (below_step (by repeat (first | (with_reducible first | exact HB.out | apply below_alloc | apply pw_below_drewN | apply below_drew1) | exact HB.out)) hb); clear HB; have HB := n0_; clear n0_; (try clear hb); (try clear hb2); (try clear hk); (try clear hi)))
             go_roundg k1
             case measure => have := HK1.out; omega
             case rel => exact ⟨(x0_1.extract (t276 : Int).toNat x0_1.size), (by first | rfl | (simp; done) | (simp [*]; done)), H', ⟨by have := HK1.out; omega⟩, ⟨by repeat (first | (with_reducible first | exact HB.out | apply below_alloc | apply pw_below_drewN | apply below_drew1) | exact HB.out)⟩⟩
           · rw [if_neg c8] at H
             exact absurd H (by simp)
         · rw [if_neg c7] at H
           exact absurd H (by simp)
mutual
def rf07_May.l0 : Nat → List (S41) → Int → Option (Bool)
 | 0, _, _ => none
 | k + 1, x0, x3 => if x3 < (x0.length : Int) then (if 0 ≤ x3 then (if (((rd_T41 x0 x3).f2).length : Int) = 0 then (if ((rd_T41 x0 x3).f1) = 0 then ((rf07_Literal.f k ((rd_T41 x0 x3).f0)).bind fun t279 => (if t279 = true then (if x3 > 0 then (if 0 ≤ (wrap64 (x3 - 1)) then (if (wrap64 (x3 - 1)) < (x0.length : Int) then (if (((rd_T41 x0 (wrap64 (x3 - 1))).f2).length : Int) = 0 then (some false) else (rf07_May.l0 k x0 (wrap64 (x3 + 1)))) else (none)) else (none)) else (rf07_May.l0 k x0 (wrap64 (x3 + 1)))) else (some false))) else (some false)) else (if ((rd_T41 x0 x3).f0).toList = ([] : List UInt8) then ((rf07_Operator.f k ((rd_T41 x0 x3).f1)).bind fun t281 => (rf07_May.j1 k x0 x3 (!t281) ((rd_T41 x0 x3).f0) ((rd_T41 x0 x3).f1) ((rd_T41 x0 x3).f2))) else (rf07_May.j1 k x0 x3 true ((rd_T41 x0 x3).f0) ((rd_T41 x0 x3).f1) ((rd_T41 x0 x3).f2)))) else (none)) else (some true)
def rf07_May.j1 : Nat → List (S41) → Int → Bool → ByteArray → Int → List (S43) → Option (Bool)
 | 0, _, _, _, _, _, _ => none
 | k + 1, x0, x3, x51, x279000, x279001, x279002 => if x51 = true then (some false) else (rf07_May.l1 k x0 x3 0 x279000 x279001 x279002)
def rf07_May.l1 : Nat → List (S41) → Int → Int → ByteArray → Int → List (S43) → Option (Bool)
 | 0, _, _, _, _, _, _ => none
 | k + 1, x0, x3, x5, x279000, x279001, x279002 => if x5 < (x279002.length : Int) then (if 0 ≤ x5 then ((rf06_May.f k ((rd_T43 x279002 x5).f0) ((rd_T43 x279002 x5).f1) ((rd_T43 x279002 x5).f2)).bind fun t283 => (if t283 = true then (rf07_May.l1 k x0 x3 (wrap64 (x5 + 1)) x279000 x279001 x279002) else (some false))) else (none)) else (rf07_May.l0 k x0 (wrap64 (x3 + 1)))
end
def rf07_May.f (k : Nat) (l0 : List (S41)) : Option (Bool) := rf07_May.l0 k l0 0
set_option maxHeartbeats 8000000 in
set_option maxRecDepth 100000 in
theorem rf07_May.calls (k : Nat) (A0 : Option Addr) (c0 : Nat) (l0 : List (S41)) (r : Bool) (w : World) (hr0 : Kd.C k41 w A0 l0.length l0) (hc0 : l0.length ≤ c0) (h : rf07_May.f k l0 = some r) :
 Calls Tryz.prog 12 #[.slice A0 l0.length c0] w fun e w' => e = .returned (.bool r) ∧ Below w.heap.size w w' := by
 have hu41 := Tryz.underlying41
 have hu43 := Tryz.underlying43
 have HR0 := Aside0.mk hr0
 have HC0 := Aside0.mk hc0
 clear hr0 hc0
 have HB := Aside0.mk (Below.refl w.heap.size w)
 have H : (rf07_May.l0 k l0 0) = some r := h
 clear h
 have H' := Aside0.mk H
 clear H
 go_enter Tryz.func12, Tryz.ntmps12
 go_wp2
 go_loopg [3] k (fun kq v3 w' => ∃ (x3_1 : Int), v3 = .int .i64 x3_1 ∧ Aside0 (rf07_May.l0 kq l0 x3_1 = some r) ∧ Aside0 (kq ≤ k) ∧ Aside0 (Below w.heap.size w w'))
 case atStart => exact ⟨(0), (by first | rfl | (simp; done) | (simp [*]; done)), H', ⟨Nat.le_refl _⟩, ⟨by repeat (first | (with_reducible first | exact HB.out | apply below_alloc | apply pw_below_drewN | apply below_drew1) | exact HB.out)⟩⟩
 case round =>
  clear H'
  try clear c1
  obtain ⟨x3_1, rfl, HA, HK1, HB⟩ := hrel
  cases gk with
  | zero => exact absurd HA.out (by simp [rf07_May.l0])
  | succ k1 =>
   have H := HA.out
   clear HA
   simp only [rf07_May.l0] at H
   by_cases c2 : x3_1 < (l0.length : Int)
   · rw [if_pos c2] at H
     have c2b0 : decide (x3_1 < (l0.length : Int)) = true := decide_eq_true c2
     clear c2
     by_cases c3 : 0 ≤ x3_1
     · rw [if_pos c3] at H
       have c3b0 : decide (0 ≤ x3_1) = true := decide_eq_true c3
       clear c3
       by_cases c4 : (((rd_T41 l0 x3_1).f2).length : Int) = 0
       · rw [if_pos c4] at H
         have c4b0 : ((((rd_T41 l0 x3_1).f2).length : Int) == 0) = true := beq_iff_eq.mpr c4
         have c4b1 : ((((rd_T41 l0 x3_1).f2).length : Int) != 0) = false := bne_eq_false_iff_eq.mpr c4
         clear c4
         by_cases c5 : ((rd_T41 l0 x3_1).f1) = 0
         · rw [if_pos c5] at H
           have c5b0 : (((rd_T41 l0 x3_1).f1) == 0) = true := beq_iff_eq.mpr c5
           have c5b1 : (((rd_T41 l0 x3_1).f1) != 0) = false := bne_eq_false_iff_eq.mpr c5
           clear c5
           replace H := Option.bind_eq_some_iff.mp H
           obtain ⟨t279, A60, H⟩ := H
           replace H : (if t279 = true then (if x3_1 > 0 then (if 0 ≤ (wrap64 (x3_1 - 1)) then (if (wrap64 (x3_1 - 1)) < (l0.length : Int) then (if (((rd_T41 l0 (wrap64 (x3_1 - 1))).f2).length : Int) = 0 then (some false) else (rf07_May.l0 k1 l0 (wrap64 (x3_1 + 1)))) else (none)) else (none)) else (rf07_May.l0 k1 l0 (wrap64 (x3_1 + 1)))) else (some false)) = some r := H
           have A6 := Aside0.mk A60
           clear A60
           by_cases c7 : t279 = true
           · subst c7
             have H1 : (if x3_1 > 0 then (if 0 ≤ (wrap64 (x3_1 - 1)) then (if (wrap64 (x3_1 - 1)) < (l0.length : Int) then (if (((rd_T41 l0 (wrap64 (x3_1 - 1))).f2).length : Int) = 0 then (some false) else (rf07_May.l0 k1 l0 (wrap64 (x3_1 + 1)))) else (none)) else (none)) else (rf07_May.l0 k1 l0 (wrap64 (x3_1 + 1)))) = some r := by rw [if_pos rfl] at H; exact H
             clear H
             have H := H1
             clear H1
             by_cases c8 : x3_1 > 0
             · rw [if_pos c8] at H
               have c8b0 : decide (0 < x3_1) = true := decide_eq_true c8
               clear c8
               obtain ⟨ji9, hji9⟩ : ∃ j_ : Int, (wrap64 (x3_1 - 1)) = j_ := ⟨_, rfl⟩
               replace H : (if 0 ≤ (ji9) then (if (ji9) < (l0.length : Int) then (if (((rd_T41 l0 (ji9)).f2).length : Int) = 0 then (some false) else (rf07_May.l0 k1 l0 (wrap64 (x3_1 + 1)))) else (none)) else (none)) = some r := by first | (rw [hji9] at H; exact H) | (simp only [hji9] at H ⊢; exact H)
               (try rw [hji9] at A6)
               have hji9w : (IntKind.i64.wrap (x3_1 - 1)) = ji9 := (i64_w _).trans hji9
               by_cases c10 : 0 ≤ (ji9)
               · rw [if_pos c10] at H
                 have c10b0 : decide (0 ≤ (ji9)) = true := decide_eq_true c10
                 clear c10
                 by_cases c11 : (ji9) < (l0.length : Int)
                 · rw [if_pos c11] at H
                   have c11b0 : decide ((ji9) < (l0.length : Int)) = true := decide_eq_true c11
                   clear c11
                   by_cases c12 : (((rd_T41 l0 (ji9)).f2).length : Int) = 0
                   · rw [if_pos c12] at H
                     have c12b0 : ((((rd_T41 l0 (ji9)).f2).length : Int) == 0) = true := beq_iff_eq.mpr c12
                     have c12b1 : ((((rd_T41 l0 (ji9)).f2).length : Int) != 0) = false := bne_eq_false_iff_eq.mpr c12
                     clear c12
                     obtain rfl := Option.some.inj H
                     have p277 : 0 ≤ (x3_1 : Int) := of_decide_eq_true (by first | (with_reducible assumption) | assumption)
                     have q277 : x3_1 < (l0.length : Int) := of_decide_eq_true (by first | (with_reducible assumption) | assumption)
                     obtain ⟨ad277, A277_2, c277_2, e277, hx277_0, hx277_1, hx277_2, hl277_2, hi277_2⟩ := at_T41 HR0.out x3_1 p277 q277
                     cases e277
                     replace hx277_0 := (HB.out.cell (World.block_lt_of_cell? w _ hx277_0)).trans hx277_0
                     replace hx277_1 := (HB.out.cell (World.block_lt_of_cell? w _ hx277_1)).trans hx277_1
                     replace hx277_2 := (HB.out.cell (World.block_lt_of_cell? w _ hx277_2)).trans hx277_2
                     have HR277_2 := Aside0.mk hi277_2
                     have HC277_2 := Aside0.mk hl277_2
                     clear hi277_2 hl277_2
                     replace p277 := eq_true p277
                     replace q277 := eq_true q277
                     go_wp2_with (first | ((with_reducible refine gate_dst (N := 4) rfl ?_); (try (refine gate_guard (by rfl) ?_; dsimp only)); refine box_event ?hg (N := 4) ?hd (cs := #[.string (⟨#[]⟩ : ByteArray), .int .u8 0, .slice none 0 0]) (t := 41) ?hr ?_; (case hd => rfl); (case hg => rfl); (case hr => first | (go_simp; done) | (go_simp; rfl)); intro gb278 hg w13 hbox hb; have n0_ := Aside0.mk (below_step (by repeat (first | (with_reducible first | exact HB.out | apply below_alloc | apply pw_below_drewN | apply below_drew1) | exact HB.out)) hb); have n1_ := Aside0.mk (hbox); have n2_ := Aside0.mk ((by rw [hg]; exact (below_size (by repeat (first | (with_reducible first | exact HB.out | apply below_alloc | apply pw_below_drewN | apply below_drew1) | exact HB.out))) : w.heap.size ≤ gb278)); have n3_ := Aside0.mk ((by rw [hg]; exact (below_size (by repeat (first | (with_reducible first | exact HB.out | apply below_alloc | apply pw_below_drewN | apply below_drew1) | exact HB.out))) : w.heap.size ≤ gb278)); clear HB; have HB := n0_; have BK278 := n1_; have GW278 := n2_; have GE278 := n3_; clear n0_ n1_ n2_ n3_; clear hb hbox hg; have hcz14_0 : w13.cell? ⟨gb278, 0, none⟩ = some (.string (⟨#[]⟩ : ByteArray)) := (blk_cell BK278.out 0).trans rfl; have hcz14_1 : w13.cell? ⟨gb278, 1, none⟩ = some (.int .u8 0) := (blk_cell BK278.out 1).trans rfl; have hcz14_2 : w13.cell? ⟨gb278, 2, none⟩ = some (.slice none 0 0) := (blk_cell BK278.out 2).trans rfl; have hfz14_0 := blk_frozen BK278.out 0; have hfz14_1 := blk_frozen BK278.out 1; have hfz14_2 := blk_frozen BK278.out 2) | (go_at_call 28; (with_reducible refine (rf07_Literal.calls k1 ((rd_T41 l0 x3_1).f0) true _ A6.out).mono ?_); rintro e w15 ⟨rfl, hb⟩; have n0_ := Aside0.mk (blk_below (g := gb278) (o := .cells #[.string ((rd_T41 l0 x3_1).f0), .int .u8 ((rd_T41 l0 x3_1).f1), .slice A277_2 ((rd_T41 l0 x3_1).f2).length c277_2] 41 (0, 0)) (by (with_reducible repeat (first | refine blk_drewN ?_ _ | refine blk_drew ?_ | refine blk_alloc ?_ _)); refine blk_put (cs := #[.string ((rd_T41 l0 x3_1).f0), .int .u8 ((rd_T41 l0 x3_1).f1), .slice none 0 0]) ?_ 2 _ rfl; (with_reducible repeat (first | refine blk_drewN ?_ _ | refine blk_drew ?_ | refine blk_alloc ?_ _)); refine blk_put (cs := #[.string ((rd_T41 l0 x3_1).f0), .int .u8 0, .slice none 0 0]) ?_ 1 _ rfl; (with_reducible repeat (first | refine blk_drewN ?_ _ | refine blk_drew ?_ | refine blk_alloc ?_ _)); refine blk_put (cs := #[.string (⟨#[]⟩ : ByteArray), .int .u8 0, .slice none 0 0]) ?_ 0 _ rfl; (with_reducible repeat (first | refine blk_drewN ?_ _ | refine blk_drew ?_ | refine blk_alloc ?_ _)); exact BK278.out) hb); have n1_ := Aside0.mk (below_step (by repeat (first | (with_reducible first | exact HB.out | apply below_alloc | apply pw_below_drewN | apply below_drew1 | refine below_set ?_ GE278.out) | exact HB.out)) hb); clear BK278; clear HB; have BK278 := n0_; have HB := n1_; clear n0_ n1_; (try clear hb); (try clear hb2); (try clear hk); (try clear hi); have p280 : 0 ≤ ((ji9) : Int) := of_decide_eq_true (by first | (with_reducible assumption) | assumption); have q280 : (ji9) < (l0.length : Int) := of_decide_eq_true (by first | (with_reducible assumption) | assumption); obtain ⟨ad280, A280_2, c280_2, e280, hx280_0, hx280_1, hx280_2, hl280_2, hi280_2⟩ := at_T41 HR0.out (ji9) p280 q280; obtain rfl : ad277 = ad280 := (by injection e280); replace hx280_0 := (HB.out.cell (World.block_lt_of_cell? w _ hx280_0)).trans hx280_0; replace hx280_1 := (HB.out.cell (World.block_lt_of_cell? w _ hx280_1)).trans hx280_1; replace hx280_2 := (HB.out.cell (World.block_lt_of_cell? w _ hx280_2)).trans hx280_2; have HR280_2 := Aside0.mk hi280_2; have HC280_2 := Aside0.mk hl280_2; clear hi280_2 hl280_2; replace p280 := eq_true p280; replace q280 := eq_true q280))
                     go_ret
                     exact ⟨by first | rfl | (simp [errW_none, errW_some] <;> rfl) | (simp only [← hji9]; first | rfl | (simp [errW_none, errW_some] <;> rfl)) | (simp [*, errW_none, errW_some] <;> rfl), by repeat (first | (with_reducible first | exact HB.out | apply below_alloc | apply pw_below_drewN | apply below_drew1 | refine below_set ?_ GE278.out) | exact HB.out)⟩
                   · rw [if_neg c12] at H
                     have c12b0 : ((((rd_T41 l0 (ji9)).f2).length : Int) == 0) = false := beq_eq_false_iff_ne.mpr c12
                     have c12b1 : ((((rd_T41 l0 (ji9)).f2).length : Int) != 0) = true := bne_iff_ne.mpr c12
                     have c12b2 : ¬ (((rd_T41 l0 (ji9)).f2) = []) := fun h_ => c12 (by rw [h_]; rfl)
                     have H' := Aside0.mk H
                     clear H
                     have p277 : 0 ≤ (x3_1 : Int) := of_decide_eq_true (by first | (with_reducible assumption) | assumption)
                     have q277 : x3_1 < (l0.length : Int) := of_decide_eq_true (by first | (with_reducible assumption) | assumption)
                     obtain ⟨ad277, A277_2, c277_2, e277, hx277_0, hx277_1, hx277_2, hl277_2, hi277_2⟩ := at_T41 HR0.out x3_1 p277 q277
                     cases e277
                     replace hx277_0 := (HB.out.cell (World.block_lt_of_cell? w _ hx277_0)).trans hx277_0
                     replace hx277_1 := (HB.out.cell (World.block_lt_of_cell? w _ hx277_1)).trans hx277_1
                     replace hx277_2 := (HB.out.cell (World.block_lt_of_cell? w _ hx277_2)).trans hx277_2
                     have HR277_2 := Aside0.mk hi277_2
                     have HC277_2 := Aside0.mk hl277_2
                     clear hi277_2 hl277_2
                     replace p277 := eq_true p277
                     replace q277 := eq_true q277
                     go_wp2_with (first | ((with_reducible refine gate_dst (N := 4) rfl ?_); (try (refine gate_guard (by rfl) ?_; dsimp only)); refine box_event ?hg (N := 4) ?hd (cs := #[.string (⟨#[]⟩ : ByteArray), .int .u8 0, .slice none 0 0]) (t := 41) ?hr ?_; (case hd => rfl); (case hg => rfl); (case hr => first | (go_simp; done) | (go_simp; rfl)); intro gb278 hg w16 hbox hb; have n0_ := Aside0.mk (below_step (by repeat (first | (with_reducible first | exact HB.out | apply below_alloc | apply pw_below_drewN | apply below_drew1) | exact HB.out)) hb); have n1_ := Aside0.mk (hbox); have n2_ := Aside0.mk ((by rw [hg]; exact (below_size (by repeat (first | (with_reducible first | exact HB.out | apply below_alloc | apply pw_below_drewN | apply below_drew1) | exact HB.out))) : w.heap.size ≤ gb278)); have n3_ := Aside0.mk ((by rw [hg]; exact (below_size (by repeat (first | (with_reducible first | exact HB.out | apply below_alloc | apply pw_below_drewN | apply below_drew1) | exact HB.out))) : w.heap.size ≤ gb278)); clear HB; have HB := n0_; have BK278 := n1_; have GW278 := n2_; have GE278 := n3_; clear n0_ n1_ n2_ n3_; clear hb hbox hg; have hcz17_0 : w16.cell? ⟨gb278, 0, none⟩ = some (.string (⟨#[]⟩ : ByteArray)) := (blk_cell BK278.out 0).trans rfl; have hcz17_1 : w16.cell? ⟨gb278, 1, none⟩ = some (.int .u8 0) := (blk_cell BK278.out 1).trans rfl; have hcz17_2 : w16.cell? ⟨gb278, 2, none⟩ = some (.slice none 0 0) := (blk_cell BK278.out 2).trans rfl; have hfz17_0 := blk_frozen BK278.out 0; have hfz17_1 := blk_frozen BK278.out 1; have hfz17_2 := blk_frozen BK278.out 2) | (go_at_call 28; (with_reducible refine (rf07_Literal.calls k1 ((rd_T41 l0 x3_1).f0) true _ A6.out).mono ?_); rintro e w18 ⟨rfl, hb⟩; have n0_ := Aside0.mk (blk_below (g := gb278) (o := .cells #[.string ((rd_T41 l0 x3_1).f0), .int .u8 ((rd_T41 l0 x3_1).f1), .slice A277_2 ((rd_T41 l0 x3_1).f2).length c277_2] 41 (0, 0)) (by (with_reducible repeat (first | refine blk_drewN ?_ _ | refine blk_drew ?_ | refine blk_alloc ?_ _)); refine blk_put (cs := #[.string ((rd_T41 l0 x3_1).f0), .int .u8 ((rd_T41 l0 x3_1).f1), .slice none 0 0]) ?_ 2 _ rfl; (with_reducible repeat (first | refine blk_drewN ?_ _ | refine blk_drew ?_ | refine blk_alloc ?_ _)); refine blk_put (cs := #[.string ((rd_T41 l0 x3_1).f0), .int .u8 0, .slice none 0 0]) ?_ 1 _ rfl; (with_reducible repeat (first | refine blk_drewN ?_ _ | refine blk_drew ?_ | refine blk_alloc ?_ _)); refine blk_put (cs := #[.string (⟨#[]⟩ : ByteArray), .int .u8 0, .slice none 0 0]) ?_ 0 _ rfl; (with_reducible repeat (first | refine blk_drewN ?_ _ | refine blk_drew ?_ | refine blk_alloc ?_ _)); exact BK278.out) hb); have n1_ := Aside0.mk (below_step (by repeat (first | (with_reducible first | exact HB.out | apply below_alloc | apply pw_below_drewN | apply below_drew1 | refine below_set ?_ GE278.out) | exact HB.out)) hb); clear BK278; clear HB; have BK278 := n0_; have HB := n1_; clear n0_ n1_; (try clear hb); (try clear hb2); (try clear hk); (try clear hi); have p280 : 0 ≤ ((ji9) : Int) := of_decide_eq_true (by first | (with_reducible assumption) | assumption); have q280 : (ji9) < (l0.length : Int) := of_decide_eq_true (by first | (with_reducible assumption) | assumption); obtain ⟨ad280, A280_2, c280_2, e280, hx280_0, hx280_1, hx280_2, hl280_2, hi280_2⟩ := at_T41 HR0.out (ji9) p280 q280; obtain rfl : ad277 = ad280 := (by injection e280); replace hx280_0 := (HB.out.cell (World.block_lt_of_cell? w _ hx280_0)).trans hx280_0; replace hx280_1 := (HB.out.cell (World.block_lt_of_cell? w _ hx280_1)).trans hx280_1; replace hx280_2 := (HB.out.cell (World.block_lt_of_cell? w _ hx280_2)).trans hx280_2; have HR280_2 := Aside0.mk hi280_2; have HC280_2 := Aside0.mk hl280_2; clear hi280_2 hl280_2; replace p280 := eq_true p280; replace q280 := eq_true q280))
                     go_roundg k1
                     case measure => have := HK1.out; omega
                     case rel => exact ⟨(wrap64 (x3_1 + 1)), (by first | rfl | (simp; done) | (simp [*]; done)), H', ⟨by have := HK1.out; omega⟩, ⟨by repeat (first | (with_reducible first | exact HB.out | apply below_alloc | apply pw_below_drewN | apply below_drew1 | refine below_set ?_ GE278.out) | exact HB.out)⟩⟩
                 · rw [if_neg c11] at H
                   exact absurd H (by simp)
               · rw [if_neg c10] at H
                 exact absurd H (by simp)
             · rw [if_neg c8] at H
               have c8b0 : decide (0 < x3_1) = false := decide_eq_false c8
               clear c8
               have H' := Aside0.mk H
               clear H
               have p277 : 0 ≤ (x3_1 : Int) := of_decide_eq_true (by first | (with_reducible assumption) | assumption)
               have q277 : x3_1 < (l0.length : Int) := of_decide_eq_true (by first | (with_reducible assumption) | assumption)
               obtain ⟨ad277, A277_2, c277_2, e277, hx277_0, hx277_1, hx277_2, hl277_2, hi277_2⟩ := at_T41 HR0.out x3_1 p277 q277
               cases e277
               replace hx277_0 := (HB.out.cell (World.block_lt_of_cell? w _ hx277_0)).trans hx277_0
               replace hx277_1 := (HB.out.cell (World.block_lt_of_cell? w _ hx277_1)).trans hx277_1
               replace hx277_2 := (HB.out.cell (World.block_lt_of_cell? w _ hx277_2)).trans hx277_2
               have HR277_2 := Aside0.mk hi277_2
               have HC277_2 := Aside0.mk hl277_2
               clear hi277_2 hl277_2
               replace p277 := eq_true p277
               replace q277 := eq_true q277
               go_wp2_with (first | ((with_reducible refine gate_dst (N := 4) rfl ?_); (try (refine gate_guard (by rfl) ?_; dsimp only)); refine box_event ?hg (N := 4) ?hd (cs := #[.string (⟨#[]⟩ : ByteArray), .int .u8 0, .slice none 0 0]) (t := 41) ?hr ?_; (case hd => rfl); (case hg => rfl); (case hr => first | (go_simp; done) | (go_simp; rfl)); intro gb278 hg w19 hbox hb; have n0_ := Aside0.mk (below_step (by repeat (first | (with_reducible first | exact HB.out | apply below_alloc | apply pw_below_drewN | apply below_drew1) | exact HB.out)) hb); have n1_ := Aside0.mk (hbox); have n2_ := Aside0.mk ((by rw [hg]; exact (below_size (by repeat (first | (with_reducible first | exact HB.out | apply below_alloc | apply pw_below_drewN | apply below_drew1) | exact HB.out))) : w.heap.size ≤ gb278)); have n3_ := Aside0.mk ((by rw [hg]; exact (below_size (by repeat (first | (with_reducible first | exact HB.out | apply below_alloc | apply pw_below_drewN | apply below_drew1) | exact HB.out))) : w.heap.size ≤ gb278)); clear HB; have HB := n0_; have BK278 := n1_; have GW278 := n2_; have GE278 := n3_; clear n0_ n1_ n2_ n3_; clear hb hbox hg; have hcz20_0 : w19.cell? ⟨gb278, 0, none⟩ = some (.string (⟨#[]⟩ : ByteArray)) := (blk_cell BK278.out 0).trans rfl; have hcz20_1 : w19.cell? ⟨gb278, 1, none⟩ = some (.int .u8 0) := (blk_cell BK278.out 1).trans rfl; have hcz20_2 : w19.cell? ⟨gb278, 2, none⟩ = some (.slice none 0 0) := (blk_cell BK278.out 2).trans rfl; have hfz20_0 := blk_frozen BK278.out 0; have hfz20_1 := blk_frozen BK278.out 1; have hfz20_2 := blk_frozen BK278.out 2) | (go_at_call 28; (with_reducible refine (rf07_Literal.calls k1 ((rd_T41 l0 x3_1).f0) true _ A6.out).mono ?_); rintro e w21 ⟨rfl, hb⟩; have n0_ := Aside0.mk (blk_below (g := gb278) (o := .cells #[.string ((rd_T41 l0 x3_1).f0), .int .u8 ((rd_T41 l0 x3_1).f1), .slice A277_2 ((rd_T41 l0 x3_1).f2).length c277_2] 41 (0, 0)) (by (with_reducible repeat (first | refine blk_drewN ?_ _ | refine blk_drew ?_ | refine blk_alloc ?_ _)); refine blk_put (cs := #[.string ((rd_T41 l0 x3_1).f0), .int .u8 ((rd_T41 l0 x3_1).f1), .slice none 0 0]) ?_ 2 _ rfl; (with_reducible repeat (first | refine blk_drewN ?_ _ | refine blk_drew ?_ | refine blk_alloc ?_ _)); refine blk_put (cs := #[.string ((rd_T41 l0 x3_1).f0), .int .u8 0, .slice none 0 0]) ?_ 1 _ rfl; (with_reducible repeat (first | refine blk_drewN ?_ _ | refine blk_drew ?_ | refine blk_alloc ?_ _)); refine blk_put (cs := #[.string (⟨#[]⟩ : ByteArray), .int .u8 0, .slice none 0 0]) ?_ 0 _ rfl; (with_reducible repeat (first | refine blk_drewN ?_ _ | refine blk_drew ?_ | refine blk_alloc ?_ _)); exact BK278.out) hb); have n1_ := Aside0.mk (below_step (by repeat (first | (with_reducible first | exact HB.out | apply below_alloc | apply pw_below_drewN | apply below_drew1 | refine below_set ?_ GE278.out) | exact HB.out)) hb); clear BK278; clear HB; have BK278 := n0_; have HB := n1_; clear n0_ n1_; (try clear hb); (try clear hb2); (try clear hk); (try clear hi)))
               go_roundg k1
               case measure => have := HK1.out; omega
               case rel => exact ⟨(wrap64 (x3_1 + 1)), (by first | rfl | (simp; done) | (simp [*]; done)), H', ⟨by have := HK1.out; omega⟩, ⟨by repeat (first | (with_reducible first | exact HB.out | apply below_alloc | apply pw_below_drewN | apply below_drew1 | refine below_set ?_ GE278.out) | exact HB.out)⟩⟩
           · replace c7 := Bool.eq_false_iff.mpr c7
             subst c7
             have H1 : (some false) = some r := by rw [if_neg (show ¬ (false = true) by decide)] at H; exact H
             clear H
             have H := H1
             clear H1
             obtain rfl := Option.some.inj H
             have p277 : 0 ≤ (x3_1 : Int) := of_decide_eq_true (by first | (with_reducible assumption) | assumption)
             have q277 : x3_1 < (l0.length : Int) := of_decide_eq_true (by first | (with_reducible assumption) | assumption)
             obtain ⟨ad277, A277_2, c277_2, e277, hx277_0, hx277_1, hx277_2, hl277_2, hi277_2⟩ := at_T41 HR0.out x3_1 p277 q277
             cases e277
             replace hx277_0 := (HB.out.cell (World.block_lt_of_cell? w _ hx277_0)).trans hx277_0
             replace hx277_1 := (HB.out.cell (World.block_lt_of_cell? w _ hx277_1)).trans hx277_1
             replace hx277_2 := (HB.out.cell (World.block_lt_of_cell? w _ hx277_2)).trans hx277_2
             have HR277_2 := Aside0.mk hi277_2
             have HC277_2 := Aside0.mk hl277_2
             clear hi277_2 hl277_2
             replace p277 := eq_true p277
             replace q277 := eq_true q277
             go_wp2_with (first | ((with_reducible refine gate_dst (N := 4) rfl ?_); (try (refine gate_guard (by rfl) ?_; dsimp only)); refine box_event ?hg (N := 4) ?hd (cs := #[.string (⟨#[]⟩ : ByteArray), .int .u8 0, .slice none 0 0]) (t := 41) ?hr ?_; (case hd => rfl); (case hg => rfl); (case hr => first | (go_simp; done) | (go_simp; rfl)); intro gb278 hg w22 hbox hb; have n0_ := Aside0.mk (below_step (by repeat (first | (with_reducible first | exact HB.out | apply below_alloc | apply pw_below_drewN | apply below_drew1) | exact HB.out)) hb); have n1_ := Aside0.mk (hbox); have n2_ := Aside0.mk ((by rw [hg]; exact (below_size (by repeat (first | (with_reducible first | exact HB.out | apply below_alloc | apply pw_below_drewN | apply below_drew1) | exact HB.out))) : w.heap.size ≤ gb278)); have n3_ := Aside0.mk ((by rw [hg]; exact (below_size (by repeat (first | (with_reducible first | exact HB.out | apply below_alloc | apply pw_below_drewN | apply below_drew1) | exact HB.out))) : w.heap.size ≤ gb278)); clear HB; have HB := n0_; have BK278 := n1_; have GW278 := n2_; have GE278 := n3_; clear n0_ n1_ n2_ n3_; clear hb hbox hg; have hcz23_0 : w22.cell? ⟨gb278, 0, none⟩ = some (.string (⟨#[]⟩ : ByteArray)) := (blk_cell BK278.out 0).trans rfl; have hcz23_1 : w22.cell? ⟨gb278, 1, none⟩ = some (.int .u8 0) := (blk_cell BK278.out 1).trans rfl; have hcz23_2 : w22.cell? ⟨gb278, 2, none⟩ = some (.slice none 0 0) := (blk_cell BK278.out 2).trans rfl; have hfz23_0 := blk_frozen BK278.out 0; have hfz23_1 := blk_frozen BK278.out 1; have hfz23_2 := blk_frozen BK278.out 2) | (go_at_call 28; (with_reducible refine (rf07_Literal.calls k1 ((rd_T41 l0 x3_1).f0) false _ A6.out).mono ?_); rintro e w24 ⟨rfl, hb⟩; have n0_ := Aside0.mk (blk_below (g := gb278) (o := .cells #[.string ((rd_T41 l0 x3_1).f0), .int .u8 ((rd_T41 l0 x3_1).f1), .slice A277_2 ((rd_T41 l0 x3_1).f2).length c277_2] 41 (0, 0)) (by (with_reducible repeat (first | refine blk_drewN ?_ _ | refine blk_drew ?_ | refine blk_alloc ?_ _)); refine blk_put (cs := #[.string ((rd_T41 l0 x3_1).f0), .int .u8 ((rd_T41 l0 x3_1).f1), .slice none 0 0]) ?_ 2 _ rfl; (with_reducible repeat (first | refine blk_drewN ?_ _ | refine blk_drew ?_ | refine blk_alloc ?_ _)); refine blk_put (cs := #[.string ((rd_T41 l0 x3_1).f0), .int .u8 0, .slice none 0 0]) ?_ 1 _ rfl; (with_reducible repeat (first | refine blk_drewN ?_ _ | refine blk_drew ?_ | refine blk_alloc ?_ _)); refine blk_put (cs := #[.string (⟨#[]⟩ : ByteArray), .int .u8 0, .slice none 0 0]) ?_ 0 _ rfl; (with_reducible repeat (first | refine blk_drewN ?_ _ | refine blk_drew ?_ | refine blk_alloc ?_ _)); exact BK278.out) hb); have n1_ := Aside0.mk (below_step (by repeat (first | (with_reducible first | exact HB.out | apply below_alloc | apply pw_below_drewN | apply below_drew1 | refine below_set ?_ GE278.out) | exact HB.out)) hb); clear BK278; clear HB; have BK278 := n0_; have HB := n1_; clear n0_ n1_; (try clear hb); (try clear hb2); (try clear hk); (try clear hi)))
             go_ret
             exact ⟨by first | rfl | (simp [errW_none, errW_some] <;> rfl) | (simp [*, errW_none, errW_some] <;> rfl), by repeat (first | (with_reducible first | exact HB.out | apply below_alloc | apply pw_below_drewN | apply below_drew1 | refine below_set ?_ GE278.out) | exact HB.out)⟩
         · rw [if_neg c5] at H
           have c5b0 : (((rd_T41 l0 x3_1).f1) == 0) = false := beq_eq_false_iff_ne.mpr c5
           have c5b1 : (((rd_T41 l0 x3_1).f1) != 0) = true := bne_iff_ne.mpr c5
           obtain rfl := Option.some.inj H
           have p277 : 0 ≤ (x3_1 : Int) := of_decide_eq_true (by first | (with_reducible assumption) | assumption)
           have q277 : x3_1 < (l0.length : Int) := of_decide_eq_true (by first | (with_reducible assumption) | assumption)
           obtain ⟨ad277, A277_2, c277_2, e277, hx277_0, hx277_1, hx277_2, hl277_2, hi277_2⟩ := at_T41 HR0.out x3_1 p277 q277
           cases e277
           replace hx277_0 := (HB.out.cell (World.block_lt_of_cell? w _ hx277_0)).trans hx277_0
           replace hx277_1 := (HB.out.cell (World.block_lt_of_cell? w _ hx277_1)).trans hx277_1
           replace hx277_2 := (HB.out.cell (World.block_lt_of_cell? w _ hx277_2)).trans hx277_2
           have HR277_2 := Aside0.mk hi277_2
           have HC277_2 := Aside0.mk hl277_2
           clear hi277_2 hl277_2
           replace p277 := eq_true p277
           replace q277 := eq_true q277
           go_wp2_with (first | ((with_reducible refine gate_dst (N := 4) rfl ?_); (try (refine gate_guard (by rfl) ?_; dsimp only)); refine box_event ?hg (N := 4) ?hd (cs := #[.string (⟨#[]⟩ : ByteArray), .int .u8 0, .slice none 0 0]) (t := 41) ?hr ?_; (case hd => rfl); (case hg => rfl); (case hr => first | (go_simp; done) | (go_simp; rfl)); intro gb278 hg w25 hbox hb; have n0_ := Aside0.mk (below_step (by repeat (first | (with_reducible first | exact HB.out | apply below_alloc | apply pw_below_drewN | apply below_drew1) | exact HB.out)) hb); have n1_ := Aside0.mk (hbox); have n2_ := Aside0.mk ((by rw [hg]; exact (below_size (by repeat (first | (with_reducible first | exact HB.out | apply below_alloc | apply pw_below_drewN | apply below_drew1) | exact HB.out))) : w.heap.size ≤ gb278)); have n3_ := Aside0.mk ((by rw [hg]; exact (below_size (by repeat (first | (with_reducible first | exact HB.out | apply below_alloc | apply pw_below_drewN | apply below_drew1) | exact HB.out))) : w.heap.size ≤ gb278)); clear HB; have HB := n0_; have BK278 := n1_; have GW278 := n2_; have GE278 := n3_; clear n0_ n1_ n2_ n3_; clear hb hbox hg; have hcz26_0 : w25.cell? ⟨gb278, 0, none⟩ = some (.string (⟨#[]⟩ : ByteArray)) := (blk_cell BK278.out 0).trans rfl; have hcz26_1 : w25.cell? ⟨gb278, 1, none⟩ = some (.int .u8 0) := (blk_cell BK278.out 1).trans rfl; have hcz26_2 : w25.cell? ⟨gb278, 2, none⟩ = some (.slice none 0 0) := (blk_cell BK278.out 2).trans rfl; have hfz26_0 := blk_frozen BK278.out 0; have hfz26_1 := blk_frozen BK278.out 1; have hfz26_2 := blk_frozen BK278.out 2))
           go_ret
           exact ⟨by first | rfl | (simp [errW_none, errW_some] <;> rfl) | (simp [*, errW_none, errW_some] <;> rfl), by repeat (first | (with_reducible first | exact HB.out | apply below_alloc | apply pw_below_drewN | apply below_drew1 | refine below_set ?_ GE278.out) | exact HB.out)⟩
       · rw [if_neg c4] at H
         have c4b0 : ((((rd_T41 l0 x3_1).f2).length : Int) == 0) = false := beq_eq_false_iff_ne.mpr c4
         have c4b1 : ((((rd_T41 l0 x3_1).f2).length : Int) != 0) = true := bne_iff_ne.mpr c4
         have c4b2 : ¬ (((rd_T41 l0 x3_1).f2) = []) := fun h_ => c4 (by rw [h_]; rfl)
         have HC27 := Aside0.mk H
         clear H
         have p277 : 0 ≤ (x3_1 : Int) := of_decide_eq_true (by first | (with_reducible assumption) | assumption)
         have q277 : x3_1 < (l0.length : Int) := of_decide_eq_true (by first | (with_reducible assumption) | assumption)
         obtain ⟨ad277, A277_2, c277_2, e277, hx277_0, hx277_1, hx277_2, hl277_2, hi277_2⟩ := at_T41 HR0.out x3_1 p277 q277
         cases e277
         replace hx277_0 := (HB.out.cell (World.block_lt_of_cell? w _ hx277_0)).trans hx277_0
         replace hx277_1 := (HB.out.cell (World.block_lt_of_cell? w _ hx277_1)).trans hx277_1
         replace hx277_2 := (HB.out.cell (World.block_lt_of_cell? w _ hx277_2)).trans hx277_2
         have HR277_2 := Aside0.mk hi277_2
         have HC277_2 := Aside0.mk hl277_2
         clear hi277_2 hl277_2
         replace p277 := eq_true p277
         replace q277 := eq_true q277
         go_upto_region 8 with (first | ((with_reducible refine gate_dst (N := 4) rfl ?_); (try (refine gate_guard (by rfl) ?_; dsimp only)); refine box_event ?hg (N := 4) ?hd (cs := #[.string (⟨#[]⟩ : ByteArray), .int .u8 0, .slice none 0 0]) (t := 41) ?hr ?_; (case hd => rfl); (case hg => rfl); (case hr => first | (go_simp; done) | (go_simp; rfl)); intro gb278 hg w28 hbox hb; have n0_ := Aside0.mk (below_step (by repeat (first | (with_reducible first | exact HB.out | apply below_alloc | apply pw_below_drewN | apply below_drew1) | exact HB.out)) hb); have n1_ := Aside0.mk (hbox); have n2_ := Aside0.mk ((by rw [hg]; exact (below_size (by repeat (first | (with_reducible first | exact HB.out | apply below_alloc | apply pw_below_drewN | apply below_drew1) | exact HB.out))) : w.heap.size ≤ gb278)); have n3_ := Aside0.mk ((by rw [hg]; exact (below_size (by repeat (first | (with_reducible first | exact HB.out | apply below_alloc | apply pw_below_drewN | apply below_drew1) | exact HB.out))) : w.heap.size ≤ gb278)); clear HB; have HB := n0_; have BK278 := n1_; have GW278 := n2_; have GE278 := n3_; clear n0_ n1_ n2_ n3_; clear hb hbox hg; have hcz29_0 : w28.cell? ⟨gb278, 0, none⟩ = some (.string (⟨#[]⟩ : ByteArray)) := (blk_cell BK278.out 0).trans rfl; have hcz29_1 : w28.cell? ⟨gb278, 1, none⟩ = some (.int .u8 0) := (blk_cell BK278.out 1).trans rfl; have hcz29_2 : w28.cell? ⟨gb278, 2, none⟩ = some (.slice none 0 0) := (blk_cell BK278.out 2).trans rfl; have hfz29_0 := blk_frozen BK278.out 0; have hfz29_1 := blk_frozen BK278.out 1; have hfz29_2 := blk_frozen BK278.out 2))
         (try simp only [Act.put, List.setIfInBounds_toArray, List.set_cons_zero, List.set_cons_succ])
         go_cut [51] (fun v51 wc => ∃ (kq : Nat) (x51_26 : Bool), v51 = .bool x51_26 ∧ Aside0 (rf07_May.j1 kq l0 x3_1 x51_26 ((rd_T41 l0 x3_1).f0) ((rd_T41 l0 x3_1).f1) ((rd_T41 l0 x3_1).f2) = some r) ∧ Aside0 (kq ≤ k1) ∧ Aside0 (wc.heap[gb278]? = some (.cells #[.string ((rd_T41 l0 x3_1).f0), .int .u8 ((rd_T41 l0 x3_1).f1), (.slice A277_2 ((rd_T41 l0 x3_1).f2).length c277_2)] 41 (0, 0))) ∧ Aside0 (Below w.heap.size w wc))
         case first =>
          have H := HC27.out
          clear HC27
          by_cases c30 : ((rd_T41 l0 x3_1).f0).toList = ([] : List UInt8)
          · rw [if_pos c30] at H
            have c30b0 : (((rd_T41 l0 x3_1).f0).toList == ([] : List UInt8)) = true := beq_iff_eq.mpr c30
            have c30b1 : (((rd_T41 l0 x3_1).f0).toList != ([] : List UInt8)) = false := bne_eq_false_iff_eq.mpr c30
            clear c30
            (first | rw [c30b0] | (simp only [i64_w, i32_w]; rw [c30b0]) | skip)
            replace H := Option.bind_eq_some_iff.mp H
            obtain ⟨t281, A310, H⟩ := H
            replace H : (rf07_May.j1 k1 l0 x3_1 (!t281) ((rd_T41 l0 x3_1).f0) ((rd_T41 l0 x3_1).f1) ((rd_T41 l0 x3_1).f2)) = some r := H
            have A31 := Aside0.mk A310
            clear A310
            have H' := Aside0.mk H
            clear H
            have hcz32_0 : w28.cell? ⟨gb278, 0, none⟩ = some (.string (⟨#[]⟩ : ByteArray)) := (blk_cell BK278.out 0).trans rfl
            have hcz32_1 : w28.cell? ⟨gb278, 1, none⟩ = some (.int .u8 0) := (blk_cell BK278.out 1).trans rfl
            have hcz32_2 : w28.cell? ⟨gb278, 2, none⟩ = some (.slice none 0 0) := (blk_cell BK278.out 2).trans rfl
            have hfz32_0 := blk_frozen BK278.out 0
            have hfz32_1 := blk_frozen BK278.out 1
            have hfz32_2 := blk_frozen BK278.out 2
            go_wp2_with (first | (go_at_call 20; (with_reducible refine (rf07_Operator.calls k1 ((rd_T41 l0 x3_1).f1) t281 _ A31.out).mono ?_); rintro e w' ⟨rfl, ⟨nd, rfl⟩⟩))
            go_meet
            case rel => exact ⟨_, (!t281), (by first | rfl | (simp; done) | (simp [*]; done)), H', ⟨by have := HK1.out; first | omega | exact Nat.le_refl _⟩, ⟨by (with_reducible repeat (first | refine blk_drewN ?_ _ | refine blk_drew ?_ | refine blk_alloc ?_ _)); refine blk_put (cs := #[.string ((rd_T41 l0 x3_1).f0), .int .u8 ((rd_T41 l0 x3_1).f1), .slice none 0 0]) ?_ 2 _ rfl; (with_reducible repeat (first | refine blk_drewN ?_ _ | refine blk_drew ?_ | refine blk_alloc ?_ _)); refine blk_put (cs := #[.string ((rd_T41 l0 x3_1).f0), .int .u8 0, .slice none 0 0]) ?_ 1 _ rfl; (with_reducible repeat (first | refine blk_drewN ?_ _ | refine blk_drew ?_ | refine blk_alloc ?_ _)); refine blk_put (cs := #[.string (⟨#[]⟩ : ByteArray), .int .u8 0, .slice none 0 0]) ?_ 0 _ rfl; (with_reducible repeat (first | refine blk_drewN ?_ _ | refine blk_drew ?_ | refine blk_alloc ?_ _)); exact BK278.out⟩, ⟨by repeat (first | (with_reducible first | exact HB.out | apply below_alloc | apply pw_below_drewN | apply below_drew1 | refine below_set ?_ GE278.out) | exact HB.out)⟩⟩
          · rw [if_neg c30] at H
            have c30b0 : (((rd_T41 l0 x3_1).f0).toList == ([] : List UInt8)) = false := beq_eq_false_iff_ne.mpr c30
            have c30b1 : (((rd_T41 l0 x3_1).f0).toList != ([] : List UInt8)) = true := bne_iff_ne.mpr c30
            (first | rw [c30b0] | (simp only [i64_w, i32_w]; rw [c30b0]) | skip)
            have H' := Aside0.mk H
            clear H
            have hcz33_0 : w28.cell? ⟨gb278, 0, none⟩ = some (.string (⟨#[]⟩ : ByteArray)) := (blk_cell BK278.out 0).trans rfl
            have hcz33_1 : w28.cell? ⟨gb278, 1, none⟩ = some (.int .u8 0) := (blk_cell BK278.out 1).trans rfl
            have hcz33_2 : w28.cell? ⟨gb278, 2, none⟩ = some (.slice none 0 0) := (blk_cell BK278.out 2).trans rfl
            have hfz33_0 := blk_frozen BK278.out 0
            have hfz33_1 := blk_frozen BK278.out 1
            have hfz33_2 := blk_frozen BK278.out 2
            go_wp2
            go_meet
            case rel => exact ⟨_, (true), (by first | rfl | (simp; done) | (simp [*]; done)), H', ⟨by have := HK1.out; first | omega | exact Nat.le_refl _⟩, ⟨by (with_reducible repeat (first | refine blk_drewN ?_ _ | refine blk_drew ?_ | refine blk_alloc ?_ _)); refine blk_put (cs := #[.string ((rd_T41 l0 x3_1).f0), .int .u8 ((rd_T41 l0 x3_1).f1), .slice none 0 0]) ?_ 2 _ rfl; (with_reducible repeat (first | refine blk_drewN ?_ _ | refine blk_drew ?_ | refine blk_alloc ?_ _)); refine blk_put (cs := #[.string ((rd_T41 l0 x3_1).f0), .int .u8 0, .slice none 0 0]) ?_ 1 _ rfl; (with_reducible repeat (first | refine blk_drewN ?_ _ | refine blk_drew ?_ | refine blk_alloc ?_ _)); refine blk_put (cs := #[.string (⟨#[]⟩ : ByteArray), .int .u8 0, .slice none 0 0]) ?_ 0 _ rfl; (with_reducible repeat (first | refine blk_drewN ?_ _ | refine blk_drew ?_ | refine blk_alloc ?_ _)); exact BK278.out⟩, ⟨by repeat (first | (with_reducible first | exact HB.out | apply below_alloc | apply pw_below_drewN | apply below_drew1 | refine below_set ?_ GE278.out) | exact HB.out)⟩⟩
         case rest =>
          clear HC27
          try clear c1
          try clear c2
          try clear c2b0
          try clear p2
          try clear q2
          try clear hx2
          try clear c3
          try clear c3b0
          try clear c4
          try clear c4b0
          try clear c4b1
          try clear c4b2
          try clear c5
          try clear c5b0
          try clear c5b1
          try clear p6
          try clear c7
          try clear c8
          try clear c8b0
          try clear c10
          try clear c10b0
          try clear c11
          try clear c11b0
          try clear c12
          try clear c12b0
          try clear c12b1
          try clear c12b2
          try clear c27
          try clear p27
          try clear q27
          try clear hx27
          try clear c28
          try clear p28
          try clear q28
          try clear hx28
          try clear c30
          try clear c30b0
          try clear c30b1
          try clear hcz14_0
          try clear hcz14_1
          try clear hcz14_2
          try clear hcz17_0
          try clear hcz17_1
          try clear hcz17_2
          try clear hcz20_0
          try clear hcz20_1
          try clear hcz20_2
          try clear hcz23_0
          try clear hcz23_1
          try clear hcz23_2
          try clear hcz26_0
          try clear hcz26_1
          try clear hcz26_2
          try clear hcz29_0
          try clear hcz29_1
          try clear hcz29_2
          try clear hcz32_0
          try clear hcz32_1
          try clear hcz32_2
          try clear hcz33_0
          try clear hcz33_1
          try clear hcz33_2
          try clear hfz14_0
          try clear hfz14_1
          try clear hfz14_2
          try clear hfz17_0
          try clear hfz17_1
          try clear hfz17_2
          try clear hfz20_0
          try clear hfz20_1
          try clear hfz20_2
          try clear hfz23_0
          try clear hfz23_1
          try clear hfz23_2
          try clear hfz26_0
          try clear hfz26_1
          try clear hfz26_2
          try clear hfz29_0
          try clear hfz29_1
          try clear hfz29_2
          try clear hfz32_0
          try clear hfz32_1
          try clear hfz32_2
          try clear hfz33_0
          try clear hfz33_1
          try clear hfz33_2
          try clear hx277_0
          try clear hx277_1
          try clear hx277_2
          try clear hx280_0
          try clear hx280_1
          try clear hx280_2
          try clear p277
          try clear p280
          try clear q277
          try clear q280
          obtain ⟨kq, x51_26, rfl, HA, HJ26, BK278, HB⟩ := hcut
          cases kq with
          | zero => exact absurd HA.out (by simp [rf07_May.j1])
          | succ kj26 =>
           have H := HA.out
           clear HA
           simp only [rf07_May.j1] at H
           by_cases c34 : x51_26 = true
           · subst c34
             have H1 : (some false) = some r := by rw [if_pos rfl] at H; exact H
             clear H
             have H := H1
             clear H1
             obtain rfl := Option.some.inj H
             go_wp2
             go_ret
             exact ⟨by first | rfl | (simp [errW_none, errW_some] <;> rfl) | (simp [*, errW_none, errW_some] <;> rfl), by repeat (first | (with_reducible first | exact HB.out | apply below_alloc | apply pw_below_drewN | apply below_drew1 | refine below_set ?_ GE278.out) | exact HB.out)⟩
           · replace c34 := Bool.eq_false_iff.mpr c34
             subst c34
             have H1 : (rf07_May.l1 kj26 l0 x3_1 0 ((rd_T41 l0 x3_1).f0) ((rd_T41 l0 x3_1).f1) ((rd_T41 l0 x3_1).f2)) = some r := by rw [if_neg (show ¬ (false = true) by decide)] at H; exact H
             clear H
             have H := H1
             clear H1
             have H' := Aside0.mk H
             clear H
             go_wp2
             go_loopg [5] kj26 (fun kq v5 w' => ∃ (x5_3 : Int), v5 = .int .i64 x5_3 ∧ Aside0 (rf07_May.l1 kq l0 x3_1 x5_3 ((rd_T41 l0 x3_1).f0) ((rd_T41 l0 x3_1).f1) ((rd_T41 l0 x3_1).f2) = some r) ∧ Aside0 (kq ≤ kj26) ∧ Aside0 (w'.heap[gb278]? = some (.cells #[.string ((rd_T41 l0 x3_1).f0), .int .u8 ((rd_T41 l0 x3_1).f1), (.slice A277_2 ((rd_T41 l0 x3_1).f2).length c277_2)] 41 (0, 0))) ∧ Aside0 (Below w.heap.size w w'))
             case atStart => exact ⟨(0), (by first | rfl | (simp; done) | (simp [*]; done)), H', ⟨Nat.le_refl _⟩, ⟨by (with_reducible repeat (first | refine blk_drewN ?_ _ | refine blk_drew ?_ | refine blk_alloc ?_ _)); exact BK278.out⟩, ⟨by repeat (first | (with_reducible first | exact HB.out | apply below_alloc | apply pw_below_drewN | apply below_drew1 | refine below_set ?_ GE278.out) | exact HB.out)⟩⟩
             case round =>
              clear H'
              try clear c1
              try clear c2
              try clear c2b0
              try clear p2
              try clear q2
              try clear hx2
              try clear c3
              try clear c3b0
              try clear c4
              try clear c4b0
              try clear c4b1
              try clear c4b2
              try clear c5
              try clear c5b0
              try clear c5b1
              try clear p6
              try clear c7
              try clear c8
              try clear c8b0
              try clear c10
              try clear c10b0
              try clear c11
              try clear c11b0
              try clear c12
              try clear c12b0
              try clear c12b1
              try clear c12b2
              try clear c27
              try clear p27
              try clear q27
              try clear hx27
              try clear c28
              try clear p28
              try clear q28
              try clear hx28
              try clear c30
              try clear c30b0
              try clear c30b1
              try clear c34
              try clear hcz14_0
              try clear hcz14_1
              try clear hcz14_2
              try clear hcz17_0
              try clear hcz17_1
              try clear hcz17_2
              try clear hcz20_0
              try clear hcz20_1
              try clear hcz20_2
              try clear hcz23_0
              try clear hcz23_1
              try clear hcz23_2
              try clear hcz26_0
              try clear hcz26_1
              try clear hcz26_2
              try clear hcz29_0
              try clear hcz29_1
              try clear hcz29_2
              try clear hcz32_0
              try clear hcz32_1
              try clear hcz32_2
              try clear hcz33_0
              try clear hcz33_1
              try clear hcz33_2
              try clear hfz14_0
              try clear hfz14_1
              try clear hfz14_2
              try clear hfz17_0
              try clear hfz17_1
              try clear hfz17_2
              try clear hfz20_0
              try clear hfz20_1
              try clear hfz20_2
              try clear hfz23_0
              try clear hfz23_1
              try clear hfz23_2
              try clear hfz26_0
              try clear hfz26_1
              try clear hfz26_2
              try clear hfz29_0
              try clear hfz29_1
              try clear hfz29_2
              try clear hfz32_0
              try clear hfz32_1
              try clear hfz32_2
              try clear hfz33_0
              try clear hfz33_1
              try clear hfz33_2
              try clear hx277_0
              try clear hx277_1
              try clear hx277_2
              try clear hx280_0
              try clear hx280_1
              try clear hx280_2
              try clear p2
              try clear p27
              try clear p277
              try clear p28
              try clear p280
              try clear p6
              try clear q2
              try clear q27
              try clear q277
              try clear q28
              try clear q280
              obtain ⟨x5_3, rfl, HA, HK3, BK278, HB⟩ := hrel
              cases gk with
              | zero => exact absurd HA.out (by simp [rf07_May.l1])
              | succ k3 =>
               have H := HA.out
               clear HA
               simp only [rf07_May.l1] at H
               by_cases c35 : x5_3 < (((rd_T41 l0 x3_1).f2).length : Int)
               · rw [if_pos c35] at H
                 have c35b0 : decide (x5_3 < (((rd_T41 l0 x3_1).f2).length : Int)) = true := decide_eq_true c35
                 clear c35
                 by_cases c36 : 0 ≤ x5_3
                 · rw [if_pos c36] at H
                   have c36b0 : decide (0 ≤ x5_3) = true := decide_eq_true c36
                   clear c36
                   replace H := Option.bind_eq_some_iff.mp H
                   obtain ⟨t283, A370, H⟩ := H
                   replace H : (if t283 = true then (rf07_May.l1 k3 l0 x3_1 (wrap64 (x5_3 + 1)) ((rd_T41 l0 x3_1).f0) ((rd_T41 l0 x3_1).f1) ((rd_T41 l0 x3_1).f2)) else (some false)) = some r := H
                   have A37 := Aside0.mk A370
                   clear A370
                   by_cases c38 : t283 = true
                   · subst c38
                     have H1 : (rf07_May.l1 k3 l0 x3_1 (wrap64 (x5_3 + 1)) ((rd_T41 l0 x3_1).f0) ((rd_T41 l0 x3_1).f1) ((rd_T41 l0 x3_1).f2)) = some r := by rw [if_pos rfl] at H; exact H
                     clear H
                     have H := H1
                     clear H1
                     have H' := Aside0.mk H
                     clear H
                     have hcz39_0 : wr.cell? ⟨gb278, 0, none⟩ = some (.string ((rd_T41 l0 x3_1).f0)) := (blk_cell BK278.out 0).trans rfl
                     have hcz39_1 : wr.cell? ⟨gb278, 1, none⟩ = some (.int .u8 ((rd_T41 l0 x3_1).f1)) := (blk_cell BK278.out 1).trans rfl
                     have hcz39_2 : wr.cell? ⟨gb278, 2, none⟩ = some (.slice A277_2 ((rd_T41 l0 x3_1).f2).length c277_2) := (blk_cell BK278.out 2).trans rfl
                     have hfz39_0 := blk_frozen BK278.out 0
                     have hfz39_1 := blk_frozen BK278.out 1
                     have hfz39_2 := blk_frozen BK278.out 2
                     have p282 : 0 ≤ (x5_3 : Int) := of_decide_eq_true (by first | (with_reducible assumption) | assumption)
                     have q282 : x5_3 < (((rd_T41 l0 x3_1).f2).length : Int) := of_decide_eq_true (by first | (with_reducible assumption) | assumption)
                     obtain ⟨ad282, e282, hx282_0, hx282_1, hx282_2⟩ := at_T43 HR277_2.out x5_3 p282 q282
                     cases e282
                     replace hx282_0 := (HB.out.cell (World.block_lt_of_cell? w _ hx282_0)).trans hx282_0
                     replace hx282_1 := (HB.out.cell (World.block_lt_of_cell? w _ hx282_1)).trans hx282_1
                     replace hx282_2 := (HB.out.cell (World.block_lt_of_cell? w _ hx282_2)).trans hx282_2
                     replace p282 := eq_true p282
                     replace q282 := eq_true q282
                     go_wp2_with (first | ((with_reducible refine gate_callee (f := 29) rfl ?_); refine goesL_ (some 64) rfl rfl Tryz.func29 (by kernel_rfl) rfl #[.agg #[.string ((rd_T43 ((rd_T41 l0 x3_1).f2) x5_3).f0), .int .i64 ((rd_T43 ((rd_T41 l0 x3_1).f2) x5_3).f1), .bool ((rd_T43 ((rd_T41 l0 x3_1).f2) x5_3).f2)]] rfl (by (try simp only [List.map_toArray, List.map_cons, List.map_nil]); first | done | rfl | (simp only [List.length_drop, List.length_take]; rfl)) ?_; (with_reducible refine (rf06_May.calls k3 ((rd_T43 ((rd_T41 l0 x3_1).f2) x5_3).f0) ((rd_T43 ((rd_T41 l0 x3_1).f2) x5_3).f1) ((rd_T43 ((rd_T41 l0 x3_1).f2) x5_3).f2) true _ A37.out).mono ?_); rintro e w40 ⟨rfl, hb⟩; refine ⟨_, rfl, ?_⟩; have n0_ := Aside0.mk (blk_below (g := gb278) (o := .cells #[.string ((rd_T41 l0 x3_1).f0), .int .u8 ((rd_T41 l0 x3_1).f1), .slice (some ad282) ((rd_T41 l0 x3_1).f2).length c277_2] 41 (0, 0)) (by (with_reducible repeat (first | refine blk_drewN ?_ _ | refine blk_drew ?_ | refine blk_alloc ?_ _)); exact BK278.out) hb); have n1_ := Aside0.mk (below_step (by repeat (first | (with_reducible first | exact HB.out | apply below_alloc | apply pw_below_drewN | apply below_drew1 | refine below_set ?_ GE278.out) | exact HB.out)) hb); clear BK278; clear HB; have BK278 := n0_; have HB := n1_; clear n0_ n1_; (try clear hb); (try clear hb2); (try clear hk); (try clear hi)))
                     go_roundg k3
                     case measure => have := HK1.out; have := HJ26.out; have := HK3.out; omega
                     case rel => exact ⟨(wrap64 (x5_3 + 1)), (by first | rfl | (simp; done) | (simp [*]; done)), H', ⟨by have := HK1.out; have := HJ26.out; have := HK3.out; omega⟩, ⟨by (with_reducible repeat (first | refine blk_drewN ?_ _ | refine blk_drew ?_ | refine blk_alloc ?_ _)); exact BK278.out⟩, ⟨by repeat (first | (with_reducible first | exact HB.out | apply below_alloc | apply pw_below_drewN | apply below_drew1 | refine below_set ?_ GE278.out) | exact HB.out)⟩⟩
                   · replace c38 := Bool.eq_false_iff.mpr c38
                     subst c38
                     have H1 : (some false) = some r := by rw [if_neg (show ¬ (false = true) by decide)] at H; exact H
                     clear H
                     have H := H1
                     clear H1
                     obtain rfl := Option.some.inj H
                     have hcz41_0 : wr.cell? ⟨gb278, 0, none⟩ = some (.string ((rd_T41 l0 x3_1).f0)) := (blk_cell BK278.out 0).trans rfl
                     have hcz41_1 : wr.cell? ⟨gb278, 1, none⟩ = some (.int .u8 ((rd_T41 l0 x3_1).f1)) := (blk_cell BK278.out 1).trans rfl
                     have hcz41_2 : wr.cell? ⟨gb278, 2, none⟩ = some (.slice A277_2 ((rd_T41 l0 x3_1).f2).length c277_2) := (blk_cell BK278.out 2).trans rfl
                     have hfz41_0 := blk_frozen BK278.out 0
                     have hfz41_1 := blk_frozen BK278.out 1
                     have hfz41_2 := blk_frozen BK278.out 2
                     have p282 : 0 ≤ (x5_3 : Int) := of_decide_eq_true (by first | (with_reducible assumption) | assumption)
                     have q282 : x5_3 < (((rd_T41 l0 x3_1).f2).length : Int) := of_decide_eq_true (by first | (with_reducible assumption) | assumption)
                     obtain ⟨ad282, e282, hx282_0, hx282_1, hx282_2⟩ := at_T43 HR277_2.out x5_3 p282 q282
                     cases e282
                     replace hx282_0 := (HB.out.cell (World.block_lt_of_cell? w _ hx282_0)).trans hx282_0
                     replace hx282_1 := (HB.out.cell (World.block_lt_of_cell? w _ hx282_1)).trans hx282_1
                     replace hx282_2 := (HB.out.cell (World.block_lt_of_cell? w _ hx282_2)).trans hx282_2
                     replace p282 := eq_true p282
                     replace q282 := eq_true q282
                     go_wp2_with (first | ((with_reducible refine gate_callee (f := 29) rfl ?_); refine goesL_ (some 64) rfl rfl Tryz.func29 (by kernel_rfl) rfl #[.agg #[.string ((rd_T43 ((rd_T41 l0 x3_1).f2) x5_3).f0), .int .i64 ((rd_T43 ((rd_T41 l0 x3_1).f2) x5_3).f1), .bool ((rd_T43 ((rd_T41 l0 x3_1).f2) x5_3).f2)]] rfl (by (try simp only [List.map_toArray, List.map_cons, List.map_nil]); first | done | rfl | (simp only [List.length_drop, List.length_take]; rfl)) ?_; (with_reducible refine (rf06_May.calls k3 ((rd_T43 ((rd_T41 l0 x3_1).f2) x5_3).f0) ((rd_T43 ((rd_T41 l0 x3_1).f2) x5_3).f1) ((rd_T43 ((rd_T41 l0 x3_1).f2) x5_3).f2) false _ A37.out).mono ?_); rintro e w42 ⟨rfl, hb⟩; refine ⟨_, rfl, ?_⟩; have n0_ := Aside0.mk (blk_below (g := gb278) (o := .cells #[.string ((rd_T41 l0 x3_1).f0), .int .u8 ((rd_T41 l0 x3_1).f1), .slice (some ad282) ((rd_T41 l0 x3_1).f2).length c277_2] 41 (0, 0)) (by (with_reducible repeat (first | refine blk_drewN ?_ _ | refine blk_drew ?_ | refine blk_alloc ?_ _)); exact BK278.out) hb); have n1_ := Aside0.mk (below_step (by repeat (first | (with_reducible first | exact HB.out | apply below_alloc | apply pw_below_drewN | apply below_drew1 | refine below_set ?_ GE278.out) | exact HB.out)) hb); clear BK278; clear HB; have BK278 := n0_; have HB := n1_; clear n0_ n1_; (try clear hb); (try clear hb2); (try clear hk); (try clear hi)))
                     go_ret
                     exact ⟨by first | rfl | (simp [errW_none, errW_some] <;> rfl) | (simp [*, errW_none, errW_some] <;> rfl), by repeat (first | (with_reducible first | exact HB.out | apply below_alloc | apply pw_below_drewN | apply below_drew1 | refine below_set ?_ GE278.out) | exact HB.out)⟩
                 · rw [if_neg c36] at H
                   exact absurd H (by simp)
               · rw [if_neg c35] at H
                 have c35b0 : decide (x5_3 < (((rd_T41 l0 x3_1).f2).length : Int)) = false := decide_eq_false c35
                 clear c35
                 have H' := Aside0.mk H
                 clear H
                 have hcz43_0 : wr.cell? ⟨gb278, 0, none⟩ = some (.string ((rd_T41 l0 x3_1).f0)) := (blk_cell BK278.out 0).trans rfl
                 have hcz43_1 : wr.cell? ⟨gb278, 1, none⟩ = some (.int .u8 ((rd_T41 l0 x3_1).f1)) := (blk_cell BK278.out 1).trans rfl
                 have hcz43_2 : wr.cell? ⟨gb278, 2, none⟩ = some (.slice A277_2 ((rd_T41 l0 x3_1).f2).length c277_2) := (blk_cell BK278.out 2).trans rfl
                 have hfz43_0 := blk_frozen BK278.out 0
                 have hfz43_1 := blk_frozen BK278.out 1
                 have hfz43_2 := blk_frozen BK278.out 2
                 go_wp2
                 go_roundg k3
                 case measure => have := HK1.out; have := HJ26.out; have := HK3.out; omega
                 case rel => exact ⟨(wrap64 (x3_1 + 1)), (by first | rfl | (simp; done) | (simp [*]; done)), H', ⟨by have := HK1.out; have := HJ26.out; have := HK3.out; omega⟩, ⟨by repeat (first | (with_reducible first | exact HB.out | apply below_alloc | apply pw_below_drewN | apply below_drew1 | refine below_set ?_ GE278.out) | exact HB.out)⟩⟩
     · rw [if_neg c3] at H
       exact absurd H (by simp)
   · rw [if_neg c2] at H
     have c2b0 : decide (x3_1 < (l0.length : Int)) = false := decide_eq_false c2
     clear c2
     obtain rfl := Option.some.inj H
     go_wp2
     go_ret
     exact ⟨by first | rfl | (simp [errW_none, errW_some] <;> rfl) | (simp [*, errW_none, errW_some] <;> rfl), by repeat (first | (with_reducible first | exact HB.out | apply below_alloc | apply pw_below_drewN | apply below_drew1) | exact HB.out)⟩
mutual
def rf07_Put.l0 : Nat → List (S41) → ByteArray → Int → Option (ByteArray)
 | 0, _, _, _ => none
 | k + 1, x0, x3, x4 => if x4 < (x0.length : Int) then (if 0 ≤ x4 then (if x3.size + ((rd_T41 x0 x4).f0).size ≤ 9223372036854775807 then (rf07_Put.l1 k x0 (x3 ++ ((rd_T41 x0 x4).f0)) x4 0) else (none)) else (none)) else (some x3)
def rf07_Put.l1 : Nat → List (S41) → ByteArray → Int → Int → Option (ByteArray)
 | 0, _, _, _, _ => none
 | k + 1, x0, x3, x4, x5 => if 0 ≤ x4 then (if x4 < (x0.length : Int) then (if x5 < (((rd_T41 x0 x4).f2).length : Int) then (if x5 = 0 then (if ((rd_T41 x0 x4).f1) = 0 then (if x3.size + 1 ≤ 9223372036854775807 then (if 0 ≤ x5 then ((rf06_Put.f k ((rd_T43 ((rd_T41 x0 x4).f2) x5).f0) ((rd_T43 ((rd_T41 x0 x4).f2) x5).f1) ((rd_T43 ((rd_T41 x0 x4).f2) x5).f2)).bind fun t291 => (if (x3 ++ (⟨#[123]⟩ : ByteArray)).size + t291.size ≤ 9223372036854775807 then (rf07_Put.l1 k x0 ((x3 ++ (⟨#[123]⟩ : ByteArray)) ++ t291) x4 (wrap64 (x5 + 1))) else (none))) else (none)) else (none)) else ((some (([(rd_T41 x0 x4).f1] : List Int) : List Int)).bind fun y293 => (if 1 + (strOfNums y293).size ≤ 9223372036854775807 then (if x3.size + ((⟨#[123]⟩ : ByteArray) ++ (strOfNums y293)).size ≤ 9223372036854775807 then (if 0 ≤ x5 then ((rf06_Put.f k ((rd_T43 ((rd_T41 x0 x4).f2) x5).f0) ((rd_T43 ((rd_T41 x0 x4).f2) x5).f1) ((rd_T43 ((rd_T41 x0 x4).f2) x5).f2)).bind fun t298 => (if (x3 ++ ((⟨#[123]⟩ : ByteArray) ++ (strOfNums y293))).size + t298.size ≤ 9223372036854775807 then (rf07_Put.l1 k x0 ((x3 ++ ((⟨#[123]⟩ : ByteArray) ++ (strOfNums y293))) ++ t298) x4 (wrap64 (x5 + 1))) else (none))) else (none)) else (none)) else (none)))) else (if x3.size + 1 ≤ 9223372036854775807 then (if 0 ≤ x5 then ((rf06_Put.f k ((rd_T43 ((rd_T41 x0 x4).f2) x5).f0) ((rd_T43 ((rd_T41 x0 x4).f2) x5).f1) ((rd_T43 ((rd_T41 x0 x4).f2) x5).f2)).bind fun t301 => (if (x3 ++ (⟨#[44]⟩ : ByteArray)).size + t301.size ≤ 9223372036854775807 then (rf07_Put.l1 k x0 ((x3 ++ (⟨#[44]⟩ : ByteArray)) ++ t301) x4 (wrap64 (x5 + 1))) else (none))) else (none)) else (none))) else (if (((rd_T41 x0 x4).f2).length : Int) > 0 then (if x3.size + 1 ≤ 9223372036854775807 then (rf07_Put.l0 k x0 (x3 ++ (⟨#[125]⟩ : ByteArray)) (wrap64 (x4 + 1))) else (none)) else (rf07_Put.l0 k x0 x3 (wrap64 (x4 + 1))))) else (none)) else (none)
end
def rf07_Put.f (k : Nat) (l0 : List (S41)) : Option (ByteArray) := (rf07_May.f k l0).bind fun t284 => (if t284 = true then (rf07_Put.l0 k l0 (⟨#[]⟩ : ByteArray) 0) else (some (⟨#[]⟩ : ByteArray)))
set_option maxHeartbeats 8000000 in
set_option maxRecDepth 100000 in
theorem rf07_Put.calls (k : Nat) (A0 : Option Addr) (c0 : Nat) (l0 : List (S41)) (r : ByteArray) (w : World) (hr0 : Kd.C k41 w A0 l0.length l0) (hc0 : l0.length ≤ c0) (h : rf07_Put.f k l0 = some r) :
 Calls Tryz.prog 14 #[.slice A0 l0.length c0] w fun e w' => e = .returned (.string r) ∧ Below w.heap.size w w' := by
 have hu43 := Tryz.underlying43
 have HR0 := Aside0.mk hr0
 have HC0 := Aside0.mk hc0
 clear hr0 hc0
 have HB := Aside0.mk (Below.refl w.heap.size w)
 have H : ((rf07_May.f k l0).bind fun t284 => (if t284 = true then (rf07_Put.l0 k l0 (⟨#[]⟩ : ByteArray) 0) else (some (⟨#[]⟩ : ByteArray)))) = some r := h
 clear h
 replace H := Option.bind_eq_some_iff.mp H
 obtain ⟨t284, A20, H⟩ := H
 replace H : (if t284 = true then (rf07_Put.l0 k l0 (⟨#[]⟩ : ByteArray) 0) else (some (⟨#[]⟩ : ByteArray))) = some r := H
 have A2 := Aside0.mk A20
 clear A20
 by_cases c3 : t284 = true
 · subst c3
   have H1 : (rf07_Put.l0 k l0 (⟨#[]⟩ : ByteArray) 0) = some r := by rw [if_pos rfl] at H; exact H
   clear H
   have H := H1
   clear H1
   have H' := Aside0.mk H
   clear H
   go_enter Tryz.func14, Tryz.ntmps14
   go_wp2_with (first | ((with_reducible refine gate_callee (f := 12) rfl ?_); refine goesL_ (some 8) rfl rfl Tryz.func12 (by kernel_rfl) rfl #[.slice A0 l0.length c0] rfl (by (try simp only [List.map_toArray, List.map_cons, List.map_nil]); first | done | rfl | (simp only [List.length_drop, List.length_take]; rfl)) ?_; (with_reducible refine (rf07_May.calls k _ _ l0 true _ ?side1 ?side2 A2.out).mono ?_); (case side1 => repeat (first | exact HR0.out | (with_reducible refine Kd.C_alloc ?_ _) | (with_reducible refine Kd.C_drewN ?_ _) | (with_reducible refine Kd.C_drew ?_))); (case side2 => exact HC0.out); rintro e w4 ⟨rfl, hb⟩; refine ⟨_, rfl, ?_⟩; have n0_ := Aside0.mk (below_step (by repeat (first | (with_reducible first | exact HB.out | apply below_alloc | apply pw_below_drewN | apply below_drew1) | exact HB.out)) hb); clear HB; have HB := n0_; clear n0_; (try clear hb); (try clear hb2); (try clear hk); (try clear hi)))
   go_loopg [3, 4] k (fun kq v3 v4 w' => ∃ (x3_1 : ByteArray) (x4_1 : Int), v3 = .string x3_1 ∧ v4 = .int .i64 x4_1 ∧ Aside0 (rf07_Put.l0 kq l0 x3_1 x4_1 = some r) ∧ Aside0 (kq ≤ k) ∧ Aside0 (Below w.heap.size w w'))
   case atStart => exact ⟨((⟨#[]⟩ : ByteArray)), (0), (by first | rfl | (simp; done) | (simp [*]; done)), (by first | rfl | (simp; done) | (simp [*]; done)), H', ⟨Nat.le_refl _⟩, ⟨by repeat (first | (with_reducible first | exact HB.out | apply below_alloc | apply pw_below_drewN | apply below_drew1) | exact HB.out)⟩⟩
   case round =>
    clear H'
    try clear c1
    try clear p2
    try clear c3
    obtain ⟨x3_1, x4_1, rfl, rfl, HA, HK1, HB⟩ := hrel
    cases gk with
    | zero => exact absurd HA.out (by simp [rf07_Put.l0])
    | succ k1 =>
     have H := HA.out
     clear HA
     simp only [rf07_Put.l0] at H
     by_cases c5 : x4_1 < (l0.length : Int)
     · rw [if_pos c5] at H
       have c5b0 : decide (x4_1 < (l0.length : Int)) = true := decide_eq_true c5
       clear c5
       by_cases c6 : 0 ≤ x4_1
       · rw [if_pos c6] at H
         have c6b0 : decide (0 ≤ x4_1) = true := decide_eq_true c6
         clear c6
         by_cases c7 : x3_1.size + ((rd_T41 l0 x4_1).f0).size ≤ 9223372036854775807
         · rw [if_pos c7] at H
           have c7b0 := eq_true c7
           have c7b1 : decide (x3_1.size + ((rd_T41 l0 x4_1).f0).size ≤ 9223372036854775807) = true := decide_eq_true c7
           try have c7b2 : (9223372036854775807 < x3_1.size + ((rd_T41 l0 x4_1).f0).size) = False := eq_false (Nat.not_lt.2 c7)
           have H' := Aside0.mk H
           clear H
           have p285 : 0 ≤ (x4_1 : Int) := of_decide_eq_true (by first | (with_reducible assumption) | assumption)
           have q285 : x4_1 < (l0.length : Int) := of_decide_eq_true (by first | (with_reducible assumption) | assumption)
           obtain ⟨ad285, A285_2, c285_2, e285, hx285_0, hx285_1, hx285_2, hl285_2, hi285_2⟩ := at_T41 HR0.out x4_1 p285 q285
           cases e285
           replace hx285_0 := (HB.out.cell (World.block_lt_of_cell? w _ hx285_0)).trans hx285_0
           replace hx285_1 := (HB.out.cell (World.block_lt_of_cell? w _ hx285_1)).trans hx285_1
           replace hx285_2 := (HB.out.cell (World.block_lt_of_cell? w _ hx285_2)).trans hx285_2
           have HR285_2 := Aside0.mk hi285_2
           have HC285_2 := Aside0.mk hl285_2
           clear hi285_2 hl285_2
           replace p285 := eq_true p285
           replace q285 := eq_true q285
           go_wp2
           go_loopg [3, 5] k1 (fun kq v3 v5 w' => ∃ (x3_2 : ByteArray) (x5_2 : Int), v3 = .string x3_2 ∧ v5 = .int .i64 x5_2 ∧ Aside0 (rf07_Put.l1 kq l0 x3_2 x4_1 x5_2 = some r) ∧ Aside0 (kq ≤ k1) ∧ Aside0 (Below w.heap.size w w'))
           case atStart => exact ⟨(x3_1 ++ ((rd_T41 l0 x4_1).f0)), (0), (by first | rfl | (simp; done) | (simp [*]; done)), (by first | rfl | (simp; done) | (simp [*]; done)), H', ⟨Nat.le_refl _⟩, ⟨by repeat (first | (with_reducible first | exact HB.out | apply below_alloc | apply pw_below_drewN | apply below_drew1) | exact HB.out)⟩⟩
           case round =>
            clear H'
            try clear c1
            try clear c2
            try clear p2
            try clear q2
            try clear hx2
            try clear c3
            try clear c5
            try clear c5b0
            try clear c6
            try clear c6b0
            try clear c7
            try clear c7b0
            try clear c7b1
            try clear c7b2
            try clear hx285_0
            try clear hx285_1
            try clear hx285_2
            try clear p2
            try clear p285
            try clear q285
            obtain ⟨x3_2, x5_2, rfl, rfl, HA, HK2, HB⟩ := hrel
            cases gk with
            | zero => exact absurd HA.out (by simp [rf07_Put.l1])
            | succ k2 =>
             have H := HA.out
             clear HA
             simp only [rf07_Put.l1] at H
             by_cases c8 : 0 ≤ x4_1
             · rw [if_pos c8] at H
               have c8b0 : decide (0 ≤ x4_1) = true := decide_eq_true c8
               clear c8
               by_cases c9 : x4_1 < (l0.length : Int)
               · rw [if_pos c9] at H
                 have c9b0 : decide (x4_1 < (l0.length : Int)) = true := decide_eq_true c9
                 clear c9
                 by_cases c10 : x5_2 < (((rd_T41 l0 x4_1).f2).length : Int)
                 · rw [if_pos c10] at H
                   have c10b0 : decide (x5_2 < (((rd_T41 l0 x4_1).f2).length : Int)) = true := decide_eq_true c10
                   clear c10
                   by_cases c11 : x5_2 = 0
                   · rw [if_pos c11] at H
                     have c11b0 : (x5_2 == 0) = true := beq_iff_eq.mpr c11
                     have c11b1 : (x5_2 != 0) = false := bne_eq_false_iff_eq.mpr c11
                     clear c11
                     by_cases c12 : ((rd_T41 l0 x4_1).f1) = 0
                     · rw [if_pos c12] at H
                       have c12b0 : (((rd_T41 l0 x4_1).f1) == 0) = true := beq_iff_eq.mpr c12
                       have c12b1 : (((rd_T41 l0 x4_1).f1) != 0) = false := bne_eq_false_iff_eq.mpr c12
                       clear c12
                       by_cases c13 : x3_2.size + 1 ≤ 9223372036854775807
                       · rw [if_pos c13] at H
                         have c13b0 := eq_true c13
                         have c13b1 : decide (x3_2.size + 1 ≤ 9223372036854775807) = true := decide_eq_true c13
                         try have c13b2 : (9223372036854775807 < x3_2.size + 1) = False := eq_false (Nat.not_lt.2 c13)
                         by_cases c14 : 0 ≤ x5_2
                         · rw [if_pos c14] at H
                           have c14b0 : decide (0 ≤ x5_2) = true := decide_eq_true c14
                           clear c14
                           replace H := Option.bind_eq_some_iff.mp H
                           obtain ⟨t291, A150, H⟩ := H
                           replace H : (if (x3_2 ++ (⟨#[123]⟩ : ByteArray)).size + t291.size ≤ 9223372036854775807 then (rf07_Put.l1 k2 l0 ((x3_2 ++ (⟨#[123]⟩ : ByteArray)) ++ t291) x4_1 (wrap64 (x5_2 + 1))) else (none)) = some r := H
                           have A15 := Aside0.mk A150
                           clear A150
                           by_cases c16 : (x3_2 ++ (⟨#[123]⟩ : ByteArray)).size + t291.size ≤ 9223372036854775807
                           · rw [if_pos c16] at H
                             have c16b0 := eq_true c16
                             have c16b1 : decide ((x3_2 ++ (⟨#[123]⟩ : ByteArray)).size + t291.size ≤ 9223372036854775807) = true := decide_eq_true c16
                             try have c16b2 : (9223372036854775807 < (x3_2 ++ (⟨#[123]⟩ : ByteArray)).size + t291.size) = False := eq_false (Nat.not_lt.2 c16)
                             try have c16b4 : (9223372036854775807 < x3_2.size + 1 + t291.size) = False := eq_false (Nat.not_lt.2 (by have h_ := c16; simp only [ByteArray.size_append] at h_; exact h_))
                             have H' := Aside0.mk H
                             clear H
                             have p286 : 0 ≤ (x4_1 : Int) := of_decide_eq_true (by first | (with_reducible assumption) | assumption)
                             have q286 : x4_1 < (l0.length : Int) := of_decide_eq_true (by first | (with_reducible assumption) | assumption)
                             obtain ⟨ad286, A286_2, c286_2, e286, hx286_0, hx286_1, hx286_2, hl286_2, hi286_2⟩ := at_T41 HR0.out x4_1 p286 q286
                             obtain rfl : ad285 = ad286 := (by injection e286)
                             replace hx286_0 := (HB.out.cell (World.block_lt_of_cell? w _ hx286_0)).trans hx286_0
                             replace hx286_1 := (HB.out.cell (World.block_lt_of_cell? w _ hx286_1)).trans hx286_1
                             replace hx286_2 := (HB.out.cell (World.block_lt_of_cell? w _ hx286_2)).trans hx286_2
                             have HR286_2 := Aside0.mk hi286_2
                             have HC286_2 := Aside0.mk hl286_2
                             clear hi286_2 hl286_2
                             replace p286 := eq_true p286
                             replace q286 := eq_true q286
                             have p288 : 0 ≤ (x4_1 : Int) := of_decide_eq_true (by first | (with_reducible assumption) | assumption)
                             have q288 : x4_1 < (l0.length : Int) := of_decide_eq_true (by first | (with_reducible assumption) | assumption)
                             obtain ⟨ad288, A288_2, c288_2, e288, hx288_0, hx288_1, hx288_2, hl288_2, hi288_2⟩ := at_T41 HR0.out x4_1 p288 q288
                             obtain rfl : ad285 = ad288 := (by injection e288)
                             replace hx288_0 := (HB.out.cell (World.block_lt_of_cell? w _ hx288_0)).trans hx288_0
                             replace hx288_1 := (HB.out.cell (World.block_lt_of_cell? w _ hx288_1)).trans hx288_1
                             replace hx288_2 := (HB.out.cell (World.block_lt_of_cell? w _ hx288_2)).trans hx288_2
                             have HR288_2 := Aside0.mk hi288_2
                             have HC288_2 := Aside0.mk hl288_2
                             clear hi288_2 hl288_2
                             replace p288 := eq_true p288
                             replace q288 := eq_true q288
                             have ea_ := Option.some.inj (hx286_2.symm.trans hx288_2)
                             injection ea_ with ea_ en_ ec_
                             subst ea_
                             subst ec_
                             clear en_
                             have p289 : 0 ≤ (x4_1 : Int) := of_decide_eq_true (by first | (with_reducible assumption) | assumption)
                             have q289 : x4_1 < (l0.length : Int) := of_decide_eq_true (by first | (with_reducible assumption) | assumption)
                             obtain ⟨ad289, A289_2, c289_2, e289, hx289_0, hx289_1, hx289_2, hl289_2, hi289_2⟩ := at_T41 HR0.out x4_1 p289 q289
                             obtain rfl : ad285 = ad289 := (by injection e289)
                             replace hx289_0 := (HB.out.cell (World.block_lt_of_cell? w _ hx289_0)).trans hx289_0
                             replace hx289_1 := (HB.out.cell (World.block_lt_of_cell? w _ hx289_1)).trans hx289_1
                             replace hx289_2 := (HB.out.cell (World.block_lt_of_cell? w _ hx289_2)).trans hx289_2
                             have HR289_2 := Aside0.mk hi289_2
                             have HC289_2 := Aside0.mk hl289_2
                             clear hi289_2 hl289_2
                             replace p289 := eq_true p289
                             replace q289 := eq_true q289
                             have ea_ := Option.some.inj (hx286_2.symm.trans hx289_2)
                             injection ea_ with ea_ en_ ec_
                             subst ea_
                             subst ec_
                             clear en_
                             have p290 : 0 ≤ (x5_2 : Int) := of_decide_eq_true (by first | (with_reducible assumption) | assumption)
                             have q290 : x5_2 < (((rd_T41 l0 x4_1).f2).length : Int) := of_decide_eq_true (by first | (with_reducible assumption) | assumption)
                             obtain ⟨ad290, e290, hx290_0, hx290_1, hx290_2⟩ := at_T43 HR289_2.out x5_2 p290 q290
                             cases e290
                             replace hx290_0 := (HB.out.cell (World.block_lt_of_cell? w _ hx290_0)).trans hx290_0
                             replace hx290_1 := (HB.out.cell (World.block_lt_of_cell? w _ hx290_1)).trans hx290_1
                             replace hx290_2 := (HB.out.cell (World.block_lt_of_cell? w _ hx290_2)).trans hx290_2
                             replace p290 := eq_true p290
                             replace q290 := eq_true q290
                             go_wp2_with (first | ((with_reducible refine gate_callee (f := 34) rfl ?_); refine goesL_ (some 61) rfl rfl Tryz.func34 (by kernel_rfl) rfl #[.agg #[.string ((rd_T43 ((rd_T41 l0 x4_1).f2) x5_2).f0), .int .i64 ((rd_T43 ((rd_T41 l0 x4_1).f2) x5_2).f1), .bool ((rd_T43 ((rd_T41 l0 x4_1).f2) x5_2).f2)]] rfl (by (try simp only [List.map_toArray, List.map_cons, List.map_nil]); first | done | rfl | (simp only [List.length_drop, List.length_take]; rfl)) ?_; (with_reducible refine (rf06_Put.calls k2 ((rd_T43 ((rd_T41 l0 x4_1).f2) x5_2).f0) ((rd_T43 ((rd_T41 l0 x4_1).f2) x5_2).f1) ((rd_T43 ((rd_T41 l0 x4_1).f2) x5_2).f2) t291 _ A15.out).mono ?_); rintro e w17 ⟨rfl, hb⟩; refine ⟨_, rfl, ?_⟩; have n0_ := Aside0.mk (below_step (by repeat (first | (with_reducible first | exact HB.out | apply below_alloc | apply pw_below_drewN | apply below_drew1) | exact HB.out)) hb); clear HB; have HB := n0_; clear n0_; (try clear hb); (try clear hb2); (try clear hk); (try clear hi)))
                             go_roundg k2
                             case measure => have := HK1.out; have := HK2.out; omega
                             case rel => exact ⟨((x3_2 ++ (⟨#[123]⟩ : ByteArray)) ++ t291), (wrap64 (x5_2 + 1)), (by first | rfl | (simp; done) | (simp [*]; done)), (by first | rfl | (simp; done) | (simp [*]; done)), H', ⟨by have := HK1.out; have := HK2.out; omega⟩, ⟨by repeat (first | (with_reducible first | exact HB.out | apply below_alloc | apply pw_below_drewN | apply below_drew1) | exact HB.out)⟩⟩
                           · rw [if_neg c16] at H
                             exact absurd H (by simp)
                         · rw [if_neg c14] at H
                           exact absurd H (by simp)
                       · rw [if_neg c13] at H
                         exact absurd H (by simp)
                     · rw [if_neg c12] at H
                       have c12b0 : (((rd_T41 l0 x4_1).f1) == 0) = false := beq_eq_false_iff_ne.mpr c12
                       have c12b1 : (((rd_T41 l0 x4_1).f1) != 0) = true := bne_iff_ne.mpr c12
                       obtain ⟨y293, hy293⟩ : ∃ y_ : List Int, y_ = (([(rd_T41 l0 x4_1).f1] : List Int)) := ⟨_, rfl⟩
                       replace H : (if 1 + (strOfNums y293).size ≤ 9223372036854775807 then (if x3_2.size + ((⟨#[123]⟩ : ByteArray) ++ (strOfNums y293)).size ≤ 9223372036854775807 then (if 0 ≤ x5_2 then ((rf06_Put.f k2 ((rd_T43 ((rd_T41 l0 x4_1).f2) x5_2).f0) ((rd_T43 ((rd_T41 l0 x4_1).f2) x5_2).f1) ((rd_T43 ((rd_T41 l0 x4_1).f2) x5_2).f2)).bind fun t298 => (if (x3_2 ++ ((⟨#[123]⟩ : ByteArray) ++ (strOfNums y293))).size + t298.size ≤ 9223372036854775807 then (rf07_Put.l1 k2 l0 ((x3_2 ++ ((⟨#[123]⟩ : ByteArray) ++ (strOfNums y293))) ++ t298) x4_1 (wrap64 (x5_2 + 1))) else (none))) else (none)) else (none)) else (none)) = some r := by first | (rw [hy293]; with_reducible exact H) | (have H2_ := (Option.bind_some _ _).symm.trans H; rw [hy293]; with_reducible exact H2_) | (have H2_ := (Option.bind_some _ _).symm.trans H; with_reducible exact H2_) | with_reducible exact H | (rw [hy293]; exact H) | exact H
                       have Ny293 := Aside0.mk hy293
                       clear hy293
                       by_cases c18 : 1 + (strOfNums y293).size ≤ 9223372036854775807
                       · rw [if_pos c18] at H
                         have c18b0 := eq_true c18
                         have c18b1 : decide (1 + (strOfNums y293).size ≤ 9223372036854775807) = true := decide_eq_true c18
                         try have c18b2 : (9223372036854775807 < 1 + (strOfNums y293).size) = False := eq_false (Nat.not_lt.2 c18)
                         by_cases c19 : x3_2.size + ((⟨#[123]⟩ : ByteArray) ++ (strOfNums y293)).size ≤ 9223372036854775807
                         · rw [if_pos c19] at H
                           have c19b0 := eq_true c19
                           have c19b1 : decide (x3_2.size + ((⟨#[123]⟩ : ByteArray) ++ (strOfNums y293)).size ≤ 9223372036854775807) = true := decide_eq_true c19
                           try have c19b2 : (9223372036854775807 < x3_2.size + ((⟨#[123]⟩ : ByteArray) ++ (strOfNums y293)).size) = False := eq_false (Nat.not_lt.2 c19)
                           try have c19b4 : (9223372036854775807 < x3_2.size + 1 + (strOfNums y293).size) = False := eq_false (Nat.not_lt.2 (by have h_ := c19; simp only [ByteArray.size_append] at h_; exact h_))
                           by_cases c20 : 0 ≤ x5_2
                           · rw [if_pos c20] at H
                             have c20b0 : decide (0 ≤ x5_2) = true := decide_eq_true c20
                             clear c20
                             replace H := Option.bind_eq_some_iff.mp H
                             obtain ⟨t298, A210, H⟩ := H
                             replace H : (if (x3_2 ++ ((⟨#[123]⟩ : ByteArray) ++ (strOfNums y293))).size + t298.size ≤ 9223372036854775807 then (rf07_Put.l1 k2 l0 ((x3_2 ++ ((⟨#[123]⟩ : ByteArray) ++ (strOfNums y293))) ++ t298) x4_1 (wrap64 (x5_2 + 1))) else (none)) = some r := H
                             have A21 := Aside0.mk A210
                             clear A210
                             by_cases c22 : (x3_2 ++ ((⟨#[123]⟩ : ByteArray) ++ (strOfNums y293))).size + t298.size ≤ 9223372036854775807
                             · rw [if_pos c22] at H
                               have c22b0 := eq_true c22
                               have c22b1 : decide ((x3_2 ++ ((⟨#[123]⟩ : ByteArray) ++ (strOfNums y293))).size + t298.size ≤ 9223372036854775807) = true := decide_eq_true c22
                               try have c22b2 : (9223372036854775807 < (x3_2 ++ ((⟨#[123]⟩ : ByteArray) ++ (strOfNums y293))).size + t298.size) = False := eq_false (Nat.not_lt.2 c22)
                               try have c22b4 : (9223372036854775807 < x3_2.size + (1 + (strOfNums y293).size) + t298.size) = False := eq_false (Nat.not_lt.2 (by have h_ := c22; simp only [ByteArray.size_append] at h_; exact h_))
                               have H' := Aside0.mk H
                               clear H
                               have p286 : 0 ≤ (x4_1 : Int) := of_decide_eq_true (by first | (with_reducible assumption) | assumption)
                               have q286 : x4_1 < (l0.length : Int) := of_decide_eq_true (by first | (with_reducible assumption) | assumption)
                               obtain ⟨ad286, A286_2, c286_2, e286, hx286_0, hx286_1, hx286_2, hl286_2, hi286_2⟩ := at_T41 HR0.out x4_1 p286 q286
                               obtain rfl : ad285 = ad286 := (by injection e286)
                               replace hx286_0 := (HB.out.cell (World.block_lt_of_cell? w _ hx286_0)).trans hx286_0
                               replace hx286_1 := (HB.out.cell (World.block_lt_of_cell? w _ hx286_1)).trans hx286_1
                               replace hx286_2 := (HB.out.cell (World.block_lt_of_cell? w _ hx286_2)).trans hx286_2
                               have HR286_2 := Aside0.mk hi286_2
                               have HC286_2 := Aside0.mk hl286_2
                               clear hi286_2 hl286_2
                               replace p286 := eq_true p286
                               replace q286 := eq_true q286
                               have p288 : 0 ≤ (x4_1 : Int) := of_decide_eq_true (by first | (with_reducible assumption) | assumption)
                               have q288 : x4_1 < (l0.length : Int) := of_decide_eq_true (by first | (with_reducible assumption) | assumption)
                               obtain ⟨ad288, A288_2, c288_2, e288, hx288_0, hx288_1, hx288_2, hl288_2, hi288_2⟩ := at_T41 HR0.out x4_1 p288 q288
                               obtain rfl : ad285 = ad288 := (by injection e288)
                               replace hx288_0 := (HB.out.cell (World.block_lt_of_cell? w _ hx288_0)).trans hx288_0
                               replace hx288_1 := (HB.out.cell (World.block_lt_of_cell? w _ hx288_1)).trans hx288_1
                               replace hx288_2 := (HB.out.cell (World.block_lt_of_cell? w _ hx288_2)).trans hx288_2
                               have HR288_2 := Aside0.mk hi288_2
                               have HC288_2 := Aside0.mk hl288_2
                               clear hi288_2 hl288_2
                               replace p288 := eq_true p288
                               replace q288 := eq_true q288
                               have ea_ := Option.some.inj (hx286_2.symm.trans hx288_2)
                               injection ea_ with ea_ en_ ec_
                               subst ea_
                               subst ec_
                               clear en_
                               have p292 : 0 ≤ (x4_1 : Int) := of_decide_eq_true (by first | (with_reducible assumption) | assumption)
                               have q292 : x4_1 < (l0.length : Int) := of_decide_eq_true (by first | (with_reducible assumption) | assumption)
                               obtain ⟨ad292, A292_2, c292_2, e292, hx292_0, hx292_1, hx292_2, hl292_2, hi292_2⟩ := at_T41 HR0.out x4_1 p292 q292
                               obtain rfl : ad285 = ad292 := (by injection e292)
                               replace hx292_0 := (HB.out.cell (World.block_lt_of_cell? w _ hx292_0)).trans hx292_0
                               replace hx292_1 := (HB.out.cell (World.block_lt_of_cell? w _ hx292_1)).trans hx292_1
                               replace hx292_2 := (HB.out.cell (World.block_lt_of_cell? w _ hx292_2)).trans hx292_2
                               have HR292_2 := Aside0.mk hi292_2
                               have HC292_2 := Aside0.mk hl292_2
                               clear hi292_2 hl292_2
                               replace p292 := eq_true p292
                               replace q292 := eq_true q292
                               have ea_ := Option.some.inj (hx286_2.symm.trans hx292_2)
                               injection ea_ with ea_ en_ ec_
                               subst ea_
                               subst ec_
                               clear en_
                               go_wp2_with (first | ((with_reducible refine gate_dst (N := 47) rfl ?_); refine Kd.R_lit (Kd.int .u8) _ 5 ?hg (N := 47) ?hd (xs := ([(rd_T41 l0 x4_1).f1] : List Int)) (inner := [.int .u8 ((rd_T41 l0 x4_1).f1)]) (ok := fun _ => True) (okp := fun _ => True) ?hr ?hp (fun _ hk => hk) trivial (Below.refl _ _) (Nat.le_refl _) (by simp) ?_; (case hd => rfl); (case hg => rfl); (case hr => first | (go_simp; done) | (go_simp; rfl)); (case hp => exact (Reps.one (show Kd.M (Kd.int .u8) _ _ _ ((rd_T41 l0 x4_1).f1) [.int .u8 ((rd_T41 l0 x4_1).f1)] from rfl) (Reps.none _ _))); intro v294 w23 ho24 hb hg_ hnew_; clear hg_ hnew_; (first | rw [← Ny293.out] at ho24 | (simp only [Int.reduceToNat] at ho24; rw [← Ny293.out] at ho24)); have n0_ := Aside0.mk (Kd.R_lower ho24 (below_size (by repeat (first | (with_reducible first | exact HB.out | apply below_alloc | apply pw_below_drewN | apply below_drew1) | exact HB.out)))); have n1_ := Aside0.mk (below_step (by repeat (first | (with_reducible first | exact HB.out | apply below_alloc | apply pw_below_drewN | apply below_drew1) | exact HB.out)) hb); clear HB; have HO295 := n0_; have HB := n1_; clear n0_ n1_; clear hb ho24; have hcv25 := own_string (P := Tryz.prog) Tryz.underlying58 Tryz.underlying5 Tryz.underlying9 (Kd.own_of_R HO295.out); have p296 : 0 ≤ (x4_1 : Int) := of_decide_eq_true (by first | (with_reducible assumption) | assumption); have q296 : x4_1 < (l0.length : Int) := of_decide_eq_true (by first | (with_reducible assumption) | assumption); obtain ⟨ad296, A296_2, c296_2, e296, hx296_0, hx296_1, hx296_2, hl296_2, hi296_2⟩ := at_T41 HR0.out x4_1 p296 q296; obtain rfl : ad285 = ad296 := (by injection e296); replace hx296_0 := (HB.out.cell (World.block_lt_of_cell? w _ hx296_0)).trans hx296_0; replace hx296_1 := (HB.out.cell (World.block_lt_of_cell? w _ hx296_1)).trans hx296_1; replace hx296_2 := (HB.out.cell (World.block_lt_of_cell? w _ hx296_2)).trans hx296_2; have HR296_2 := Aside0.mk hi296_2; have HC296_2 := Aside0.mk hl296_2; clear hi296_2 hl296_2; replace p296 := eq_true p296; replace q296 := eq_true q296; have p297 : 0 ≤ (x5_2 : Int) := of_decide_eq_true (by first | (with_reducible assumption) | assumption); have q297 : x5_2 < (((rd_T41 l0 x4_1).f2).length : Int) := of_decide_eq_true (by first | (with_reducible assumption) | assumption); obtain ⟨ad297, e297, hx297_0, hx297_1, hx297_2⟩ := at_T43 HR296_2.out x5_2 p297 q297; cases e297; replace hx297_0 := (HB.out.cell (World.block_lt_of_cell? w _ hx297_0)).trans hx297_0; replace hx297_1 := (HB.out.cell (World.block_lt_of_cell? w _ hx297_1)).trans hx297_1; replace hx297_2 := (HB.out.cell (World.block_lt_of_cell? w _ hx297_2)).trans hx297_2; replace p297 := eq_true p297; replace q297 := eq_true q297) | ((with_reducible refine gate_callee (f := 34) rfl ?_); refine goesL_ (some 61) rfl rfl Tryz.func34 (by kernel_rfl) rfl #[.agg #[.string ((rd_T43 ((rd_T41 l0 x4_1).f2) x5_2).f0), .int .i64 ((rd_T43 ((rd_T41 l0 x4_1).f2) x5_2).f1), .bool ((rd_T43 ((rd_T41 l0 x4_1).f2) x5_2).f2)]] rfl (by (try simp only [List.map_toArray, List.map_cons, List.map_nil]); first | done | rfl | (simp only [List.length_drop, List.length_take]; rfl)) ?_; (with_reducible refine (rf06_Put.calls k2 ((rd_T43 ((rd_T41 l0 x4_1).f2) x5_2).f0) ((rd_T43 ((rd_T41 l0 x4_1).f2) x5_2).f1) ((rd_T43 ((rd_T41 l0 x4_1).f2) x5_2).f2) t298 _ A21.out).mono ?_); rintro e w26 ⟨rfl, hb⟩; refine ⟨_, rfl, ?_⟩; have n0_ := Aside0.mk (Kd.R_below (by (with_reducible repeat (first | apply Kd.R_alloc | apply Kd.R_drewN | apply Kd.R_drew)); exact HO295.out) hb); have n1_ := Aside0.mk (below_step (by repeat (first | (with_reducible first | exact HB.out | apply below_alloc | apply pw_below_drewN | apply below_drew1) | exact HB.out)) hb); clear HO295; clear HB; have HO295 := n0_; have HB := n1_; clear n0_ n1_; (try clear hb); (try clear hb2); (try clear hk); (try clear hi)))
                               go_roundg k2
                               case measure => have := HK1.out; have := HK2.out; omega
                               case rel => exact ⟨((x3_2 ++ ((⟨#[123]⟩ : ByteArray) ++ (strOfNums y293))) ++ t298), (wrap64 (x5_2 + 1)), (by first | rfl | (simp; done) | (simp [*]; done)), (by first | rfl | (simp; done) | (simp [*]; done)), H', ⟨by have := HK1.out; have := HK2.out; omega⟩, ⟨by repeat (first | (with_reducible first | exact HB.out | apply below_alloc | apply pw_below_drewN | apply below_drew1) | exact HB.out)⟩⟩
                             · rw [if_neg c22] at H
                               exact absurd H (by simp)
                           · rw [if_neg c20] at H
                             exact absurd H (by simp)
                         · rw [if_neg c19] at H
                           exact absurd H (by simp)
                       · rw [if_neg c18] at H
                         exact absurd H (by simp)
                   · rw [if_neg c11] at H
                     have c11b0 : (x5_2 == 0) = false := beq_eq_false_iff_ne.mpr c11
                     have c11b1 : (x5_2 != 0) = true := bne_iff_ne.mpr c11
                     by_cases c27 : x3_2.size + 1 ≤ 9223372036854775807
                     · rw [if_pos c27] at H
                       have c27b0 := eq_true c27
                       have c27b1 : decide (x3_2.size + 1 ≤ 9223372036854775807) = true := decide_eq_true c27
                       try have c27b2 : (9223372036854775807 < x3_2.size + 1) = False := eq_false (Nat.not_lt.2 c27)
                       by_cases c28 : 0 ≤ x5_2
                       · rw [if_pos c28] at H
                         have c28b0 : decide (0 ≤ x5_2) = true := decide_eq_true c28
                         clear c28
                         replace H := Option.bind_eq_some_iff.mp H
                         obtain ⟨t301, A290, H⟩ := H
                         replace H : (if (x3_2 ++ (⟨#[44]⟩ : ByteArray)).size + t301.size ≤ 9223372036854775807 then (rf07_Put.l1 k2 l0 ((x3_2 ++ (⟨#[44]⟩ : ByteArray)) ++ t301) x4_1 (wrap64 (x5_2 + 1))) else (none)) = some r := H
                         have A29 := Aside0.mk A290
                         clear A290
                         by_cases c30 : (x3_2 ++ (⟨#[44]⟩ : ByteArray)).size + t301.size ≤ 9223372036854775807
                         · rw [if_pos c30] at H
                           have c30b0 := eq_true c30
                           have c30b1 : decide ((x3_2 ++ (⟨#[44]⟩ : ByteArray)).size + t301.size ≤ 9223372036854775807) = true := decide_eq_true c30
                           try have c30b2 : (9223372036854775807 < (x3_2 ++ (⟨#[44]⟩ : ByteArray)).size + t301.size) = False := eq_false (Nat.not_lt.2 c30)
                           try have c30b4 : (9223372036854775807 < x3_2.size + 1 + t301.size) = False := eq_false (Nat.not_lt.2 (by have h_ := c30; simp only [ByteArray.size_append] at h_; exact h_))
                           have H' := Aside0.mk H
                           clear H
                           have p286 : 0 ≤ (x4_1 : Int) := of_decide_eq_true (by first | (with_reducible assumption) | assumption)
                           have q286 : x4_1 < (l0.length : Int) := of_decide_eq_true (by first | (with_reducible assumption) | assumption)
                           obtain ⟨ad286, A286_2, c286_2, e286, hx286_0, hx286_1, hx286_2, hl286_2, hi286_2⟩ := at_T41 HR0.out x4_1 p286 q286
                           obtain rfl : ad285 = ad286 := (by injection e286)
                           replace hx286_0 := (HB.out.cell (World.block_lt_of_cell? w _ hx286_0)).trans hx286_0
                           replace hx286_1 := (HB.out.cell (World.block_lt_of_cell? w _ hx286_1)).trans hx286_1
                           replace hx286_2 := (HB.out.cell (World.block_lt_of_cell? w _ hx286_2)).trans hx286_2
                           have HR286_2 := Aside0.mk hi286_2
                           have HC286_2 := Aside0.mk hl286_2
                           clear hi286_2 hl286_2
                           replace p286 := eq_true p286
                           replace q286 := eq_true q286
                           have p299 : 0 ≤ (x4_1 : Int) := of_decide_eq_true (by first | (with_reducible assumption) | assumption)
                           have q299 : x4_1 < (l0.length : Int) := of_decide_eq_true (by first | (with_reducible assumption) | assumption)
                           obtain ⟨ad299, A299_2, c299_2, e299, hx299_0, hx299_1, hx299_2, hl299_2, hi299_2⟩ := at_T41 HR0.out x4_1 p299 q299
                           obtain rfl : ad285 = ad299 := (by injection e299)
                           replace hx299_0 := (HB.out.cell (World.block_lt_of_cell? w _ hx299_0)).trans hx299_0
                           replace hx299_1 := (HB.out.cell (World.block_lt_of_cell? w _ hx299_1)).trans hx299_1
                           replace hx299_2 := (HB.out.cell (World.block_lt_of_cell? w _ hx299_2)).trans hx299_2
                           have HR299_2 := Aside0.mk hi299_2
                           have HC299_2 := Aside0.mk hl299_2
                           clear hi299_2 hl299_2
                           replace p299 := eq_true p299
                           replace q299 := eq_true q299
                           have ea_ := Option.some.inj (hx286_2.symm.trans hx299_2)
                           injection ea_ with ea_ en_ ec_
                           subst ea_
                           subst ec_
                           clear en_
                           have p300 : 0 ≤ (x5_2 : Int) := of_decide_eq_true (by first | (with_reducible assumption) | assumption)
                           have q300 : x5_2 < (((rd_T41 l0 x4_1).f2).length : Int) := of_decide_eq_true (by first | (with_reducible assumption) | assumption)
                           obtain ⟨ad300, e300, hx300_0, hx300_1, hx300_2⟩ := at_T43 HR299_2.out x5_2 p300 q300
                           cases e300
                           replace hx300_0 := (HB.out.cell (World.block_lt_of_cell? w _ hx300_0)).trans hx300_0
                           replace hx300_1 := (HB.out.cell (World.block_lt_of_cell? w _ hx300_1)).trans hx300_1
                           replace hx300_2 := (HB.out.cell (World.block_lt_of_cell? w _ hx300_2)).trans hx300_2
                           replace p300 := eq_true p300
                           replace q300 := eq_true q300
                           go_wp2_with (first | ((with_reducible refine gate_callee (f := 34) rfl ?_); refine goesL_ (some 61) rfl rfl Tryz.func34 (by kernel_rfl) rfl #[.agg #[.string ((rd_T43 ((rd_T41 l0 x4_1).f2) x5_2).f0), .int .i64 ((rd_T43 ((rd_T41 l0 x4_1).f2) x5_2).f1), .bool ((rd_T43 ((rd_T41 l0 x4_1).f2) x5_2).f2)]] rfl (by (try simp only [List.map_toArray, List.map_cons, List.map_nil]); first | done | rfl | (simp only [List.length_drop, List.length_take]; rfl)) ?_; (with_reducible refine (rf06_Put.calls k2 ((rd_T43 ((rd_T41 l0 x4_1).f2) x5_2).f0) ((rd_T43 ((rd_T41 l0 x4_1).f2) x5_2).f1) ((rd_T43 ((rd_T41 l0 x4_1).f2) x5_2).f2) t301 _ A29.out).mono ?_); rintro e w31 ⟨rfl, hb⟩; refine ⟨_, rfl, ?_⟩; have n0_ := Aside0.mk (below_step (by repeat (first | (with_reducible first | exact HB.out | apply below_alloc | apply pw_below_drewN | apply below_drew1) | exact HB.out)) hb); clear HB; have HB := n0_; clear n0_; (try clear hb); (try clear hb2); (try clear hk); (try clear hi)))
                           go_roundg k2
                           case measure => have := HK1.out; have := HK2.out; omega
                           case rel => exact ⟨((x3_2 ++ (⟨#[44]⟩ : ByteArray)) ++ t301), (wrap64 (x5_2 + 1)), (by first | rfl | (simp; done) | (simp [*]; done)), (by first | rfl | (simp; done) | (simp [*]; done)), H', ⟨by have := HK1.out; have := HK2.out; omega⟩, ⟨by repeat (first | (with_reducible first | exact HB.out | apply below_alloc | apply pw_below_drewN | apply below_drew1) | exact HB.out)⟩⟩
                         · rw [if_neg c30] at H
                           exact absurd H (by simp)
                       · rw [if_neg c28] at H
                         exact absurd H (by simp)
                     · rw [if_neg c27] at H
                       exact absurd H (by simp)
                 · rw [if_neg c10] at H
                   have c10b0 : decide (x5_2 < (((rd_T41 l0 x4_1).f2).length : Int)) = false := decide_eq_false c10
                   clear c10
                   by_cases c32 : (((rd_T41 l0 x4_1).f2).length : Int) > 0
                   · rw [if_pos c32] at H
                     have c32b0 : decide (0 < (((rd_T41 l0 x4_1).f2).length : Int)) = true := decide_eq_true c32
                     have c32b1 : decide (0 < ((rd_T41 l0 x4_1).f2).length) = true := decide_eq_true (by omega)
                     clear c32
                     by_cases c33 : x3_2.size + 1 ≤ 9223372036854775807
                     · rw [if_pos c33] at H
                       have c33b0 := eq_true c33
                       have c33b1 : decide (x3_2.size + 1 ≤ 9223372036854775807) = true := decide_eq_true c33
                       try have c33b2 : (9223372036854775807 < x3_2.size + 1) = False := eq_false (Nat.not_lt.2 c33)
                       have H' := Aside0.mk H
                       clear H
                       have p286 : 0 ≤ (x4_1 : Int) := of_decide_eq_true (by first | (with_reducible assumption) | assumption)
                       have q286 : x4_1 < (l0.length : Int) := of_decide_eq_true (by first | (with_reducible assumption) | assumption)
                       obtain ⟨ad286, A286_2, c286_2, e286, hx286_0, hx286_1, hx286_2, hl286_2, hi286_2⟩ := at_T41 HR0.out x4_1 p286 q286
                       obtain rfl : ad285 = ad286 := (by injection e286)
                       replace hx286_0 := (HB.out.cell (World.block_lt_of_cell? w _ hx286_0)).trans hx286_0
                       replace hx286_1 := (HB.out.cell (World.block_lt_of_cell? w _ hx286_1)).trans hx286_1
                       replace hx286_2 := (HB.out.cell (World.block_lt_of_cell? w _ hx286_2)).trans hx286_2
                       have HR286_2 := Aside0.mk hi286_2
                       have HC286_2 := Aside0.mk hl286_2
                       clear hi286_2 hl286_2
                       replace p286 := eq_true p286
                       replace q286 := eq_true q286
                       have p287 : 0 ≤ (x4_1 : Int) := of_decide_eq_true (by first | (with_reducible assumption) | assumption)
                       have q287 : x4_1 < (l0.length : Int) := of_decide_eq_true (by first | (with_reducible assumption) | assumption)
                       obtain ⟨ad287, A287_2, c287_2, e287, hx287_0, hx287_1, hx287_2, hl287_2, hi287_2⟩ := at_T41 HR0.out x4_1 p287 q287
                       obtain rfl : ad285 = ad287 := (by injection e287)
                       replace hx287_0 := (HB.out.cell (World.block_lt_of_cell? w _ hx287_0)).trans hx287_0
                       replace hx287_1 := (HB.out.cell (World.block_lt_of_cell? w _ hx287_1)).trans hx287_1
                       replace hx287_2 := (HB.out.cell (World.block_lt_of_cell? w _ hx287_2)).trans hx287_2
                       have HR287_2 := Aside0.mk hi287_2
                       have HC287_2 := Aside0.mk hl287_2
                       clear hi287_2 hl287_2
                       replace p287 := eq_true p287
                       replace q287 := eq_true q287
                       have ea_ := Option.some.inj (hx286_2.symm.trans hx287_2)
                       injection ea_ with ea_ en_ ec_
                       subst ea_
                       subst ec_
                       clear en_
                       go_wp2
                       go_roundg k2
                       case measure => have := HK1.out; have := HK2.out; omega
                       case rel => exact ⟨(x3_2 ++ (⟨#[125]⟩ : ByteArray)), (wrap64 (x4_1 + 1)), (by first | rfl | (simp; done) | (simp [*]; done)), (by first | rfl | (simp; done) | (simp [*]; done)), H', ⟨by have := HK1.out; have := HK2.out; omega⟩, ⟨by repeat (first | (with_reducible first | exact HB.out | apply below_alloc | apply pw_below_drewN | apply below_drew1) | exact HB.out)⟩⟩
                     · rw [if_neg c33] at H
                       exact absurd H (by simp)
                   · rw [if_neg c32] at H
                     have c32b0 : decide (0 < (((rd_T41 l0 x4_1).f2).length : Int)) = false := decide_eq_false c32
                     have c32b1 : decide (0 < ((rd_T41 l0 x4_1).f2).length) = false := decide_eq_false (by omega)
                     clear c32
                     have H' := Aside0.mk H
                     clear H
                     have p286 : 0 ≤ (x4_1 : Int) := of_decide_eq_true (by first | (with_reducible assumption) | assumption)
                     have q286 : x4_1 < (l0.length : Int) := of_decide_eq_true (by first | (with_reducible assumption) | assumption)
                     obtain ⟨ad286, A286_2, c286_2, e286, hx286_0, hx286_1, hx286_2, hl286_2, hi286_2⟩ := at_T41 HR0.out x4_1 p286 q286
                     obtain rfl : ad285 = ad286 := (by injection e286)
                     replace hx286_0 := (HB.out.cell (World.block_lt_of_cell? w _ hx286_0)).trans hx286_0
                     replace hx286_1 := (HB.out.cell (World.block_lt_of_cell? w _ hx286_1)).trans hx286_1
                     replace hx286_2 := (HB.out.cell (World.block_lt_of_cell? w _ hx286_2)).trans hx286_2
                     have HR286_2 := Aside0.mk hi286_2
                     have HC286_2 := Aside0.mk hl286_2
                     clear hi286_2 hl286_2
                     replace p286 := eq_true p286
                     replace q286 := eq_true q286
                     have p287 : 0 ≤ (x4_1 : Int) := of_decide_eq_true (by first | (with_reducible assumption) | assumption)
                     have q287 : x4_1 < (l0.length : Int) := of_decide_eq_true (by first | (with_reducible assumption) | assumption)
                     obtain ⟨ad287, A287_2, c287_2, e287, hx287_0, hx287_1, hx287_2, hl287_2, hi287_2⟩ := at_T41 HR0.out x4_1 p287 q287
                     obtain rfl : ad285 = ad287 := (by injection e287)
                     replace hx287_0 := (HB.out.cell (World.block_lt_of_cell? w _ hx287_0)).trans hx287_0
                     replace hx287_1 := (HB.out.cell (World.block_lt_of_cell? w _ hx287_1)).trans hx287_1
                     replace hx287_2 := (HB.out.cell (World.block_lt_of_cell? w _ hx287_2)).trans hx287_2
                     have HR287_2 := Aside0.mk hi287_2
                     have HC287_2 := Aside0.mk hl287_2
                     clear hi287_2 hl287_2
                     replace p287 := eq_true p287
                     replace q287 := eq_true q287
                     have ea_ := Option.some.inj (hx286_2.symm.trans hx287_2)
                     injection ea_ with ea_ en_ ec_
                     subst ea_
                     subst ec_
                     clear en_
                     go_wp2
                     go_roundg k2
                     case measure => have := HK1.out; have := HK2.out; omega
                     case rel => exact ⟨(x3_2), (wrap64 (x4_1 + 1)), (by first | rfl | (simp; done) | (simp [*]; done)), (by first | rfl | (simp; done) | (simp [*]; done)), H', ⟨by have := HK1.out; have := HK2.out; omega⟩, ⟨by repeat (first | (with_reducible first | exact HB.out | apply below_alloc | apply pw_below_drewN | apply below_drew1) | exact HB.out)⟩⟩
               · rw [if_neg c9] at H
                 exact absurd H (by simp)
             · rw [if_neg c8] at H
               exact absurd H (by simp)
         · rw [if_neg c7] at H
           exact absurd H (by simp)
       · rw [if_neg c6] at H
         exact absurd H (by simp)
     · rw [if_neg c5] at H
       have c5b0 : decide (x4_1 < (l0.length : Int)) = false := decide_eq_false c5
       clear c5
       obtain rfl := Option.some.inj H
       go_wp2
       go_ret
       exact ⟨by first | rfl | (simp [errW_none, errW_some] <;> rfl) | (simp [*, errW_none, errW_some] <;> rfl), by repeat (first | (with_reducible first | exact HB.out | apply below_alloc | apply pw_below_drewN | apply below_drew1) | exact HB.out)⟩
 · replace c3 := Bool.eq_false_iff.mpr c3
   subst c3
   have H1 : (some (⟨#[]⟩ : ByteArray)) = some r := by rw [if_neg (show ¬ (false = true) by decide)] at H; exact H
   clear H
   have H := H1
   clear H1
   obtain rfl := Option.some.inj H
   go_enter Tryz.func14, Tryz.ntmps14
   go_wp2_with (first | ((with_reducible refine gate_callee (f := 12) rfl ?_); refine goesL_ (some 8) rfl rfl Tryz.func12 (by kernel_rfl) rfl #[.slice A0 l0.length c0] rfl (by (try simp only [List.map_toArray, List.map_cons, List.map_nil]); first | done | rfl | (simp only [List.length_drop, List.length_take]; rfl)) ?_; (with_reducible refine (rf07_May.calls k _ _ l0 false _ ?side1 ?side2 A2.out).mono ?_); (case side1 => repeat (first | exact HR0.out | (with_reducible refine Kd.C_alloc ?_ _) | (with_reducible refine Kd.C_drewN ?_ _) | (with_reducible refine Kd.C_drew ?_))); (case side2 => exact HC0.out); rintro e w34 ⟨rfl, hb⟩; refine ⟨_, rfl, ?_⟩; have n0_ := Aside0.mk (below_step (by repeat (first | (with_reducible first | exact HB.out | apply below_alloc | apply pw_below_drewN | apply below_drew1) | exact HB.out)) hb); clear HB; have HB := n0_; clear n0_; (try clear hb); (try clear hb2); (try clear hk); (try clear hi)))
   go_ret
   exact ⟨by first | rfl | (simp [errW_none, errW_some] <;> rfl) | (simp [*, errW_none, errW_some] <;> rfl), by repeat (first | (with_reducible first | exact HB.out | apply below_alloc | apply pw_below_drewN | apply below_drew1) | exact HB.out)⟩
def rf07_Many.l0 : Nat → List (S41) → Int → Int → Option (Int)
 | 0, _, _, _ => none
 | k + 1, x0, x3, x4 => if x4 < (x0.length : Int) then (if 0 ≤ x4 then (rf07_Many.l0 k x0 (wrap64 (x3 + (((rd_T41 x0 x4).f2).length : Int))) (wrap64 (x4 + 1))) else (none)) else (some x3)
def rf07_Many.f (k : Nat) (l0 : List (S41)) : Option (Int) := rf07_Many.l0 k l0 0 0
set_option maxHeartbeats 8000000 in
set_option maxRecDepth 100000 in
theorem rf07_Many.calls (k : Nat) (A0 : Option Addr) (c0 : Nat) (l0 : List (S41)) (r : Int) (w : World) (hr0 : Kd.C k41 w A0 l0.length l0) (hc0 : l0.length ≤ c0) (h : rf07_Many.f k l0 = some r) :
 Calls Tryz.prog 18 #[.slice A0 l0.length c0] w fun e w' => e = .returned (.int .i64 r) ∧ Drawn0 w w' := by
 have HR0 := Aside0.mk hr0
 have HC0 := Aside0.mk hc0
 clear hr0 hc0
 have H : (rf07_Many.l0 k l0 0 0) = some r := h
 clear h
 have H' := Aside0.mk H
 clear H
 go_enter Tryz.func18, Tryz.ntmps18
 go_wp2
 go_loopg [3, 4] k (fun kq v3 v4 w' => ∃ (x3_1 : Int) (x4_1 : Int), v3 = .int .i64 x3_1 ∧ v4 = .int .i64 x4_1 ∧ Aside0 (rf07_Many.l0 kq l0 x3_1 x4_1 = some r) ∧ Aside0 (kq ≤ k) ∧ Drawn0 w w')
 case atStart => exact ⟨(0), (0), (by first | rfl | (simp; done) | (simp [*]; done)), (by first | rfl | (simp; done) | (simp [*]; done)), H', ⟨Nat.le_refl _⟩, by repeat (first | exact Drawn0.refl _ | apply Drawn0.step)⟩
 case round =>
  clear H'
  try clear c1
  obtain ⟨x3_1, x4_1, rfl, rfl, HA, HK1, ⟨m1, rfl⟩⟩ := hrel
  cases gk with
  | zero => exact absurd HA.out (by simp [rf07_Many.l0])
  | succ k1 =>
   have H := HA.out
   clear HA
   simp only [rf07_Many.l0] at H
   by_cases c2 : x4_1 < (l0.length : Int)
   · rw [if_pos c2] at H
     have c2b0 : decide (x4_1 < (l0.length : Int)) = true := decide_eq_true c2
     clear c2
     by_cases c3 : 0 ≤ x4_1
     · rw [if_pos c3] at H
       have c3b0 : decide (0 ≤ x4_1) = true := decide_eq_true c3
       clear c3
       have H' := Aside0.mk H
       clear H
       have p322 : 0 ≤ (x4_1 : Int) := of_decide_eq_true (by first | (with_reducible assumption) | assumption)
       have q322 : x4_1 < (l0.length : Int) := of_decide_eq_true (by first | (with_reducible assumption) | assumption)
       obtain ⟨ad322, A322_2, c322_2, e322, hx322_0, hx322_1, hx322_2, hl322_2, hi322_2⟩ := at_T41 HR0.out x4_1 p322 q322
       cases e322
       have HR322_2 := Aside0.mk hi322_2
       have HC322_2 := Aside0.mk hl322_2
       clear hi322_2 hl322_2
       replace p322 := eq_true p322
       replace q322 := eq_true q322
       go_wp2
       go_roundg k1
       case measure => have := HK1.out; omega
       case rel => exact ⟨(wrap64 (x3_1 + (((rd_T41 l0 x4_1).f2).length : Int))), (wrap64 (x4_1 + 1)), (by first | rfl | (simp; done) | (simp [*]; done)), (by first | rfl | (simp; done) | (simp [*]; done)), H', ⟨by have := HK1.out; omega⟩, by repeat (first | exact Drawn0.refl _ | apply Drawn0.step)⟩
     · rw [if_neg c3] at H
       exact absurd H (by simp)
   · rw [if_neg c2] at H
     have c2b0 : decide (x4_1 < (l0.length : Int)) = false := decide_eq_false c2
     clear c2
     obtain rfl := Option.some.inj H
     go_wp2
     go_ret
     exact ⟨by first | rfl | (simp; done) | (simp [*]; done), by repeat (first | exact Drawn0.refl _ | apply Drawn0.step)⟩
theorem eqA43 (d : Nat) (w : World) (x0 y0 : ByteArray) (x1 y1 : Int) (x2 y2 : Bool) :
 (Op.equalIn (d + 2) 43 (.agg #[.string x0, .int .i64 x1, .bool x2]) (.agg #[.string y0, .int .i64 y1, .bool y2])).run Tryz.prog w = .ok (x0.toList == y0.toList && (x1 == y1 && (x2 == y2))) w := by
 refine eqA_of Tryz.underlying43 (by kernel_rfl) ?_
 refine eqf_cons (by rfl) (by go_simp; rfl) (by go_simp; rfl) (by go_simp) ?_
 refine eqf_cons (by rfl) (by go_simp; rfl) (by go_simp; rfl) (by go_simp) ?_
 exact eqf_last (by rfl) (by go_simp; rfl) (by go_simp; rfl) (by go_simp)
end Go.Proofs.YtkipkbggnfllkaaGreatDoor.P
end
