/- What is proved here is used by the law's card: Ftmplpiece, Ftmplpieces, Builder, Figs, Join, PutVar, PutText, Fphalaroperef07Few, Fphalaroperef02Alpha, Fphalaroperef02Digit, Fphalaroperef02Word, Fphalaroperef02Hex, Fphalaroperef03Triplet, Fphalaro. -/
import Derived.Test.YtkipkbggnfllkaaGreatDoorCt1
import Derived.Test.YtkipkbggnfllkaaGreatDoorProg
import Derived.Lib.Strings
import Derived.Lib.Slices
import Derived.Lib.Walk
import Derived.Lib.Builder
import Derived.Lib.OthersKept
import Derived.Lib.AppendStr
import Derived.Lib.UnsafeStr
import Derived.Lib.MakeNoZero
import Derived.Shelf.Strings.BuilderX
import Derived.WalkKit
import Derived.Laws.Externs
import Derived.Laws.IdiomCopy
import Derived.KernelRfl
section
namespace Go.Proofs.YtkipkbggnfllkaaGreatDoor.P
open Go.RowKit Go.Proofs.YtkipkbggnfllkaaGreatDoorW.PrintWords Go.Proofs.YtkipkbggnfllkaaGreatDoorW.PrintLast Go.Proofs.YtkipkbggnfllkaaGreatDoorW.PrintMore
attribute [local go_sem] max2_int min2_int max_two min_two max_three min_three max_four min_four
set_option linter.unusedVariables false
set_option linter.unusedSimpArgs false
def tmpl_piece.f (k : Nat) (a0 : ByteArray) : Option (Int) := (ucs_Take.f k a0).bind fun bt355 => (if a0.toList = ([] : List UInt8) then (some 0) else ((chars_Literal.f).bind fun t357 => (if 0 < (a0.size : Int) then ((chars_Set_Has.f t357 (bt a0 0)).bind fun t358 => (if t358 = true then (some 1) else ((pct_Triplet.f k a0).bind fun t359 => (if t359 = true then ((pct_One.f 0).bind fun t360 => (some (t360.size : Int))) else (some bt355.2))))) else (none))))
theorem tmpl_piece.mono : ∀ a0 k, LeO (tmpl_piece.f k a0) (tmpl_piece.f (k + 1) a0) := by
 intro a0 k
 unfold tmpl_piece.f
 repeat' first
  | (with_reducible exact pct_Triplet.mono _ _)
  | (with_reducible exact ucs_Take.mono _ _)
  | (with_reducible exact LeO.refl _)
  | (with_reducible exact LeO.none _)
  | (with_reducible refine LeO.ite ?_ ?_)
  | (with_reducible refine LeO.bind ?_ (fun _ => ?_))
  | exact pct_Triplet.mono _ _
  | exact ucs_Take.mono _ _
  | exact LeO.none _
  | refine LeO.ite ?_ ?_
  | refine LeO.bind ?_ (fun _ => ?_)
set_option maxHeartbeats 8000000 in
set_option maxRecDepth 100000 in
theorem tmpl_piece.calls (k : Nat) (a0 : ByteArray) (r : Int) (w : World) (h : tmpl_piece.f k a0 = some r) :
 Calls Tryz.prog 54 #[.string a0] w fun e w' => e = .returned (.int .i64 r) ∧ Below w.heap.size w w' := by
 have HB := Aside0.mk (Below.refl w.heap.size w)
 have H : ((ucs_Take.f k a0).bind fun bt355 => (if a0.toList = ([] : List UInt8) then (some 0) else ((chars_Literal.f).bind fun t357 => (if 0 < (a0.size : Int) then ((chars_Set_Has.f t357 (bt a0 0)).bind fun t358 => (if t358 = true then (some 1) else ((pct_Triplet.f k a0).bind fun t359 => (if t359 = true then ((pct_One.f 0).bind fun t360 => (some (t360.size : Int))) else (some bt355.2))))) else (none))))) = some r := h
 clear h
 replace H := Option.bind_eq_some_iff.mp H
 obtain ⟨⟨t355, t356⟩, A20, H⟩ := H
 replace H : (if a0.toList = ([] : List UInt8) then (some 0) else ((chars_Literal.f).bind fun t357 => (if 0 < (a0.size : Int) then ((chars_Set_Has.f t357 (bt a0 0)).bind fun t358 => (if t358 = true then (some 1) else ((pct_Triplet.f k a0).bind fun t359 => (if t359 = true then ((pct_One.f 0).bind fun t360 => (some (t360.size : Int))) else (some t356))))) else (none)))) = some r := H
 have A2 := Aside0.mk A20
 clear A20
 by_cases c3 : a0.toList = ([] : List UInt8)
 · rw [if_pos c3] at H
   have c3b0 : (a0.toList == ([] : List UInt8)) = true := beq_iff_eq.mpr c3
   have c3b1 : (a0.toList != ([] : List UInt8)) = false := bne_eq_false_iff_eq.mpr c3
   clear c3
   obtain rfl := Option.some.inj H
   go_enter Tryz.func54, Tryz.ntmps54
   go_wp2_with (first | ((with_reducible refine gate_callee (f := 73) rfl ?_); refine goesL_ (some 7) rfl rfl Tryz.func73 (by kernel_rfl) rfl #[.string a0] rfl (by (try simp only [List.map_toArray, List.map_cons, List.map_nil]); first | done | rfl | (simp only [List.length_drop, List.length_take]; rfl)) ?_; (with_reducible refine (ucs_Take.calls k a0 t355 t356 _ A2.out).mono ?_); rintro e w4 ⟨rfl, hb⟩; refine ⟨_, rfl, ?_⟩; have n0_ := Aside0.mk (below_step (by repeat (first | (with_reducible first | exact HB.out | apply below_alloc | apply pw_below_drewN | apply below_drew1) | exact HB.out)) hb); clear HB; have HB := n0_; clear n0_; (try clear hb); (try clear hb2); (try clear hk); (try clear hi)))
   go_ret
   exact ⟨by first | rfl | (simp [errW_none, errW_some] <;> rfl) | (simp [*, errW_none, errW_some] <;> rfl), by repeat (first | (with_reducible first | exact HB.out | apply below_alloc | apply pw_below_drewN | apply below_drew1) | exact HB.out)⟩
 · rw [if_neg c3] at H
   have c3b0 : (a0.toList == ([] : List UInt8)) = false := beq_eq_false_iff_ne.mpr c3
   have c3b1 : (a0.toList != ([] : List UInt8)) = true := bne_iff_ne.mpr c3
   replace H := Option.bind_eq_some_iff.mp H
   obtain ⟨t357, A50, H⟩ := H
   replace H : (if 0 < (a0.size : Int) then ((chars_Set_Has.f t357 (bt a0 0)).bind fun t358 => (if t358 = true then (some 1) else ((pct_Triplet.f k a0).bind fun t359 => (if t359 = true then ((pct_One.f 0).bind fun t360 => (some (t360.size : Int))) else (some t356))))) else (none)) = some r := H
   have A5 := Aside0.mk A50
   clear A50
   by_cases c6 : 0 < (a0.size : Int)
   · rw [if_pos c6] at H
     have c6b0 : decide (0 < (a0.size : Int)) = true := decide_eq_true c6
     have c6b1 : decide (0 < a0.size) = true := decide_eq_true (by omega)
     clear c6
     replace H := Option.bind_eq_some_iff.mp H
     obtain ⟨t358, A80, H⟩ := H
     replace H : (if t358 = true then (some 1) else ((pct_Triplet.f k a0).bind fun t359 => (if t359 = true then ((pct_One.f 0).bind fun t360 => (some (t360.size : Int))) else (some t356)))) = some r := H
     have A8 := Aside0.mk A80
     clear A80
     by_cases c9 : t358 = true
     · subst c9
       have H1 : (some 1) = some r := by rw [if_pos rfl] at H; exact H
       clear H
       have H := H1
       clear H1
       obtain rfl := Option.some.inj H
       go_enter Tryz.func54, Tryz.ntmps54
       try go_wp2_with (first | ((with_reducible refine gate_callee (f := 73) rfl ?_); refine goesL_ (some 7) rfl rfl Tryz.func73 (by kernel_rfl) rfl #[.string a0] rfl (by (try simp only [List.map_toArray, List.map_cons, List.map_nil]); first | done | rfl | (simp only [List.length_drop, List.length_take]; rfl)) ?_; (with_reducible refine (ucs_Take.calls k a0 t355 t356 _ A2.out).mono ?_); rintro e w10 ⟨rfl, hb⟩; refine ⟨_, rfl, ?_⟩; have n0_ := Aside0.mk (below_step (by repeat (first | (with_reducible first | exact HB.out | apply below_alloc | apply pw_below_drewN | apply below_drew1) | exact HB.out)) hb); clear HB; have HB := n0_; clear n0_; (try clear hb); (try clear hb2); (try clear hk); (try clear hi)))
       have n0_ := Aside0.mk (below_drew1 HB.out)
       clear HB
       have HB := n0_
       clear n0_
       have p7 : 0 ≤ (0 : Int) := (by omega)
       have q7 : 0 < a0.size := (by have : (0 : Int) < (a0.size : Int) := of_decide_eq_true (by first | (with_reducible assumption) | assumption); omega)
       have hx7 : ∀ h : 0 < a0.size, ((a0[0]'h).toNat : Int) = bt a0 0 := bt_at a0 0
       clear p7
       have qi7 : (0 < (a0.size : Int)) = True := eq_true (of_decide_eq_true (by first | (with_reducible assumption) | assumption))
       replace q7 := eq_true q7
       refine start_ (n := 5) (S := fun w' => True) (ds := []) #[false, false, false, false, false] (by kernel_rfl) rfl rfl trivial (fun hHeld => ?_)
       generalize w10.drew = w11 at HB hHeld ⊢
       refine pure_ (i := 1) (N := some 15) (v := ?_) (a' := ?_) #[false, true, false, false, false] rfl rfl (by kernel_rfl) (fun _ _ _ h => h) (Or.inl ⟨by rfl, ?_⟩) ?_ ?_
       rotate_left
       · intro w'
         go_simp
         with_reducible rfl
       rotate_left
       · simp only [Act.put, List.setIfInBounds_toArray, List.set_cons_zero, List.set_cons_succ, i64_w, i32_w]
         rfl
       refine take_ (i := 2) (N := some 16) (v := ?_) (a' := ?_) #[false, true, true, false, false] rfl rfl (by kernel_rfl) (fun _ _ _ h => h) (Or.inl ⟨by rfl, ?_⟩) hHeld ?_ ?_
       rotate_left
       · intro w' _
         go_simp
         with_reducible rfl
       rotate_left
       · simp only [Act.put, List.setIfInBounds_toArray, List.set_cons_zero, List.set_cons_succ, i64_w, i32_w]
         rfl
       refine one_ (i := 0) (N := some 14) #[true, true, true, false, false] rfl rfl (by kernel_rfl) (by decide) (fun K hK => ?_)
       refine goes_ Tryz.func74 (by kernel_rfl) rfl #[] (by rfl) rfl rfl (by (try simp only [List.map_toArray, List.map_cons, List.map_nil]); first | done | rfl | (simp only [List.length_drop, List.length_take]; rfl)) ?_
       with_reducible refine (chars_Literal.calls  t357 _ A5.out).mono ?_
       rintro e w12 ⟨rfl, hb⟩
       refine ⟨_, rfl, ?_⟩
       have n0_ := Aside0.mk (below_step (by repeat (first | (with_reducible first | exact HB.out | apply below_alloc | apply pw_below_drewN | apply below_drew1) | exact HB.out)) hb)
       clear HB
       have HB := n0_
       clear n0_
       (try clear hb)
       (try clear hb2)
       (try clear hk)
       (try clear hi)
       refine hK.out _ _ trivial (fun hHeld => ?_)
       clear hK K
       refine norm_ (a' := ?_) ?_ ?_
       rotate_left
       · show Act.put _ (some 14) _ = _
         simp only [Act.put, List.setIfInBounds_toArray, List.set_cons_zero, List.set_cons_succ, i64_w, i32_w]
         rfl
       refine one_ (i := 3) (N := some 17) #[true, true, true, true, false] rfl rfl (by kernel_rfl) (by decide) (fun K hK => ?_)
       refine goes_ Tryz.func56 (by kernel_rfl) rfl #[setV t357, .int .u8 (bt a0 0)] (by rfl) rfl rfl (by (try simp only [List.map_toArray, List.map_cons, List.map_nil]); first | done | rfl | (simp only [List.length_drop, List.length_take]; rfl)) ?_
       with_reducible refine (chars_Set_Has.calls t357 (bt a0 0) true _ A8.out).mono ?_
       rintro e w13 ⟨rfl, hb⟩
       refine ⟨_, rfl, ?_⟩
       have n0_ := Aside0.mk (below_step (by repeat (first | (with_reducible first | exact HB.out | apply below_alloc | apply pw_below_drewN | apply below_drew1) | exact HB.out)) hb)
       clear HB
       have HB := n0_
       clear n0_
       (try clear hb)
       (try clear hb2)
       (try clear hk)
       (try clear hi)
       refine hK.out _ _ trivial (fun hHeld => ?_)
       clear hK K
       refine norm_ (a' := ?_) ?_ ?_
       rotate_left
       · show Act.put _ (some 17) _ = _
         simp only [Act.put, List.setIfInBounds_toArray, List.set_cons_zero, List.set_cons_succ, i64_w, i32_w]
         rfl
       refine pure_ (i := 4) (N := some 13) (v := ?_) (a' := ?_) #[true, true, true, true, true] rfl rfl (by kernel_rfl) (fun _ _ _ h => h) (Or.inl ⟨by rfl, ?_⟩) ?_ ?_
       rotate_left
       · intro w'
         go_simp
         with_reducible rfl
       rotate_left
       · simp only [Act.put, List.setIfInBounds_toArray, List.set_cons_zero, List.set_cons_succ, i64_w, i32_w]
         rfl
       refine done_ (by kernel_rfl) ?_
       try go_wp2
       go_ret
       exact ⟨by first | rfl | (simp [errW_none, errW_some] <;> rfl) | (simp [*, errW_none, errW_some] <;> rfl), by repeat (first | (with_reducible first | exact HB.out | apply below_alloc | apply pw_below_drewN | apply below_drew1) | exact HB.out)⟩
     · replace c9 := Bool.eq_false_iff.mpr c9
       subst c9
       have H1 : ((pct_Triplet.f k a0).bind fun t359 => (if t359 = true then ((pct_One.f 0).bind fun t360 => (some (t360.size : Int))) else (some t356))) = some r := by rw [if_neg (show ¬ (false = true) by decide)] at H; exact H
       clear H
       have H := H1
       clear H1
       replace H := Option.bind_eq_some_iff.mp H
       obtain ⟨t359, A140, H⟩ := H
       replace H : (if t359 = true then ((pct_One.f 0).bind fun t360 => (some (t360.size : Int))) else (some t356)) = some r := H
       have A14 := Aside0.mk A140
       clear A140
       by_cases c15 : t359 = true
       · subst c15
         have H1 : ((pct_One.f 0).bind fun t360 => (some (t360.size : Int))) = some r := by rw [if_pos rfl] at H; exact H
         clear H
         have H := H1
         clear H1
         replace H := Option.bind_eq_some_iff.mp H
         obtain ⟨t360, A160, H⟩ := H
         replace H : (some (t360.size : Int)) = some r := H
         have A16 := Aside0.mk A160
         clear A160
         obtain rfl := Option.some.inj H
         go_enter Tryz.func54, Tryz.ntmps54
         try go_wp2_with (first | ((with_reducible refine gate_callee (f := 73) rfl ?_); refine goesL_ (some 7) rfl rfl Tryz.func73 (by kernel_rfl) rfl #[.string a0] rfl (by (try simp only [List.map_toArray, List.map_cons, List.map_nil]); first | done | rfl | (simp only [List.length_drop, List.length_take]; rfl)) ?_; (with_reducible refine (ucs_Take.calls k a0 t355 t356 _ A2.out).mono ?_); rintro e w17 ⟨rfl, hb⟩; refine ⟨_, rfl, ?_⟩; have n0_ := Aside0.mk (below_step (by repeat (first | (with_reducible first | exact HB.out | apply below_alloc | apply pw_below_drewN | apply below_drew1) | exact HB.out)) hb); clear HB; have HB := n0_; clear n0_; (try clear hb); (try clear hb2); (try clear hk); (try clear hi)))
         have n0_ := Aside0.mk (below_drew1 HB.out)
         clear HB
         have HB := n0_
         clear n0_
         have p7 : 0 ≤ (0 : Int) := (by omega)
         have q7 : 0 < a0.size := (by have : (0 : Int) < (a0.size : Int) := of_decide_eq_true (by first | (with_reducible assumption) | assumption); omega)
         have hx7 : ∀ h : 0 < a0.size, ((a0[0]'h).toNat : Int) = bt a0 0 := bt_at a0 0
         clear p7
         have qi7 : (0 < (a0.size : Int)) = True := eq_true (of_decide_eq_true (by first | (with_reducible assumption) | assumption))
         replace q7 := eq_true q7
         refine start_ (n := 5) (S := fun w' => True) (ds := []) #[false, false, false, false, false] (by kernel_rfl) rfl rfl trivial (fun hHeld => ?_)
         generalize w17.drew = w18 at HB hHeld ⊢
         refine pure_ (i := 1) (N := some 15) (v := ?_) (a' := ?_) #[false, true, false, false, false] rfl rfl (by kernel_rfl) (fun _ _ _ h => h) (Or.inl ⟨by rfl, ?_⟩) ?_ ?_
         rotate_left
         · intro w'
           go_simp
           with_reducible rfl
         rotate_left
         · simp only [Act.put, List.setIfInBounds_toArray, List.set_cons_zero, List.set_cons_succ, i64_w, i32_w]
           rfl
         refine take_ (i := 2) (N := some 16) (v := ?_) (a' := ?_) #[false, true, true, false, false] rfl rfl (by kernel_rfl) (fun _ _ _ h => h) (Or.inl ⟨by rfl, ?_⟩) hHeld ?_ ?_
         rotate_left
         · intro w' _
           go_simp
           with_reducible rfl
         rotate_left
         · simp only [Act.put, List.setIfInBounds_toArray, List.set_cons_zero, List.set_cons_succ, i64_w, i32_w]
           rfl
         refine one_ (i := 0) (N := some 14) #[true, true, true, false, false] rfl rfl (by kernel_rfl) (by decide) (fun K hK => ?_)
         refine goes_ Tryz.func74 (by kernel_rfl) rfl #[] (by rfl) rfl rfl (by (try simp only [List.map_toArray, List.map_cons, List.map_nil]); first | done | rfl | (simp only [List.length_drop, List.length_take]; rfl)) ?_
         with_reducible refine (chars_Literal.calls  t357 _ A5.out).mono ?_
         rintro e w19 ⟨rfl, hb⟩
         refine ⟨_, rfl, ?_⟩
         have n0_ := Aside0.mk (below_step (by repeat (first | (with_reducible first | exact HB.out | apply below_alloc | apply pw_below_drewN | apply below_drew1) | exact HB.out)) hb)
         clear HB
         have HB := n0_
         clear n0_
         (try clear hb)
         (try clear hb2)
         (try clear hk)
         (try clear hi)
         refine hK.out _ _ trivial (fun hHeld => ?_)
         clear hK K
         refine norm_ (a' := ?_) ?_ ?_
         rotate_left
         · show Act.put _ (some 14) _ = _
           simp only [Act.put, List.setIfInBounds_toArray, List.set_cons_zero, List.set_cons_succ, i64_w, i32_w]
           rfl
         refine one_ (i := 3) (N := some 17) #[true, true, true, true, false] rfl rfl (by kernel_rfl) (by decide) (fun K hK => ?_)
         refine goes_ Tryz.func56 (by kernel_rfl) rfl #[setV t357, .int .u8 (bt a0 0)] (by rfl) rfl rfl (by (try simp only [List.map_toArray, List.map_cons, List.map_nil]); first | done | rfl | (simp only [List.length_drop, List.length_take]; rfl)) ?_
         with_reducible refine (chars_Set_Has.calls t357 (bt a0 0) false _ A8.out).mono ?_
         rintro e w20 ⟨rfl, hb⟩
         refine ⟨_, rfl, ?_⟩
         have n0_ := Aside0.mk (below_step (by repeat (first | (with_reducible first | exact HB.out | apply below_alloc | apply pw_below_drewN | apply below_drew1) | exact HB.out)) hb)
         clear HB
         have HB := n0_
         clear n0_
         (try clear hb)
         (try clear hb2)
         (try clear hk)
         (try clear hi)
         refine hK.out _ _ trivial (fun hHeld => ?_)
         clear hK K
         refine norm_ (a' := ?_) ?_ ?_
         rotate_left
         · show Act.put _ (some 17) _ = _
           simp only [Act.put, List.setIfInBounds_toArray, List.set_cons_zero, List.set_cons_succ, i64_w, i32_w]
           rfl
         refine pure_ (i := 4) (N := some 13) (v := ?_) (a' := ?_) #[true, true, true, true, true] rfl rfl (by kernel_rfl) (fun _ _ _ h => h) (Or.inl ⟨by rfl, ?_⟩) ?_ ?_
         rotate_left
         · intro w'
           go_simp
           with_reducible rfl
         rotate_left
         · simp only [Act.put, List.setIfInBounds_toArray, List.set_cons_zero, List.set_cons_succ, i64_w, i32_w]
           rfl
         refine done_ (by kernel_rfl) ?_
         try go_wp2_with (first | ((with_reducible refine gate_callee (f := 75) rfl ?_); refine goesL_ (some 20) rfl rfl Tryz.func75 (by kernel_rfl) rfl #[.string a0] rfl (by (try simp only [List.map_toArray, List.map_cons, List.map_nil]); first | done | rfl | (simp only [List.length_drop, List.length_take]; rfl)) ?_; (with_reducible refine (pct_Triplet.calls k a0 true _ A14.out).mono ?_); rintro e w' ⟨rfl, ⟨nd, rfl⟩⟩; refine ⟨_, rfl, ?_⟩) | ((with_reducible refine gate_callee (f := 76) rfl ?_); refine goesL_ (some 21) rfl rfl Tryz.func76 (by kernel_rfl) rfl #[.int .u8 0] rfl (by (try simp only [List.map_toArray, List.map_cons, List.map_nil]); first | done | rfl | (simp only [List.length_drop, List.length_take]; rfl)) ?_; (with_reducible refine (pct_One.calls 0 t360 _ A16.out).mono ?_); rintro e w21 ⟨rfl, hb⟩; refine ⟨_, rfl, ?_⟩; have n0_ := Aside0.mk (below_step (by repeat (first | (with_reducible first | exact HB.out | apply below_alloc | apply pw_below_drewN | apply below_drew1) | exact HB.out)) hb); clear HB; have HB := n0_; clear n0_; (try clear hb); (try clear hb2); (try clear hk); (try clear hi)))
         go_ret
         exact ⟨by first | rfl | (simp [errW_none, errW_some] <;> rfl) | (simp [*, errW_none, errW_some] <;> rfl), by repeat (first | (with_reducible first | exact HB.out | apply below_alloc | apply pw_below_drewN | apply below_drew1) | exact HB.out)⟩
       · replace c15 := Bool.eq_false_iff.mpr c15
         subst c15
         have H1 : (some t356) = some r := by rw [if_neg (show ¬ (false = true) by decide)] at H; exact H
         clear H
         have H := H1
         clear H1
         obtain rfl := Option.some.inj H
         go_enter Tryz.func54, Tryz.ntmps54
         try go_wp2_with (first | ((with_reducible refine gate_callee (f := 73) rfl ?_); refine goesL_ (some 7) rfl rfl Tryz.func73 (by kernel_rfl) rfl #[.string a0] rfl (by (try simp only [List.map_toArray, List.map_cons, List.map_nil]); first | done | rfl | (simp only [List.length_drop, List.length_take]; rfl)) ?_; (with_reducible refine (ucs_Take.calls k a0 t355 t356 _ A2.out).mono ?_); rintro e w22 ⟨rfl, hb⟩; refine ⟨_, rfl, ?_⟩; have n0_ := Aside0.mk (below_step (by repeat (first | (with_reducible first | exact HB.out | apply below_alloc | apply pw_below_drewN | apply below_drew1) | exact HB.out)) hb); clear HB; have HB := n0_; clear n0_; (try clear hb); (try clear hb2); (try clear hk); (try clear hi)))
         have n0_ := Aside0.mk (below_drew1 HB.out)
         clear HB
         have HB := n0_
         clear n0_
         have p7 : 0 ≤ (0 : Int) := (by omega)
         have q7 : 0 < a0.size := (by have : (0 : Int) < (a0.size : Int) := of_decide_eq_true (by first | (with_reducible assumption) | assumption); omega)
         have hx7 : ∀ h : 0 < a0.size, ((a0[0]'h).toNat : Int) = bt a0 0 := bt_at a0 0
         clear p7
         have qi7 : (0 < (a0.size : Int)) = True := eq_true (of_decide_eq_true (by first | (with_reducible assumption) | assumption))
         replace q7 := eq_true q7
         refine start_ (n := 5) (S := fun w' => True) (ds := []) #[false, false, false, false, false] (by kernel_rfl) rfl rfl trivial (fun hHeld => ?_)
         generalize w22.drew = w23 at HB hHeld ⊢
         refine pure_ (i := 1) (N := some 15) (v := ?_) (a' := ?_) #[false, true, false, false, false] rfl rfl (by kernel_rfl) (fun _ _ _ h => h) (Or.inl ⟨by rfl, ?_⟩) ?_ ?_
         rotate_left
         · intro w'
           go_simp
           with_reducible rfl
         rotate_left
         · simp only [Act.put, List.setIfInBounds_toArray, List.set_cons_zero, List.set_cons_succ, i64_w, i32_w]
           rfl
         refine take_ (i := 2) (N := some 16) (v := ?_) (a' := ?_) #[false, true, true, false, false] rfl rfl (by kernel_rfl) (fun _ _ _ h => h) (Or.inl ⟨by rfl, ?_⟩) hHeld ?_ ?_
         rotate_left
         · intro w' _
           go_simp
           with_reducible rfl
         rotate_left
         · simp only [Act.put, List.setIfInBounds_toArray, List.set_cons_zero, List.set_cons_succ, i64_w, i32_w]
           rfl
         refine one_ (i := 0) (N := some 14) #[true, true, true, false, false] rfl rfl (by kernel_rfl) (by decide) (fun K hK => ?_)
         refine goes_ Tryz.func74 (by kernel_rfl) rfl #[] (by rfl) rfl rfl (by (try simp only [List.map_toArray, List.map_cons, List.map_nil]); first | done | rfl | (simp only [List.length_drop, List.length_take]; rfl)) ?_
         with_reducible refine (chars_Literal.calls  t357 _ A5.out).mono ?_
         rintro e w24 ⟨rfl, hb⟩
         refine ⟨_, rfl, ?_⟩
         have n0_ := Aside0.mk (below_step (by repeat (first | (with_reducible first | exact HB.out | apply below_alloc | apply pw_below_drewN | apply below_drew1) | exact HB.out)) hb)
         clear HB
         have HB := n0_
         clear n0_
         (try clear hb)
         (try clear hb2)
         (try clear hk)
         (try clear hi)
         refine hK.out _ _ trivial (fun hHeld => ?_)
         clear hK K
         refine norm_ (a' := ?_) ?_ ?_
         rotate_left
         · show Act.put _ (some 14) _ = _
           simp only [Act.put, List.setIfInBounds_toArray, List.set_cons_zero, List.set_cons_succ, i64_w, i32_w]
           rfl
         refine one_ (i := 3) (N := some 17) #[true, true, true, true, false] rfl rfl (by kernel_rfl) (by decide) (fun K hK => ?_)
         refine goes_ Tryz.func56 (by kernel_rfl) rfl #[setV t357, .int .u8 (bt a0 0)] (by rfl) rfl rfl (by (try simp only [List.map_toArray, List.map_cons, List.map_nil]); first | done | rfl | (simp only [List.length_drop, List.length_take]; rfl)) ?_
         with_reducible refine (chars_Set_Has.calls t357 (bt a0 0) false _ A8.out).mono ?_
         rintro e w25 ⟨rfl, hb⟩
         refine ⟨_, rfl, ?_⟩
         have n0_ := Aside0.mk (below_step (by repeat (first | (with_reducible first | exact HB.out | apply below_alloc | apply pw_below_drewN | apply below_drew1) | exact HB.out)) hb)
         clear HB
         have HB := n0_
         clear n0_
         (try clear hb)
         (try clear hb2)
         (try clear hk)
         (try clear hi)
         refine hK.out _ _ trivial (fun hHeld => ?_)
         clear hK K
         refine norm_ (a' := ?_) ?_ ?_
         rotate_left
         · show Act.put _ (some 17) _ = _
           simp only [Act.put, List.setIfInBounds_toArray, List.set_cons_zero, List.set_cons_succ, i64_w, i32_w]
           rfl
         refine pure_ (i := 4) (N := some 13) (v := ?_) (a' := ?_) #[true, true, true, true, true] rfl rfl (by kernel_rfl) (fun _ _ _ h => h) (Or.inl ⟨by rfl, ?_⟩) ?_ ?_
         rotate_left
         · intro w'
           go_simp
           with_reducible rfl
         rotate_left
         · simp only [Act.put, List.setIfInBounds_toArray, List.set_cons_zero, List.set_cons_succ, i64_w, i32_w]
           rfl
         refine done_ (by kernel_rfl) ?_
         try go_wp2_with (first | ((with_reducible refine gate_callee (f := 75) rfl ?_); refine goesL_ (some 20) rfl rfl Tryz.func75 (by kernel_rfl) rfl #[.string a0] rfl (by (try simp only [List.map_toArray, List.map_cons, List.map_nil]); first | done | rfl | (simp only [List.length_drop, List.length_take]; rfl)) ?_; (with_reducible refine (pct_Triplet.calls k a0 false _ A14.out).mono ?_); rintro e w' ⟨rfl, ⟨nd, rfl⟩⟩; refine ⟨_, rfl, ?_⟩))
         go_ret
         exact ⟨by first | rfl | (simp [errW_none, errW_some] <;> rfl) | (simp [*, errW_none, errW_some] <;> rfl), by repeat (first | (with_reducible first | exact HB.out | apply below_alloc | apply pw_below_drewN | apply below_drew1) | exact HB.out)⟩
   · rw [if_neg c6] at H
     exact absurd H (by simp)
def tmpl_pieces.l0 : Nat → ByteArray → Int → Int → Option (Int)
 | 0, _, _, _ => none
 | k + 1, x0, x3, x4 => if x4 > 0 then (if 0 ≤ (wrap64 (x3 + x4)) then (if (wrap64 (x3 + x4)) ≤ (x0.size : Int) then ((tmpl_piece.f k (x0.extract ((wrap64 (x3 + x4)) : Int).toNat x0.size)).bind fun t362 => (tmpl_pieces.l0 k x0 (wrap64 (x3 + x4)) t362)) else (none)) else (none)) else (some x3)
def tmpl_pieces.f (k : Nat) (a0 : ByteArray) : Option (Int) := (tmpl_piece.f k a0).bind fun t361 => (tmpl_pieces.l0 k a0 0 t361)
theorem tmpl_pieces.mono_l : ∀ k, (∀ y0 y1 y2, LeO (tmpl_pieces.l0 k y0 y1 y2) (tmpl_pieces.l0 (k + 1) y0 y1 y2))
 | 0 => fun _ _ _ r h => by simp [tmpl_pieces.l0] at h
 | k + 1 => by
  have ih0 := tmpl_pieces.mono_l k
  · intro y0 y1 y2
    unfold tmpl_pieces.l0
    repeat' first
    | (with_reducible exact ih0 _ _ _)
    | (with_reducible exact tmpl_piece.mono _ _)
    | (with_reducible exact LeO.refl _)
    | (with_reducible exact LeO.none _)
    | (with_reducible refine LeO.ite ?_ ?_)
    | (with_reducible refine LeO.bind ?_ (fun _ => ?_))
    | exact ih0 _ _ _
    | exact tmpl_piece.mono _ _
    | exact LeO.none _
    | refine LeO.ite ?_ ?_
    | refine LeO.bind ?_ (fun _ => ?_)
theorem tmpl_pieces.mono : ∀ a0 k, LeO (tmpl_pieces.f k a0) (tmpl_pieces.f (k + 1) a0) := by
 intro a0 k
 have ih0 := tmpl_pieces.mono_l k
 unfold tmpl_pieces.f
 repeat' first
  | (with_reducible exact ih0 _ _ _)
  | (with_reducible exact tmpl_piece.mono _ _)
  | (with_reducible exact LeO.refl _)
  | (with_reducible exact LeO.none _)
  | (with_reducible refine LeO.ite ?_ ?_)
  | (with_reducible refine LeO.bind ?_ (fun _ => ?_))
  | exact ih0 _ _ _
  | exact tmpl_piece.mono _ _
  | exact LeO.none _
  | refine LeO.ite ?_ ?_
  | refine LeO.bind ?_ (fun _ => ?_)
set_option maxHeartbeats 8000000 in
set_option maxRecDepth 100000 in
theorem tmpl_pieces.calls (k : Nat) (a0 : ByteArray) (r : Int) (w : World) (h : tmpl_pieces.f k a0 = some r) :
 Calls Tryz.prog 39 #[.string a0] w fun e w' => e = .returned (.int .i64 r) ∧ Below w.heap.size w w' := by
 have HB := Aside0.mk (Below.refl w.heap.size w)
 have H : ((tmpl_piece.f k a0).bind fun t361 => (tmpl_pieces.l0 k a0 0 t361)) = some r := h
 clear h
 replace H := Option.bind_eq_some_iff.mp H
 obtain ⟨t361, A20, H⟩ := H
 replace H : (tmpl_pieces.l0 k a0 0 t361) = some r := H
 have A2 := Aside0.mk A20
 clear A20
 have H' := Aside0.mk H
 clear H
 go_enter Tryz.func39, Tryz.ntmps39
 go_wp2_with (first | ((with_reducible refine gate_callee (f := 54) rfl ?_); refine goesL_ (some 6) rfl rfl Tryz.func54 (by kernel_rfl) rfl #[.string a0] rfl (by (try simp only [List.map_toArray, List.map_cons, List.map_nil]); first | done | rfl | (simp only [List.length_drop, List.length_take]; rfl)) ?_; (with_reducible refine (tmpl_piece.calls k a0 t361 _ A2.out).mono ?_); rintro e w3 ⟨rfl, hb⟩; refine ⟨_, rfl, ?_⟩; have n0_ := Aside0.mk (below_step (by repeat (first | (with_reducible first | exact HB.out | apply below_alloc | apply pw_below_drewN | apply below_drew1) | exact HB.out)) hb); clear HB; have HB := n0_; clear n0_; (try clear hb); (try clear hb2); (try clear hk); (try clear hi)))
 go_loopg [3, 4] k (fun kq v3 v4 w' => ∃ (x3_1 : Int) (x4_1 : Int), v3 = .int .i64 x3_1 ∧ v4 = .int .i64 x4_1 ∧ Aside0 (tmpl_pieces.l0 kq a0 x3_1 x4_1 = some r) ∧ Aside0 (kq ≤ k) ∧ Aside0 (Below w.heap.size w w'))
 case atStart => exact ⟨(0), (t361), (by first | rfl | (simp; done) | (simp [*]; done)), (by first | rfl | (simp; done) | (simp [*]; done)), H', ⟨Nat.le_refl _⟩, ⟨by repeat (first | (with_reducible first | exact HB.out | apply below_alloc | apply pw_below_drewN | apply below_drew1) | exact HB.out)⟩⟩
 case round =>
  clear H'
  try clear p2
  try clear c3
  obtain ⟨x3_1, x4_1, rfl, rfl, HA, HK1, HB⟩ := hrel
  cases gk with
  | zero => exact absurd HA.out (by simp [tmpl_pieces.l0])
  | succ k1 =>
   have H := HA.out
   clear HA
   simp only [tmpl_pieces.l0] at H
   by_cases c4 : x4_1 > 0
   · rw [if_pos c4] at H
     have c4b0 : decide (0 < x4_1) = true := decide_eq_true c4
     clear c4
     obtain ⟨ji5, hji5⟩ : ∃ j_ : Int, (wrap64 (x3_1 + x4_1)) = j_ := ⟨_, rfl⟩
     replace H : (if 0 ≤ (ji5) then (if (ji5) ≤ (a0.size : Int) then ((tmpl_piece.f k1 (a0.extract ((ji5) : Int).toNat a0.size)).bind fun t362 => (tmpl_pieces.l0 k1 a0 ji5 t362)) else (none)) else (none)) = some r := by first | (rw [hji5] at H; exact H) | (simp only [hji5] at H ⊢; exact H)
     have hji5w : (IntKind.i64.wrap (x3_1 + x4_1)) = ji5 := (i64_w _).trans hji5
     by_cases c6 : 0 ≤ (ji5)
     · rw [if_pos c6] at H
       have c6b0 := eq_true c6
       have c6b1 : decide (0 ≤ (ji5)) = true := decide_eq_true c6
       clear c6
       by_cases c7 : (ji5) ≤ (a0.size : Int)
       · rw [if_pos c7] at H
         have c7b0 := eq_true c7
         have c7b1 : decide ((ji5) ≤ (a0.size : Int)) = true := decide_eq_true c7
         clear c7
         replace H := Option.bind_eq_some_iff.mp H
         obtain ⟨t362, A80, H⟩ := H
         replace H : (tmpl_pieces.l0 k1 a0 ji5 t362) = some r := H
         have A8 := Aside0.mk A80
         clear A80
         have H' := Aside0.mk H
         clear H
         go_wp2_with (first | ((with_reducible refine gate_callee (f := 54) rfl ?_); refine goesL_ (some 12) rfl rfl Tryz.func54 (by kernel_rfl) rfl #[.string (a0.extract ((ji5) : Int).toNat a0.size)] rfl (by (try simp only [List.map_toArray, List.map_cons, List.map_nil]); first | done | (simp only [hji5]; rfl) | rfl | (simp only [List.length_drop, List.length_take]; rfl)) ?_; (with_reducible refine (tmpl_piece.calls k1 (a0.extract ((ji5) : Int).toNat a0.size) t362 _ A8.out).mono ?_); rintro e w9 ⟨rfl, hb⟩; refine ⟨_, rfl, ?_⟩; have n0_ := Aside0.mk (below_step (by repeat (first | (with_reducible first | exact HB.out | apply below_alloc | apply pw_below_drewN | apply below_drew1) | exact HB.out)) hb); clear HB; have HB := n0_; clear n0_; (try clear hb); (try clear hb2); (try clear hk); (try clear hi)))
         go_roundg k1
         case measure => have := HK1.out; omega
         case rel => exact ⟨(ji5), (t362), (by first | rfl | (simp; done) | (simp only [← hji5] <;> (first | rfl | simp)) | (simp [*]; done)), (by first | rfl | (simp; done) | (simp [*]; done)), H', ⟨by have := HK1.out; omega⟩, ⟨by repeat (first | (with_reducible first | exact HB.out | apply below_alloc | apply pw_below_drewN | apply below_drew1) | exact HB.out)⟩⟩
       · rw [if_neg c7] at H
         exact absurd H (by simp)
     · rw [if_neg c6] at H
       exact absurd H (by simp)
   · rw [if_neg c4] at H
     have c4b0 : decide (0 < x4_1) = false := decide_eq_false c4
     clear c4
     obtain rfl := Option.some.inj H
     go_wp2
     go_ret
     exact ⟨by first | rfl | (simp [errW_none, errW_some] <;> rfl) | (simp [*, errW_none, errW_some] <;> rfl), by repeat (first | (with_reducible first | exact HB.out | apply below_alloc | apply pw_below_drewN | apply below_drew1) | exact HB.out)⟩
end Go.Proofs.YtkipkbggnfllkaaGreatDoor.P
end
section
set_option linter.unusedVariables false
namespace Go.Proofs.YtkipkbggnfllkaaGreatDoor.P
open Go.RowKit Go.Proofs
theorem enters_b {P : Program} {f : FuncId} {fn : Func} {c : Code} (hf : P.funcs[f]? = some fn) (hname : (fn.name == "runtime.NumGoroutine") = false) (hb : fn.body = some c) :
 ∀ (args : Array Value) (w : World), (callFunc f args).run P w = .ok (.enter f args) w := by
 intro args w
 have h1 : fn.name ≠ "runtime.NumGoroutine" := by simpa using hname
 simp [callFunc, hf, h1, hb, mark]
set_option maxHeartbeats 1000000 in
set_option maxRecDepth 100000 in
theorem builder_used (b : Nat) (w : World) (h0 : w.cell? ⟨b, 0, none⟩ = some (.pointer (some ⟨b, 0, none⟩))) :
 Calls Tryz.prog 48 #[.pointer (some ⟨b, 0, none⟩)] w fun e w' => e = .returned (.tuple #[]) ∧ w' = w := by
 obtain ⟨j, hj, _⟩ := Option.map_eq_some_iff.1 (show (Tryz.prog.info? 60).map (·.size) = some 2 by kernel_rfl)
 go_enter Tryz.func48, Tryz.ntmps48
 go_wp2
 rw [Lib.run_neq_ptr_same w _ Tryz.underlying57 hj]
 go_wp2
 go_end0
 exact ⟨rfl, rfl⟩
set_option maxHeartbeats 1000000 in
set_option maxRecDepth 100000 in
theorem builder_fresh (b : Nat) (w : World) (h0 : w.cell? ⟨b, 0, none⟩ = some (.pointer none)) (hsh : w.shape? b = some (60, 2)) (hfz : w.frozen? ⟨b, 0, none⟩ = false) :
 Calls Tryz.prog 48 #[.pointer (some ⟨b, 0, none⟩)] w fun e w' => e = .returned (.tuple #[]) ∧ w' = w.setCell ⟨b, 0, none⟩ (.pointer (some ⟨b, 0, none⟩)) := by
 obtain ⟨j, hj, hjs⟩ := Option.map_eq_some_iff.1 (show (Tryz.prog.info? 60).map (·.size) = some 2 by kernel_rfl)
 go_enter Tryz.func48, Tryz.ntmps48
 go_wp2
 rw [Lib.run_to_unsafe w ⟨b, 0, none⟩ Tryz.underlying57 Tryz.underlying95 hj (by rw [hjs]; decide) hsh (Nat.zero_lt_succ 1)]
 simp only [Result.andThen]
 rw [Oper.upon_value]
 go_wp2
 rw [run_callFunc_extern Tryz.func67 (by kernel_rfl) (by kernel_rfl) (by kernel_rfl) (e := Extern.AbiNoEscape.same) (by kernel_rfl)]
 rw [Lib.run_noEscape]
 simp only [Result.andThen]
 rw [Oper.upon_value]
 go_wp2
 rw [Lib.run_from_unsafe w ⟨b, 0, none⟩ Tryz.underlying95 Tryz.underlying57 hj hsh (by kernel_rfl)]
 simp only [Result.andThen]
 rw [Oper.upon_value]
 go_wp2
 go_end0
 exact ⟨rfl, rfl⟩
theorem builder_copyCheck (B b : Nat) (bs : List Value) (w : World) (h : Lib.IsBuilder 60 5 B b bs w) :
 Calls Tryz.prog 48 #[.pointer (some ⟨b, 0, none⟩)] w fun e w' => e = .returned (.tuple #[]) ∧ (Lib.BuilderAt 60 5 B b (.pointer (some ⟨b, 0, none⟩)) bs w' ∧ Below B w w' ∧ Lib.OthersKept 5 (some b) w w') := by
 rcases h with h | h
 · refine (builder_fresh b w h.cell0 h.shape h.frozen0).mono ?_
   rintro e w' ⟨rfl, rfl⟩
   exact ⟨rfl, h.used _, (Below.refl B w).setCell (p := ⟨b, 0, none⟩) h.1 _, (Lib.OthersKept.refl _ _ w).setCell ⟨b, 0, none⟩ rfl _⟩
 · refine (builder_used b w h.cell0).mono ?_
   rintro e w' ⟨rfl, rfl⟩
   exact ⟨rfl, h, Below.refl B _, Lib.OthersKept.refl _ _ _⟩
theorem row_kind {w : World} {B e size n : Nat} {v : Value} {xs : List Value} (h : w.ownsRow B e size v n xs) : ∀ g, v.ownBlock = some g → ∃ c fz, w.heap[g]? = some (.cells c e fz) := by
 intro g hg
 rcases h.2 with ⟨rfl, _⟩ | ⟨g', cap, cur, rfl, _, hh, _⟩
 · cases hg
 · cases hg
   exact ⟨cur, (0, 0), hh⟩
theorem builder_info : (Tryz.prog.info? 5).map (fun i => (i.zero, i.size, i.bytes)) = some (some (.int .u8 0), 1, 1) := by kernel_rfl
set_option maxHeartbeats 2000000 in
set_option maxRecDepth 100000 in
theorem builder_WriteByte (B b : Nat) (bs : List Value) (c : Int) (w : World) (h : Lib.IsBuilder 60 5 B b bs w) (hlen : bs.length + 1 ≤ 140737488355328) (hBw : B ≤ w.heap.size) :
 Calls Tryz.prog 31 #[.pointer (some ⟨b, 0, none⟩), .int .u8 c] w fun e w' => e = .returned .nilIface ∧ (Lib.BuilderAt 60 5 B b (.pointer (some ⟨b, 0, none⟩)) (bs ++ [.int .u8 c]) w' ∧ Below B w w' ∧ Lib.OthersKept 5 (some b) w w') := by
 obtain ⟨i0, hi, hz0, hz1, hz2⟩ := info_parts builder_info
 have e240 := enters_b Tryz.func48 (by kernel_rfl) rfl
 go_enter Tryz.func31, Tryz.ntmps31
 go_wp2_with (go_at_call 48; refine (builder_copyCheck B b bs _ h).mono ?_)
 rintro e w1 ⟨rfl, h1, hb1, hk1⟩
 obtain ⟨hB, v, hbk, hown, hne⟩ := h1
 have c0 : w1.cell? ⟨b, 0, none⟩ = some (.pointer (some ⟨b, 0, none⟩)) := by rw [Lib.cell_of_heap hbk]; rfl
 have c1 : w1.cell? ⟨b, 1, none⟩ = some v := by rw [Lib.cell_of_heap hbk]; rfl
 go_wp2_with (at_builtin; refine wpList_append_own _ rfl _ _ 58 rfl B 5 i0 (.int .u8 0) 1 1 Tryz.underlying58 hi hz0 hz1 hz2 rfl (by decide) _ _ _ rfl (hown.alloc _) ⟨w1.heap.size, 0, none⟩ 1 1 [.int .u8 c] rfl rfl ?c1 ?c2 ?c3 ?c4 ?c5 ?_)
 case c1 =>
  intro j u hj
  match j, hj with
  | 0, hj => simp at hj; subst hj; simp [Addr.add]
 case c2 => intro u hu; simp at hu; subst hu; rfl
 case c3 => unfold maxLen; omega
 case c4 => omega
 case c5 => have := hb1.size; simp; omega
 intro v' w2 hown' hgrow _
 have hlt : b < w1.heap.size := by
  rcases Nat.lt_or_ge b w1.heap.size with h' | h'
  · exact h'
  · simp [Array.getElem?_eq_none h'] at hbk
 have hb2 : w2.heap[b]? = some (.cells #[.pointer (some ⟨b, 0, none⟩), v] 60 (0, 0)) := by
  rw [hgrow.block b (by simp; omega) (fun e => hne e.symm), Lib.alloc_old w1 _ b hlt]
  exact hbk
 have d0 : w2.cell? ⟨b, 0, none⟩ = some (.pointer (some ⟨b, 0, none⟩)) := by rw [Lib.cell_of_heap hb2]; rfl
 have d1 : w2.cell? ⟨b, 1, none⟩ = some v := by rw [Lib.cell_of_heap hb2]; rfl
 have f1 : w2.frozen? ⟨b, 1, none⟩ = false := Lib.frozen_of_heap hb2 1
 obtain ⟨g, cap, rfl⟩ : ∃ g cap, v' = .slice (some ⟨g, 0, none⟩) (bs.length + 1) cap := by
  rcases hown'.2 with ⟨_, h0⟩ | ⟨g, cap, cur, hv, _⟩
  · omega
  · exact ⟨g, cap, hv⟩
 go_wp2
 go_ret
 refine ⟨rfl, ?_, ?_, ((hk1.alloc _).grown hgrow (row_kind (hown.alloc _))).setCell ⟨b, 1, none⟩ rfl _⟩
 · exact Lib.BuilderAt.put (T := 60) (e := 5) hB hb2 (bs' := bs ++ [.int .u8 c]) (by simpa using hown') (by decide)
 · exact ((hb1.alloc (by have := hb1.size; omega) _).grown hgrow (by have := hb1.size; simp; omega) (fun k hk => (hown.lt k hk).1)).setCell (p := ⟨b, 1, none⟩) hB _
set_option maxHeartbeats 2000000 in
set_option maxRecDepth 100000 in
theorem builder_WriteString (B b : Nat) (bs : List Value) (s : ByteArray) (w : World) (h : Lib.IsBuilder 60 5 B b bs w) (hlen : bs.length + s.size ≤ 140737488355328) (hBw : B ≤ w.heap.size) :
 Calls Tryz.prog 30 #[.pointer (some ⟨b, 0, none⟩), .string s] w fun e w' => e = .returned (.tuple #[.int .i64 s.size, .nilIface]) ∧ (Lib.BuilderAt 60 5 B b (.pointer (some ⟨b, 0, none⟩)) (bs ++ Lib.strCells s) w' ∧ Below B w w' ∧ Lib.OthersKept 5 (some b) w w') := by
 obtain ⟨i0, hi, hz0, hz1, hz2⟩ := info_parts builder_info
 have e240 := enters_b Tryz.func48 (by kernel_rfl) rfl
 go_enter Tryz.func30, Tryz.ntmps30
 go_wp2_with (go_at_call 48; refine (builder_copyCheck B b bs _ h).mono ?_)
 rintro e w1 ⟨rfl, h1, hb1, hk1⟩
 obtain ⟨hB, v, hbk, hown, hne⟩ := h1
 have c0 : w1.cell? ⟨b, 0, none⟩ = some (.pointer (some ⟨b, 0, none⟩)) := by rw [Lib.cell_of_heap hbk]; rfl
 have c1 : w1.cell? ⟨b, 1, none⟩ = some v := by rw [Lib.cell_of_heap hbk]; rfl
 go_wp2_with (at_builtin; refine Lib.wpList_append_own_string _ rfl _ _ 58 9 rfl B 5 i0 Tryz.underlying58 Tryz.underlying9 hi hz0 hz1 hz2 _ _ _ rfl hown s rfl ?c3 ?c4 ?c5 ?_)
 case c3 => unfold maxLen; omega
 case c4 => omega
 case c5 => have := hb1.size; omega
 intro v' w2 hown' hgrow _
 have hlt : b < w1.heap.size := by
  rcases Nat.lt_or_ge b w1.heap.size with h' | h'
  · exact h'
  · simp [Array.getElem?_eq_none h'] at hbk
 have hb2 : w2.heap[b]? = some (.cells #[.pointer (some ⟨b, 0, none⟩), v] 60 (0, 0)) := by
  rw [hgrow.block b hlt (fun e => hne e.symm)]
  exact hbk
 have d0 : w2.cell? ⟨b, 0, none⟩ = some (.pointer (some ⟨b, 0, none⟩)) := by rw [Lib.cell_of_heap hb2]; rfl
 have d1 : w2.cell? ⟨b, 1, none⟩ = some v := by rw [Lib.cell_of_heap hb2]; rfl
 have f1 : w2.frozen? ⟨b, 1, none⟩ = false := Lib.frozen_of_heap hb2 1
 obtain ⟨ao, n', cap, rfl⟩ : ∃ ao n' cap, v' = .slice ao n' cap := by
  rcases hown'.2 with ⟨hv, _⟩ | ⟨g, cap, cur, hv, _⟩
  · exact ⟨_, _, _, hv⟩
  · exact ⟨_, _, _, hv⟩
 go_wp2
 go_ret2
 refine ⟨rfl, ?_, ?_, (hk1.grown hgrow (row_kind hown)).setCell ⟨b, 1, none⟩ rfl _⟩
 · exact Lib.BuilderAt.put (T := 60) (e := 5) hB hb2 (bs' := bs ++ Lib.strCells s) (by simpa [Lib.strCells_length] using hown') (by decide)
 · exact (hb1.grown hgrow (by have := hb1.size; omega) (fun k hk => (hown.lt k hk).1)).setCell (p := ⟨b, 1, none⟩) hB _
end Go.Proofs.YtkipkbggnfllkaaGreatDoor.P
end
section
namespace Go.Proofs.YtkipkbggnfllkaaGreatDoor.P
set_option linter.unusedVariables false
set_option linter.unusedSimpArgs false
def figsN : Nat → Nat → List Nat
 | 0, _ => []
 | d + 1, n => if n < 10 then [48 + n] else figsN d (n / 10) ++ [48 + n % 10]
def Figs (r : List Nat) : Prop := r ≠ [] ∧ r.length ≤ 4 ∧ (∀ b ∈ r, 48 ≤ b ∧ b ≤ 57) ∧ r.head? ≠ some 48
theorem figs_num {m : Nat} (h1 : 1 ≤ m) (h2 : m ≤ 9999) : Figs (figsN 4 m) ∧ num (figsN 4 m) = m := by
 by_cases a : m < 10
 · simp only [figsN]
   rw [if_pos a]
   refine ⟨⟨by simp, by simp, fun b hb => ?_, ?_⟩, ?_⟩
   · simp at hb
     omega
   · simp
     omega
   · simp only [num, List.foldl]
     omega
 by_cases b : m < 100
 · simp only [figsN]
   rw [if_neg a, if_pos (by omega)]
   refine ⟨⟨by simp, by simp, fun b hb => ?_, ?_⟩, ?_⟩
   · simp at hb
     omega
   · simp
     omega
   · simp only [num, List.cons_append, List.nil_append, List.foldl]
     omega
 by_cases c : m < 1000
 · simp only [figsN]
   rw [if_neg a, if_neg (by omega), if_pos (by omega)]
   refine ⟨⟨by simp, by simp, fun b hb => ?_, ?_⟩, ?_⟩
   · simp at hb
     omega
   · simp
     omega
   · simp only [num, List.cons_append, List.nil_append, List.foldl]
     omega
 · simp only [figsN]
   rw [if_neg a, if_neg (by omega), if_neg (by omega), if_pos (by omega)]
   refine ⟨⟨by simp, by simp, fun b hb => ?_, ?_⟩, ?_⟩
   · simp at hb
     omega
   · simp
     omega
   · simp only [num, List.cons_append, List.nil_append, List.foldl]
     omega
def putBehind (max : Int) (star : Bool) : List Nat := if star = true then [42] else if 0 < max then 58 :: figsN 4 max.toNat else []
def putV (v : MVar) : List Nat := v.name ++ putBehind v.max v.star
def GoodV (v : MVar) : Prop := run nstep .ns v.name = some .n ∧ 0 ≤ v.max ∧ v.max ≤ 9999 ∧ (v.star = true → v.max = 0)
theorem nameEnd_put {n t : List Nat} (h : run nstep .ns n = some .n) (ht : t = [] ∨ ∃ b r, t = b :: r ∧ nstep .n b = none) : nameEnd (n ++ t) = n.length := by
 refine nameEnd_eq (by simp) (by rw [List.take_left]; exact h) fun k h1 h2 => ?_
 rcases ht with rfl | ⟨b, r, rfl, hb⟩
 · simp at h2
   omega
 · obtain ⟨j, rfl⟩ : ∃ j, k = n.length + (j + 1) := ⟨k - n.length - 1, by omega⟩
   rw [List.take_append, List.take_of_length_le (by omega), show n.length + (j + 1) - n.length = j + 1 by omega, List.take_succ_cons, run_append, h]
   show run nstep .n (b :: _) ≠ _
   rw [run_none hb]
   simp
def putVs : List MVar → List Nat
 | [] => []
 | v :: r => putV v ++ (if r = [] then [125] else 44 :: putVs r)
theorem pieces_nil (e : Nat) : piecesN e [] = 0 := by
 cases e <;> rfl
def opL (op : Int) : List Nat := if op = 0 then [] else [op.toNat]
def putP (x : MPart) : List Nat := x.lit ++ (if x.specs = [] then [] else 123 :: (opL x.op ++ putVs x.specs))
def putT : List MPart → List Nat
 | [] => []
 | x :: r => putP x ++ putT r
def GoodOp (op : Int) : Prop := op = 0 ∨ ∃ b : Nat, isOp b = true ∧ op = (b : Int)
def GoodP (x : MPart) : Prop := (x.specs = [] → x.op = 0 ∧ x.lit ≠ [] ∧ piecesN (x.lit.length + 1) x.lit = x.lit.length) ∧ (x.specs ≠ [] → x.lit = [] ∧ GoodOp x.op ∧ ∀ v ∈ x.specs, GoodV v)
def MayT : List MPart → Prop
 | [] => True
 | x :: r => GoodP x ∧ (x.specs = [] → ∀ y, r.head? = some y → y.specs ≠ []) ∧ MayT r
end Go.Proofs.YtkipkbggnfllkaaGreatDoor.P
end
section
namespace Go.Proofs.YtkipkbggnfllkaaGreatDoor.P
open Go.RowKit Go.Proofs.YtkipkbggnfllkaaGreatDoorW.PrintWords Go.Proofs.YtkipkbggnfllkaaGreatDoorW.PrintLast Go.Proofs.YtkipkbggnfllkaaGreatDoorW.PrintMore
attribute [local go_sem] max2_int min2_int max_two min_two max_three min_three max_four min_four
set_option linter.unusedVariables false
set_option linter.unusedSimpArgs false
mutual
def rf07_Few.l0 : Nat → List (S41) → Int → Option (Bool)
 | 0, _, _ => none
 | k + 1, x0, x3 => if x3 < (x0.length : Int) then (rf07_Few.j1 k x0 x3 (decide (x3 < 31))) else (rf07_Few.j1 k x0 x3 false)
def rf07_Few.j1 : Nat → List (S41) → Int → Bool → Option (Bool)
 | 0, _, _, _ => none
 | k + 1, x0, x3, x12 => if x12 = true then (if 0 ≤ x3 then (if x3 < (x0.length : Int) then (if (((rd_T41 x0 x3).f0).size : Int) > 200 then (rf07_Few.j2 k x0 x3 true) else (rf07_Few.j2 k x0 x3 (decide ((((rd_T41 x0 x3).f2).length : Int) > 20)))) else (none)) else (none)) else (some (decide ((x0.length : Int) ≤ 30)))
def rf07_Few.j2 : Nat → List (S41) → Int → Bool → Option (Bool)
 | 0, _, _, _ => none
 | k + 1, x0, x3, x30 => if x30 = true then (some false) else (rf07_Few.l1 k x0 x3 0)
def rf07_Few.l1 : Nat → List (S41) → Int → Int → Option (Bool)
 | 0, _, _, _ => none
 | k + 1, x0, x3, x4 => if 0 ≤ x3 then (if x3 < (x0.length : Int) then (if x4 < (((rd_T41 x0 x3).f2).length : Int) then (if 0 ≤ x4 then (if (((rd_T43 ((rd_T41 x0 x3).f2) x4).f0).size : Int) > 200 then (some false) else (rf07_Few.l1 k x0 x3 (wrap64 (x4 + 1)))) else (none)) else (rf07_Few.l0 k x0 (wrap64 (x3 + 1)))) else (none)) else (none)
end
def rf07_Few.f (k : Nat) (l0 : List (S41)) : Option (Bool) := rf07_Few.l0 k l0 0
set_option maxHeartbeats 8000000 in
set_option maxRecDepth 100000 in
theorem rf07_Few.calls (k : Nat) (A0 : Option Addr) (c0 : Nat) (l0 : List (S41)) (r : Bool) (w : World) (hr0 : Kd.C k41 w A0 l0.length l0) (hc0 : l0.length ≤ c0) (h : rf07_Few.f k l0 = some r) :
 Calls Tryz.prog 9 #[.slice A0 l0.length c0] w fun e w' => e = .returned (.bool r) ∧ Drawn0 w w' := by
 have HR0 := Aside0.mk hr0
 have HC0 := Aside0.mk hc0
 clear hr0 hc0
 have H : (rf07_Few.l0 k l0 0) = some r := h
 clear h
 have H' := Aside0.mk H
 clear H
 go_enter Tryz.func9, Tryz.ntmps9
 go_wp2
 go_loopg [3] k (fun kq v3 w' => ∃ (x3_1 : Int), v3 = .int .i64 x3_1 ∧ Aside0 (rf07_Few.l0 kq l0 x3_1 = some r) ∧ Aside0 (kq ≤ k) ∧ Drawn0 w w')
 case atStart => exact ⟨(0), (by first | rfl | (simp; done) | (simp [*]; done)), H', ⟨Nat.le_refl _⟩, by repeat (first | exact Drawn0.refl _ | apply Drawn0.step)⟩
 case round =>
  clear H'
  obtain ⟨x3_1, rfl, HA, HK1, ⟨m1, rfl⟩⟩ := hrel
  cases gk with
  | zero => exact absurd HA.out (by simp [rf07_Few.l0])
  | succ k1 =>
   have H := HA.out
   clear HA
   simp only [rf07_Few.l0] at H
   have HC2 := Aside0.mk H
   clear H
   go_upto_region 2 with (fail)
   go_cut [12] (fun v12 wc => ∃ (kq : Nat) (x12_1 : Bool), v12 = .bool x12_1 ∧ Aside0 (rf07_Few.j1 kq l0 x3_1 x12_1 = some r) ∧ Aside0 (kq ≤ k1) ∧ Drawn0 w wc)
   case first =>
    have H := HC2.out
    clear HC2
    by_cases c3 : x3_1 < (l0.length : Int)
    · rw [if_pos c3] at H
      have c3b0 : decide (x3_1 < (l0.length : Int)) = true := decide_eq_true c3
      clear c3
      (first | rw [c3b0] | (simp only [i64_w, i32_w]; rw [c3b0]) | skip)
      have H' := Aside0.mk H
      clear H
      go_wp2
      go_meet
      case rel => exact ⟨_, (decide (x3_1 < 31)), (by first | rfl | (simp; done) | (simp [*]; done)), H', ⟨by have := HK1.out; first | omega | exact Nat.le_refl _⟩, by repeat (first | exact Drawn0.refl _ | apply Drawn0.step)⟩
    · rw [if_neg c3] at H
      have c3b0 : decide (x3_1 < (l0.length : Int)) = false := decide_eq_false c3
      clear c3
      (first | rw [c3b0] | (simp only [i64_w, i32_w]; rw [c3b0]) | skip)
      have H' := Aside0.mk H
      clear H
      go_wp2
      go_meet
      case rel => exact ⟨_, (false), (by first | rfl | (simp; done) | (simp [*]; done)), H', ⟨by have := HK1.out; first | omega | exact Nat.le_refl _⟩, by repeat (first | exact Drawn0.refl _ | apply Drawn0.step)⟩
   case rest =>
    clear HC2
    try clear p2
    try clear c3
    try clear c3b0
    obtain ⟨kq, x12_1, rfl, HA, HJ1, ⟨mc1, rfl⟩⟩ := hcut
    cases kq with
    | zero => exact absurd HA.out (by simp [rf07_Few.j1])
    | succ kj1 =>
     have H := HA.out
     clear HA
     simp only [rf07_Few.j1] at H
     by_cases c4 : x12_1 = true
     · subst c4
       have H1 : (if 0 ≤ x3_1 then (if x3_1 < (l0.length : Int) then (if (((rd_T41 l0 x3_1).f0).size : Int) > 200 then (rf07_Few.j2 kj1 l0 x3_1 true) else (rf07_Few.j2 kj1 l0 x3_1 (decide ((((rd_T41 l0 x3_1).f2).length : Int) > 20)))) else (none)) else (none)) = some r := by rw [if_pos rfl] at H; exact H
       clear H
       have H := H1
       clear H1
       have HC5 := Aside0.mk H
       clear H
       go_upto_region 4 with (fail)
       go_cut [30] (fun v30 wc => ∃ (kq : Nat) (x30_4 : Bool), v30 = .bool x30_4 ∧ Aside0 (rf07_Few.j2 kq l0 x3_1 x30_4 = some r) ∧ Aside0 (kq ≤ kj1) ∧ Drawn0 w wc)
       case first =>
        have H := HC5.out
        clear HC5
        by_cases c6 : 0 ≤ x3_1
        · rw [if_pos c6] at H
          have c6b0 : decide (0 ≤ x3_1) = true := decide_eq_true c6
          clear c6
          (first | rw [c6b0] | (simp only [i64_w, i32_w]; rw [c6b0]) | skip)
          by_cases c7 : x3_1 < (l0.length : Int)
          · rw [if_pos c7] at H
            have c7b0 : decide (x3_1 < (l0.length : Int)) = true := decide_eq_true c7
            clear c7
            by_cases c8 : (((rd_T41 l0 x3_1).f0).size : Int) > 200
            · rw [if_pos c8] at H
              have c8b0 : decide (200 < (((rd_T41 l0 x3_1).f0).size : Int)) = true := decide_eq_true c8
              have c8b1 : decide (200 < ((rd_T41 l0 x3_1).f0).size) = true := decide_eq_true (by omega)
              clear c8
              have H' := Aside0.mk H
              clear H
              have p257 : 0 ≤ (x3_1 : Int) := of_decide_eq_true (by first | (with_reducible assumption) | assumption)
              have q257 : x3_1 < (l0.length : Int) := of_decide_eq_true (by first | (with_reducible assumption) | assumption)
              obtain ⟨ad257, A257_2, c257_2, e257, hx257_0, hx257_1, hx257_2, hl257_2, hi257_2⟩ := at_T41 HR0.out x3_1 p257 q257
              cases e257
              have HR257_2 := Aside0.mk hi257_2
              have HC257_2 := Aside0.mk hl257_2
              clear hi257_2 hl257_2
              replace p257 := eq_true p257
              replace q257 := eq_true q257
              go_wp2
              go_meet
              case rel => exact ⟨_, (true), (by first | rfl | (simp; done) | (simp [*]; done)), H', ⟨by have := HK1.out; have := HJ1.out; first | omega | exact Nat.le_refl _⟩, by repeat (first | exact Drawn0.refl _ | apply Drawn0.step)⟩
            · rw [if_neg c8] at H
              have c8b0 : decide (200 < (((rd_T41 l0 x3_1).f0).size : Int)) = false := decide_eq_false c8
              have c8b1 : decide (200 < ((rd_T41 l0 x3_1).f0).size) = false := decide_eq_false (by omega)
              clear c8
              have H' := Aside0.mk H
              clear H
              have p257 : 0 ≤ (x3_1 : Int) := of_decide_eq_true (by first | (with_reducible assumption) | assumption)
              have q257 : x3_1 < (l0.length : Int) := of_decide_eq_true (by first | (with_reducible assumption) | assumption)
              obtain ⟨ad257, A257_2, c257_2, e257, hx257_0, hx257_1, hx257_2, hl257_2, hi257_2⟩ := at_T41 HR0.out x3_1 p257 q257
              cases e257
              have HR257_2 := Aside0.mk hi257_2
              have HC257_2 := Aside0.mk hl257_2
              clear hi257_2 hl257_2
              replace p257 := eq_true p257
              replace q257 := eq_true q257
              have p258 : 0 ≤ (x3_1 : Int) := of_decide_eq_true (by first | (with_reducible assumption) | assumption)
              have q258 : x3_1 < (l0.length : Int) := of_decide_eq_true (by first | (with_reducible assumption) | assumption)
              obtain ⟨ad258, A258_2, c258_2, e258, hx258_0, hx258_1, hx258_2, hl258_2, hi258_2⟩ := at_T41 HR0.out x3_1 p258 q258
              obtain rfl : ad257 = ad258 := (by injection e258)
              have HR258_2 := Aside0.mk hi258_2
              have HC258_2 := Aside0.mk hl258_2
              clear hi258_2 hl258_2
              replace p258 := eq_true p258
              replace q258 := eq_true q258
              have ea_ := Option.some.inj (hx257_2.symm.trans hx258_2)
              injection ea_ with ea_ en_ ec_
              subst ea_
              subst ec_
              clear en_
              go_wp2
              go_meet
              case rel => exact ⟨_, (decide ((((rd_T41 l0 x3_1).f2).length : Int) > 20)), (by first | rfl | (simp; done) | (simp [*]; done)), H', ⟨by have := HK1.out; have := HJ1.out; first | omega | exact Nat.le_refl _⟩, by repeat (first | exact Drawn0.refl _ | apply Drawn0.step)⟩
          · rw [if_neg c7] at H
            exact absurd H (by simp)
        · rw [if_neg c6] at H
          exact absurd H (by simp)
       case rest =>
        clear HC5
        try clear c1
        try clear c2
        try clear p2
        try clear q2
        try clear hx2
        try clear c3
        try clear c3b0
        try clear c4
        try clear c6
        try clear c6b0
        try clear c7
        try clear c7b0
        try clear c8
        try clear c8b0
        try clear c8b1
        try clear hx257_0
        try clear hx257_1
        try clear hx257_2
        try clear hx258_0
        try clear hx258_1
        try clear hx258_2
        try clear p2
        try clear p257
        try clear p258
        try clear q257
        try clear q258
        obtain ⟨kq, x30_4, rfl, HA, HJ4, ⟨mc4, rfl⟩⟩ := hcut
        cases kq with
        | zero => exact absurd HA.out (by simp [rf07_Few.j2])
        | succ kj4 =>
         have H := HA.out
         clear HA
         simp only [rf07_Few.j2] at H
         by_cases c9 : x30_4 = true
         · subst c9
           have H1 : (some false) = some r := by rw [if_pos rfl] at H; exact H
           clear H
           have H := H1
           clear H1
           obtain rfl := Option.some.inj H
           go_wp2
           go_ret
           exact ⟨by first | rfl | (simp; done) | (simp [*]; done), by repeat (first | exact Drawn0.refl _ | apply Drawn0.step)⟩
         · replace c9 := Bool.eq_false_iff.mpr c9
           subst c9
           have H1 : (rf07_Few.l1 kj4 l0 x3_1 0) = some r := by rw [if_neg (show ¬ (false = true) by decide)] at H; exact H
           clear H
           have H := H1
           clear H1
           have H' := Aside0.mk H
           clear H
           go_wp2
           go_loopg [4] kj4 (fun kq v4 w' => ∃ (x4_4 : Int), v4 = .int .i64 x4_4 ∧ Aside0 (rf07_Few.l1 kq l0 x3_1 x4_4 = some r) ∧ Aside0 (kq ≤ kj4) ∧ Drawn0 w w')
           case atStart => exact ⟨(0), (by first | rfl | (simp; done) | (simp [*]; done)), H', ⟨Nat.le_refl _⟩, by repeat (first | exact Drawn0.refl _ | apply Drawn0.step)⟩
           case round =>
            clear H'
            try clear c1
            try clear c2
            try clear p2
            try clear q2
            try clear hx2
            try clear c3
            try clear c3b0
            try clear c4
            try clear c6
            try clear c6b0
            try clear c7
            try clear c7b0
            try clear c8
            try clear c8b0
            try clear c8b1
            try clear c9
            try clear hx257_0
            try clear hx257_1
            try clear hx257_2
            try clear hx258_0
            try clear hx258_1
            try clear hx258_2
            try clear p2
            try clear p257
            try clear p258
            try clear q2
            try clear q257
            try clear q258
            obtain ⟨x4_4, rfl, HA, HK4, ⟨m4, rfl⟩⟩ := hrel
            cases gk with
            | zero => exact absurd HA.out (by simp [rf07_Few.l1])
            | succ k4 =>
             have H := HA.out
             clear HA
             simp only [rf07_Few.l1] at H
             by_cases c10 : 0 ≤ x3_1
             · rw [if_pos c10] at H
               have c10b0 : decide (0 ≤ x3_1) = true := decide_eq_true c10
               clear c10
               by_cases c11 : x3_1 < (l0.length : Int)
               · rw [if_pos c11] at H
                 have c11b0 : decide (x3_1 < (l0.length : Int)) = true := decide_eq_true c11
                 clear c11
                 by_cases c12 : x4_4 < (((rd_T41 l0 x3_1).f2).length : Int)
                 · rw [if_pos c12] at H
                   have c12b0 : decide (x4_4 < (((rd_T41 l0 x3_1).f2).length : Int)) = true := decide_eq_true c12
                   clear c12
                   by_cases c13 : 0 ≤ x4_4
                   · rw [if_pos c13] at H
                     have c13b0 : decide (0 ≤ x4_4) = true := decide_eq_true c13
                     clear c13
                     by_cases c14 : (((rd_T43 ((rd_T41 l0 x3_1).f2) x4_4).f0).size : Int) > 200
                     · rw [if_pos c14] at H
                       have c14b0 : decide (200 < (((rd_T43 ((rd_T41 l0 x3_1).f2) x4_4).f0).size : Int)) = true := decide_eq_true c14
                       have c14b1 : decide (200 < ((rd_T43 ((rd_T41 l0 x3_1).f2) x4_4).f0).size) = true := decide_eq_true (by omega)
                       clear c14
                       obtain rfl := Option.some.inj H
                       have p259 : 0 ≤ (x3_1 : Int) := of_decide_eq_true (by first | (with_reducible assumption) | assumption)
                       have q259 : x3_1 < (l0.length : Int) := of_decide_eq_true (by first | (with_reducible assumption) | assumption)
                       obtain ⟨ad259, A259_2, c259_2, e259, hx259_0, hx259_1, hx259_2, hl259_2, hi259_2⟩ := at_T41 HR0.out x3_1 p259 q259
                       cases e259
                       have HR259_2 := Aside0.mk hi259_2
                       have HC259_2 := Aside0.mk hl259_2
                       clear hi259_2 hl259_2
                       replace p259 := eq_true p259
                       replace q259 := eq_true q259
                       have p260 : 0 ≤ (x3_1 : Int) := of_decide_eq_true (by first | (with_reducible assumption) | assumption)
                       have q260 : x3_1 < (l0.length : Int) := of_decide_eq_true (by first | (with_reducible assumption) | assumption)
                       obtain ⟨ad260, A260_2, c260_2, e260, hx260_0, hx260_1, hx260_2, hl260_2, hi260_2⟩ := at_T41 HR0.out x3_1 p260 q260
                       obtain rfl : ad259 = ad260 := (by injection e260)
                       have HR260_2 := Aside0.mk hi260_2
                       have HC260_2 := Aside0.mk hl260_2
                       clear hi260_2 hl260_2
                       replace p260 := eq_true p260
                       replace q260 := eq_true q260
                       have ea_ := Option.some.inj (hx259_2.symm.trans hx260_2)
                       injection ea_ with ea_ en_ ec_
                       subst ea_
                       subst ec_
                       clear en_
                       have p261 : 0 ≤ (x4_4 : Int) := of_decide_eq_true (by first | (with_reducible assumption) | assumption)
                       have q261 : x4_4 < (((rd_T41 l0 x3_1).f2).length : Int) := of_decide_eq_true (by first | (with_reducible assumption) | assumption)
                       obtain ⟨ad261, e261, hx261_0, hx261_1, hx261_2⟩ := at_T43 HR260_2.out x4_4 p261 q261
                       cases e261
                       replace p261 := eq_true p261
                       replace q261 := eq_true q261
                       go_wp2
                       go_ret
                       exact ⟨by first | rfl | (simp; done) | (simp [*]; done), by repeat (first | exact Drawn0.refl _ | apply Drawn0.step)⟩
                     · rw [if_neg c14] at H
                       have c14b0 : decide (200 < (((rd_T43 ((rd_T41 l0 x3_1).f2) x4_4).f0).size : Int)) = false := decide_eq_false c14
                       have c14b1 : decide (200 < ((rd_T43 ((rd_T41 l0 x3_1).f2) x4_4).f0).size) = false := decide_eq_false (by omega)
                       clear c14
                       have H' := Aside0.mk H
                       clear H
                       have p259 : 0 ≤ (x3_1 : Int) := of_decide_eq_true (by first | (with_reducible assumption) | assumption)
                       have q259 : x3_1 < (l0.length : Int) := of_decide_eq_true (by first | (with_reducible assumption) | assumption)
                       obtain ⟨ad259, A259_2, c259_2, e259, hx259_0, hx259_1, hx259_2, hl259_2, hi259_2⟩ := at_T41 HR0.out x3_1 p259 q259
                       cases e259
                       have HR259_2 := Aside0.mk hi259_2
                       have HC259_2 := Aside0.mk hl259_2
                       clear hi259_2 hl259_2
                       replace p259 := eq_true p259
                       replace q259 := eq_true q259
                       have p260 : 0 ≤ (x3_1 : Int) := of_decide_eq_true (by first | (with_reducible assumption) | assumption)
                       have q260 : x3_1 < (l0.length : Int) := of_decide_eq_true (by first | (with_reducible assumption) | assumption)
                       obtain ⟨ad260, A260_2, c260_2, e260, hx260_0, hx260_1, hx260_2, hl260_2, hi260_2⟩ := at_T41 HR0.out x3_1 p260 q260
                       obtain rfl : ad259 = ad260 := (by injection e260)
                       have HR260_2 := Aside0.mk hi260_2
                       have HC260_2 := Aside0.mk hl260_2
                       clear hi260_2 hl260_2
                       replace p260 := eq_true p260
                       replace q260 := eq_true q260
                       have ea_ := Option.some.inj (hx259_2.symm.trans hx260_2)
                       injection ea_ with ea_ en_ ec_
                       subst ea_
                       subst ec_
                       clear en_
                       have p261 : 0 ≤ (x4_4 : Int) := of_decide_eq_true (by first | (with_reducible assumption) | assumption)
                       have q261 : x4_4 < (((rd_T41 l0 x3_1).f2).length : Int) := of_decide_eq_true (by first | (with_reducible assumption) | assumption)
                       obtain ⟨ad261, e261, hx261_0, hx261_1, hx261_2⟩ := at_T43 HR260_2.out x4_4 p261 q261
                       cases e261
                       replace p261 := eq_true p261
                       replace q261 := eq_true q261
                       go_wp2
                       go_roundg k4
                       case measure => have := HK1.out; have := HJ1.out; have := HJ4.out; have := HK4.out; omega
                       case rel => exact ⟨(wrap64 (x4_4 + 1)), (by first | rfl | (simp; done) | (simp [*]; done)), H', ⟨by have := HK1.out; have := HJ1.out; have := HJ4.out; have := HK4.out; omega⟩, by repeat (first | exact Drawn0.refl _ | apply Drawn0.step)⟩
                   · rw [if_neg c13] at H
                     exact absurd H (by simp)
                 · rw [if_neg c12] at H
                   have c12b0 : decide (x4_4 < (((rd_T41 l0 x3_1).f2).length : Int)) = false := decide_eq_false c12
                   clear c12
                   have H' := Aside0.mk H
                   clear H
                   have p259 : 0 ≤ (x3_1 : Int) := of_decide_eq_true (by first | (with_reducible assumption) | assumption)
                   have q259 : x3_1 < (l0.length : Int) := of_decide_eq_true (by first | (with_reducible assumption) | assumption)
                   obtain ⟨ad259, A259_2, c259_2, e259, hx259_0, hx259_1, hx259_2, hl259_2, hi259_2⟩ := at_T41 HR0.out x3_1 p259 q259
                   cases e259
                   have HR259_2 := Aside0.mk hi259_2
                   have HC259_2 := Aside0.mk hl259_2
                   clear hi259_2 hl259_2
                   replace p259 := eq_true p259
                   replace q259 := eq_true q259
                   go_wp2
                   go_roundg k4
                   case measure => have := HK1.out; have := HJ1.out; have := HJ4.out; have := HK4.out; omega
                   case rel => exact ⟨(wrap64 (x3_1 + 1)), (by first | rfl | (simp; done) | (simp [*]; done)), H', ⟨by have := HK1.out; have := HJ1.out; have := HJ4.out; have := HK4.out; omega⟩, by repeat (first | exact Drawn0.refl _ | apply Drawn0.step)⟩
               · rw [if_neg c11] at H
                 exact absurd H (by simp)
             · rw [if_neg c10] at H
               exact absurd H (by simp)
     · replace c4 := Bool.eq_false_iff.mpr c4
       subst c4
       have H1 : (some (decide ((l0.length : Int) ≤ 30))) = some r := by rw [if_neg (show ¬ (false = true) by decide)] at H; exact H
       clear H
       have H := H1
       clear H1
       obtain rfl := Option.some.inj H
       go_wp2
       go_ret
       exact ⟨by first | rfl | (simp; done) | (simp [*]; done), by repeat (first | exact Drawn0.refl _ | apply Drawn0.step)⟩
def rf02_Alpha.f (a0 : Int) : Option (Bool) := if a0 ≥ 65 then (if a0 ≤ 90 then (some true) else (if a0 ≥ 97 then (some (decide (a0 ≤ 122))) else (some false))) else (if a0 ≥ 97 then (some (decide (a0 ≤ 122))) else (some false))
set_option maxHeartbeats 8000000 in
set_option maxRecDepth 100000 in
theorem rf02_Alpha.calls (a0 : Int) (r : Bool) (w : World) (h : rf02_Alpha.f a0 = some r) :
 Calls Tryz.prog 104 #[.int .u8 a0] w fun e w' => e = .returned (.bool r) ∧ Drawn0 w w' := by
 have H : (if a0 ≥ 65 then (if a0 ≤ 90 then (some true) else (if a0 ≥ 97 then (some (decide (a0 ≤ 122))) else (some false))) else (if a0 ≥ 97 then (some (decide (a0 ≤ 122))) else (some false))) = some r := h
 clear h
 by_cases c2 : a0 ≥ 65
 · rw [if_pos c2] at H
   have c2b0 : decide (65 ≤ a0) = true := decide_eq_true c2
   clear c2
   by_cases c3 : a0 ≤ 90
   · rw [if_pos c3] at H
     have c3b0 : decide (a0 ≤ 90) = true := decide_eq_true c3
     clear c3
     obtain rfl := Option.some.inj H
     go_enter Tryz.func104, Tryz.ntmps104
     go_wp2
     go_ret
     exact ⟨by first | rfl | (simp; done) | (simp [*]; done), by repeat (first | exact Drawn0.refl _ | apply Drawn0.step)⟩
   · rw [if_neg c3] at H
     have c3b0 : decide (a0 ≤ 90) = false := decide_eq_false c3
     clear c3
     by_cases c4 : a0 ≥ 97
     · rw [if_pos c4] at H
       have c4b0 : decide (97 ≤ a0) = true := decide_eq_true c4
       clear c4
       obtain rfl := Option.some.inj H
       go_enter Tryz.func104, Tryz.ntmps104
       go_wp2
       go_ret
       exact ⟨by first | rfl | (simp; done) | (simp [*]; done), by repeat (first | exact Drawn0.refl _ | apply Drawn0.step)⟩
     · rw [if_neg c4] at H
       have c4b0 : decide (97 ≤ a0) = false := decide_eq_false c4
       clear c4
       obtain rfl := Option.some.inj H
       go_enter Tryz.func104, Tryz.ntmps104
       go_wp2
       go_ret
       exact ⟨by first | rfl | (simp; done) | (simp [*]; done), by repeat (first | exact Drawn0.refl _ | apply Drawn0.step)⟩
 · rw [if_neg c2] at H
   have c2b0 : decide (65 ≤ a0) = false := decide_eq_false c2
   clear c2
   by_cases c5 : a0 ≥ 97
   · rw [if_pos c5] at H
     have c5b0 : decide (97 ≤ a0) = true := decide_eq_true c5
     clear c5
     obtain rfl := Option.some.inj H
     go_enter Tryz.func104, Tryz.ntmps104
     go_wp2
     go_ret
     exact ⟨by first | rfl | (simp; done) | (simp [*]; done), by repeat (first | exact Drawn0.refl _ | apply Drawn0.step)⟩
   · rw [if_neg c5] at H
     have c5b0 : decide (97 ≤ a0) = false := decide_eq_false c5
     clear c5
     obtain rfl := Option.some.inj H
     go_enter Tryz.func104, Tryz.ntmps104
     go_wp2
     go_ret
     exact ⟨by first | rfl | (simp; done) | (simp [*]; done), by repeat (first | exact Drawn0.refl _ | apply Drawn0.step)⟩
def rf02_Digit.f (a0 : Int) : Option (Bool) := if a0 ≥ 48 then (some (decide (a0 ≤ 57))) else (some false)
set_option maxHeartbeats 8000000 in
set_option maxRecDepth 100000 in
theorem rf02_Digit.calls (a0 : Int) (r : Bool) (w : World) (h : rf02_Digit.f a0 = some r) :
 Calls Tryz.prog 100 #[.int .u8 a0] w fun e w' => e = .returned (.bool r) ∧ Drawn0 w w' := by
 have H : (if a0 ≥ 48 then (some (decide (a0 ≤ 57))) else (some false)) = some r := h
 clear h
 by_cases c2 : a0 ≥ 48
 · rw [if_pos c2] at H
   have c2b0 : decide (48 ≤ a0) = true := decide_eq_true c2
   clear c2
   obtain rfl := Option.some.inj H
   go_enter Tryz.func100, Tryz.ntmps100
   go_wp2
   go_ret
   exact ⟨by first | rfl | (simp; done) | (simp [*]; done), by repeat (first | exact Drawn0.refl _ | apply Drawn0.step)⟩
 · rw [if_neg c2] at H
   have c2b0 : decide (48 ≤ a0) = false := decide_eq_false c2
   clear c2
   obtain rfl := Option.some.inj H
   go_enter Tryz.func100, Tryz.ntmps100
   go_wp2
   go_ret
   exact ⟨by first | rfl | (simp; done) | (simp [*]; done), by repeat (first | exact Drawn0.refl _ | apply Drawn0.step)⟩
def rf02_Word.f (a0 : Int) : Option (Bool) := (rf02_Alpha.f a0).bind fun t120 => (if t120 = true then (some true) else ((rf02_Digit.f a0).bind fun t121 => (if t121 = true then (some true) else (some (a0 == 95)))))
set_option maxHeartbeats 8000000 in
set_option maxRecDepth 100000 in
theorem rf02_Word.calls (a0 : Int) (r : Bool) (w : World) (h : rf02_Word.f a0 = some r) :
 Calls Tryz.prog 87 #[.int .u8 a0] w fun e w' => e = .returned (.bool r) ∧ Drawn0 w w' := by
 have H : ((rf02_Alpha.f a0).bind fun t120 => (if t120 = true then (some true) else ((rf02_Digit.f a0).bind fun t121 => (if t121 = true then (some true) else (some (a0 == 95)))))) = some r := h
 clear h
 replace H := Option.bind_eq_some_iff.mp H
 obtain ⟨t120, A20, H⟩ := H
 replace H : (if t120 = true then (some true) else ((rf02_Digit.f a0).bind fun t121 => (if t121 = true then (some true) else (some (a0 == 95))))) = some r := H
 have A2 := Aside0.mk A20
 clear A20
 by_cases c3 : t120 = true
 · subst c3
   have H1 : (some true) = some r := by rw [if_pos rfl] at H; exact H
   clear H
   have H := H1
   clear H1
   obtain rfl := Option.some.inj H
   go_enter Tryz.func87, Tryz.ntmps87
   go_wp2_with (first | ((with_reducible refine gate_callee (f := 104) rfl ?_); refine goesL_ (some 4) rfl rfl Tryz.func104 (by kernel_rfl) rfl #[.int .u8 a0] rfl (by (try simp only [List.map_toArray, List.map_cons, List.map_nil]); first | done | rfl | (simp only [List.length_drop, List.length_take]; rfl)) ?_; (with_reducible refine (rf02_Alpha.calls a0 true _ A2.out).mono ?_); rintro e w' ⟨rfl, ⟨nd, rfl⟩⟩; refine ⟨_, rfl, ?_⟩))
   go_ret
   exact ⟨by first | rfl | (simp; done) | (simp [*]; done), by repeat (first | exact Drawn0.refl _ | apply Drawn0.step)⟩
 · replace c3 := Bool.eq_false_iff.mpr c3
   subst c3
   have H1 : ((rf02_Digit.f a0).bind fun t121 => (if t121 = true then (some true) else (some (a0 == 95)))) = some r := by rw [if_neg (show ¬ (false = true) by decide)] at H; exact H
   clear H
   have H := H1
   clear H1
   replace H := Option.bind_eq_some_iff.mp H
   obtain ⟨t121, A40, H⟩ := H
   replace H : (if t121 = true then (some true) else (some (a0 == 95))) = some r := H
   have A4 := Aside0.mk A40
   clear A40
   by_cases c5 : t121 = true
   · subst c5
     have H1 : (some true) = some r := by rw [if_pos rfl] at H; exact H
     clear H
     have H := H1
     clear H1
     obtain rfl := Option.some.inj H
     go_enter Tryz.func87, Tryz.ntmps87
     go_wp2_with (first | ((with_reducible refine gate_callee (f := 104) rfl ?_); refine goesL_ (some 4) rfl rfl Tryz.func104 (by kernel_rfl) rfl #[.int .u8 a0] rfl (by (try simp only [List.map_toArray, List.map_cons, List.map_nil]); first | done | rfl | (simp only [List.length_drop, List.length_take]; rfl)) ?_; (with_reducible refine (rf02_Alpha.calls a0 false _ A2.out).mono ?_); rintro e w' ⟨rfl, ⟨nd, rfl⟩⟩; refine ⟨_, rfl, ?_⟩) | (go_at_call 100; (with_reducible refine (rf02_Digit.calls a0 true _ A4.out).mono ?_); rintro e w' ⟨rfl, ⟨nd, rfl⟩⟩))
     go_ret
     exact ⟨by first | rfl | (simp; done) | (simp [*]; done), by repeat (first | exact Drawn0.refl _ | apply Drawn0.step)⟩
   · replace c5 := Bool.eq_false_iff.mpr c5
     subst c5
     have H1 : (some (a0 == 95)) = some r := by rw [if_neg (show ¬ (false = true) by decide)] at H; exact H
     clear H
     have H := H1
     clear H1
     obtain rfl := Option.some.inj H
     go_enter Tryz.func87, Tryz.ntmps87
     go_wp2_with (first | ((with_reducible refine gate_callee (f := 104) rfl ?_); refine goesL_ (some 4) rfl rfl Tryz.func104 (by kernel_rfl) rfl #[.int .u8 a0] rfl (by (try simp only [List.map_toArray, List.map_cons, List.map_nil]); first | done | rfl | (simp only [List.length_drop, List.length_take]; rfl)) ?_; (with_reducible refine (rf02_Alpha.calls a0 false _ A2.out).mono ?_); rintro e w' ⟨rfl, ⟨nd, rfl⟩⟩; refine ⟨_, rfl, ?_⟩) | (go_at_call 100; (with_reducible refine (rf02_Digit.calls a0 false _ A4.out).mono ?_); rintro e w' ⟨rfl, ⟨nd, rfl⟩⟩))
     go_ret
     exact ⟨by first | rfl | (simp; done) | (simp [*]; done), by repeat (first | exact Drawn0.refl _ | apply Drawn0.step)⟩
def rf02_Hex.f (a0 : Int) : Option (Bool) := (rf02_Digit.f a0).bind fun t117 => (if t117 = true then (some true) else (if a0 ≥ 65 then (if a0 ≤ 70 then (some true) else (if a0 ≥ 97 then (some (decide (a0 ≤ 102))) else (some false))) else (if a0 ≥ 97 then (some (decide (a0 ≤ 102))) else (some false))))
set_option maxHeartbeats 8000000 in
set_option maxRecDepth 100000 in
theorem rf02_Hex.calls (a0 : Int) (r : Bool) (w : World) (h : rf02_Hex.f a0 = some r) :
 Calls Tryz.prog 83 #[.int .u8 a0] w fun e w' => e = .returned (.bool r) ∧ Drawn0 w w' := by
 have H : ((rf02_Digit.f a0).bind fun t117 => (if t117 = true then (some true) else (if a0 ≥ 65 then (if a0 ≤ 70 then (some true) else (if a0 ≥ 97 then (some (decide (a0 ≤ 102))) else (some false))) else (if a0 ≥ 97 then (some (decide (a0 ≤ 102))) else (some false))))) = some r := h
 clear h
 replace H := Option.bind_eq_some_iff.mp H
 obtain ⟨t117, A20, H⟩ := H
 replace H : (if t117 = true then (some true) else (if a0 ≥ 65 then (if a0 ≤ 70 then (some true) else (if a0 ≥ 97 then (some (decide (a0 ≤ 102))) else (some false))) else (if a0 ≥ 97 then (some (decide (a0 ≤ 102))) else (some false)))) = some r := H
 have A2 := Aside0.mk A20
 clear A20
 by_cases c3 : t117 = true
 · subst c3
   have H1 : (some true) = some r := by rw [if_pos rfl] at H; exact H
   clear H
   have H := H1
   clear H1
   obtain rfl := Option.some.inj H
   go_enter Tryz.func83, Tryz.ntmps83
   go_wp2_with (first | ((with_reducible refine gate_callee (f := 100) rfl ?_); refine goesL_ (some 4) rfl rfl Tryz.func100 (by kernel_rfl) rfl #[.int .u8 a0] rfl (by (try simp only [List.map_toArray, List.map_cons, List.map_nil]); first | done | rfl | (simp only [List.length_drop, List.length_take]; rfl)) ?_; (with_reducible refine (rf02_Digit.calls a0 true _ A2.out).mono ?_); rintro e w' ⟨rfl, ⟨nd, rfl⟩⟩; refine ⟨_, rfl, ?_⟩))
   go_ret
   exact ⟨by first | rfl | (simp; done) | (simp [*]; done), by repeat (first | exact Drawn0.refl _ | apply Drawn0.step)⟩
 · replace c3 := Bool.eq_false_iff.mpr c3
   subst c3
   have H1 : (if a0 ≥ 65 then (if a0 ≤ 70 then (some true) else (if a0 ≥ 97 then (some (decide (a0 ≤ 102))) else (some false))) else (if a0 ≥ 97 then (some (decide (a0 ≤ 102))) else (some false))) = some r := by rw [if_neg (show ¬ (false = true) by decide)] at H; exact H
   clear H
   have H := H1
   clear H1
   by_cases c4 : a0 ≥ 65
   · rw [if_pos c4] at H
     have c4b0 : decide (65 ≤ a0) = true := decide_eq_true c4
     clear c4
     by_cases c5 : a0 ≤ 70
     · rw [if_pos c5] at H
       have c5b0 : decide (a0 ≤ 70) = true := decide_eq_true c5
       clear c5
       obtain rfl := Option.some.inj H
       go_enter Tryz.func83, Tryz.ntmps83
       go_wp2_with (first | ((with_reducible refine gate_callee (f := 100) rfl ?_); refine goesL_ (some 4) rfl rfl Tryz.func100 (by kernel_rfl) rfl #[.int .u8 a0] rfl (by (try simp only [List.map_toArray, List.map_cons, List.map_nil]); first | done | rfl | (simp only [List.length_drop, List.length_take]; rfl)) ?_; (with_reducible refine (rf02_Digit.calls a0 false _ A2.out).mono ?_); rintro e w' ⟨rfl, ⟨nd, rfl⟩⟩; refine ⟨_, rfl, ?_⟩))
       go_ret
       exact ⟨by first | rfl | (simp; done) | (simp [*]; done), by repeat (first | exact Drawn0.refl _ | apply Drawn0.step)⟩
     · rw [if_neg c5] at H
       have c5b0 : decide (a0 ≤ 70) = false := decide_eq_false c5
       clear c5
       by_cases c6 : a0 ≥ 97
       · rw [if_pos c6] at H
         have c6b0 : decide (97 ≤ a0) = true := decide_eq_true c6
         clear c6
         obtain rfl := Option.some.inj H
         go_enter Tryz.func83, Tryz.ntmps83
         go_wp2_with (first | ((with_reducible refine gate_callee (f := 100) rfl ?_); refine goesL_ (some 4) rfl rfl Tryz.func100 (by kernel_rfl) rfl #[.int .u8 a0] rfl (by (try simp only [List.map_toArray, List.map_cons, List.map_nil]); first | done | rfl | (simp only [List.length_drop, List.length_take]; rfl)) ?_; (with_reducible refine (rf02_Digit.calls a0 false _ A2.out).mono ?_); rintro e w' ⟨rfl, ⟨nd, rfl⟩⟩; refine ⟨_, rfl, ?_⟩))
         go_ret
         exact ⟨by first | rfl | (simp; done) | (simp [*]; done), by repeat (first | exact Drawn0.refl _ | apply Drawn0.step)⟩
       · rw [if_neg c6] at H
         have c6b0 : decide (97 ≤ a0) = false := decide_eq_false c6
         clear c6
         obtain rfl := Option.some.inj H
         go_enter Tryz.func83, Tryz.ntmps83
         go_wp2_with (first | ((with_reducible refine gate_callee (f := 100) rfl ?_); refine goesL_ (some 4) rfl rfl Tryz.func100 (by kernel_rfl) rfl #[.int .u8 a0] rfl (by (try simp only [List.map_toArray, List.map_cons, List.map_nil]); first | done | rfl | (simp only [List.length_drop, List.length_take]; rfl)) ?_; (with_reducible refine (rf02_Digit.calls a0 false _ A2.out).mono ?_); rintro e w' ⟨rfl, ⟨nd, rfl⟩⟩; refine ⟨_, rfl, ?_⟩))
         go_ret
         exact ⟨by first | rfl | (simp; done) | (simp [*]; done), by repeat (first | exact Drawn0.refl _ | apply Drawn0.step)⟩
   · rw [if_neg c4] at H
     have c4b0 : decide (65 ≤ a0) = false := decide_eq_false c4
     clear c4
     by_cases c7 : a0 ≥ 97
     · rw [if_pos c7] at H
       have c7b0 : decide (97 ≤ a0) = true := decide_eq_true c7
       clear c7
       obtain rfl := Option.some.inj H
       go_enter Tryz.func83, Tryz.ntmps83
       go_wp2_with (first | ((with_reducible refine gate_callee (f := 100) rfl ?_); refine goesL_ (some 4) rfl rfl Tryz.func100 (by kernel_rfl) rfl #[.int .u8 a0] rfl (by (try simp only [List.map_toArray, List.map_cons, List.map_nil]); first | done | rfl | (simp only [List.length_drop, List.length_take]; rfl)) ?_; (with_reducible refine (rf02_Digit.calls a0 false _ A2.out).mono ?_); rintro e w' ⟨rfl, ⟨nd, rfl⟩⟩; refine ⟨_, rfl, ?_⟩))
       go_ret
       exact ⟨by first | rfl | (simp; done) | (simp [*]; done), by repeat (first | exact Drawn0.refl _ | apply Drawn0.step)⟩
     · rw [if_neg c7] at H
       have c7b0 : decide (97 ≤ a0) = false := decide_eq_false c7
       clear c7
       obtain rfl := Option.some.inj H
       go_enter Tryz.func83, Tryz.ntmps83
       go_wp2_with (first | ((with_reducible refine gate_callee (f := 100) rfl ?_); refine goesL_ (some 4) rfl rfl Tryz.func100 (by kernel_rfl) rfl #[.int .u8 a0] rfl (by (try simp only [List.map_toArray, List.map_cons, List.map_nil]); first | done | rfl | (simp only [List.length_drop, List.length_take]; rfl)) ?_; (with_reducible refine (rf02_Digit.calls a0 false _ A2.out).mono ?_); rintro e w' ⟨rfl, ⟨nd, rfl⟩⟩; refine ⟨_, rfl, ?_⟩))
       go_ret
       exact ⟨by first | rfl | (simp; done) | (simp [*]; done), by repeat (first | exact Drawn0.refl _ | apply Drawn0.step)⟩
def rf03_Triplet.f (a0 : ByteArray) : Option (Bool) := if (a0.size : Int) ≥ 3 then (if 0 < (a0.size : Int) then (if (bt a0 0) = 37 then (if 1 < (a0.size : Int) then ((rf02_Hex.f (bt a0 1)).bind fun t118 => (if t118 = true then (if 2 < (a0.size : Int) then ((rf02_Hex.f (bt a0 2)).bind fun t119 => (some t119)) else (none)) else (some false))) else (none)) else (some false)) else (none)) else (some false)
set_option maxHeartbeats 8000000 in
set_option maxRecDepth 100000 in
theorem rf03_Triplet.calls (a0 : ByteArray) (r : Bool) (w : World) (h : rf03_Triplet.f a0 = some r) :
 Calls Tryz.prog 60 #[.string a0] w fun e w' => e = .returned (.bool r) ∧ Drawn0 w w' := by
 have H : (if (a0.size : Int) ≥ 3 then (if 0 < (a0.size : Int) then (if (bt a0 0) = 37 then (if 1 < (a0.size : Int) then ((rf02_Hex.f (bt a0 1)).bind fun t118 => (if t118 = true then (if 2 < (a0.size : Int) then ((rf02_Hex.f (bt a0 2)).bind fun t119 => (some t119)) else (none)) else (some false))) else (none)) else (some false)) else (none)) else (some false)) = some r := h
 clear h
 by_cases c2 : (a0.size : Int) ≥ 3
 · rw [if_pos c2] at H
   have c2b0 : decide (3 ≤ (a0.size : Int)) = true := decide_eq_true c2
   have c2b1 : decide (3 ≤ a0.size) = true := decide_eq_true (by omega)
   clear c2
   by_cases c3 : 0 < (a0.size : Int)
   · rw [if_pos c3] at H
     have c3b0 : decide (0 < (a0.size : Int)) = true := decide_eq_true c3
     have c3b1 : decide (0 < a0.size) = true := decide_eq_true (by omega)
     clear c3
     by_cases c5 : (bt a0 0) = 37
     · rw [if_pos c5] at H
       have c5b0 : ((bt a0 0) == 37) = true := beq_iff_eq.mpr c5
       have c5b1 : ((bt a0 0) != 37) = false := bne_eq_false_iff_eq.mpr c5
       clear c5
       by_cases c6 : 1 < (a0.size : Int)
       · rw [if_pos c6] at H
         have c6b0 : decide (1 < (a0.size : Int)) = true := decide_eq_true c6
         have c6b1 : decide (1 < a0.size) = true := decide_eq_true (by omega)
         clear c6
         replace H := Option.bind_eq_some_iff.mp H
         obtain ⟨t118, A80, H⟩ := H
         replace H : (if t118 = true then (if 2 < (a0.size : Int) then ((rf02_Hex.f (bt a0 2)).bind fun t119 => (some t119)) else (none)) else (some false)) = some r := H
         have A8 := Aside0.mk A80
         clear A80
         by_cases c9 : t118 = true
         · subst c9
           have H1 : (if 2 < (a0.size : Int) then ((rf02_Hex.f (bt a0 2)).bind fun t119 => (some t119)) else (none)) = some r := by rw [if_pos rfl] at H; exact H
           clear H
           have H := H1
           clear H1
           by_cases c10 : 2 < (a0.size : Int)
           · rw [if_pos c10] at H
             have c10b0 : decide (2 < (a0.size : Int)) = true := decide_eq_true c10
             have c10b1 : decide (2 < a0.size) = true := decide_eq_true (by omega)
             clear c10
             replace H := Option.bind_eq_some_iff.mp H
             obtain ⟨t119, A120, H⟩ := H
             replace H : (some t119) = some r := H
             have A12 := Aside0.mk A120
             clear A120
             obtain rfl := Option.some.inj H
             have p4 : 0 ≤ (0 : Int) := (by omega)
             have q4 : 0 < a0.size := (by have : (0 : Int) < (a0.size : Int) := of_decide_eq_true (by first | (with_reducible assumption) | assumption); omega)
             have hx4 : ∀ h : 0 < a0.size, ((a0[0]'h).toNat : Int) = bt a0 0 := bt_at a0 0
             clear p4
             have qi4 : (0 < (a0.size : Int)) = True := eq_true (of_decide_eq_true (by first | (with_reducible assumption) | assumption))
             replace q4 := eq_true q4
             have p7 : 0 ≤ (1 : Int) := (by omega)
             have q7 : 1 < a0.size := (by have : (1 : Int) < (a0.size : Int) := of_decide_eq_true (by first | (with_reducible assumption) | assumption); omega)
             have hx7 : ∀ h : 1 < a0.size, ((a0[1]'h).toNat : Int) = bt a0 1 := bt_at a0 1
             clear p7
             have qi7 : (1 < (a0.size : Int)) = True := eq_true (of_decide_eq_true (by first | (with_reducible assumption) | assumption))
             replace q7 := eq_true q7
             go_enter Tryz.func60, Tryz.ntmps60
             go_wp2_with (first | (go_at_call 83; (with_reducible refine (rf02_Hex.calls (bt a0 1) true _ A8.out).mono ?_); rintro e w' ⟨rfl, ⟨nd, rfl⟩⟩; have p11 : 0 ≤ (2 : Int) := (by omega); have q11 : 2 < a0.size := (by have : (2 : Int) < (a0.size : Int) := of_decide_eq_true (by first | (with_reducible assumption) | assumption); omega); have hx11 : ∀ h : 2 < a0.size, ((a0[2]'h).toNat : Int) = bt a0 2 := bt_at a0 2; clear p11; have qi11 : (2 < (a0.size : Int)) = True := eq_true (of_decide_eq_true (by first | (with_reducible assumption) | assumption)); replace q11 := eq_true q11) | (go_at_call 83; (with_reducible refine (rf02_Hex.calls (bt a0 2) t119 _ A12.out).mono ?_); rintro e w' ⟨rfl, ⟨nd, rfl⟩⟩))
             go_ret
             exact ⟨by first | rfl | (simp; done) | (simp [*]; done), by repeat (first | exact Drawn0.refl _ | apply Drawn0.step)⟩
           · rw [if_neg c10] at H
             exact absurd H (by simp)
         · replace c9 := Bool.eq_false_iff.mpr c9
           subst c9
           have H1 : (some false) = some r := by rw [if_neg (show ¬ (false = true) by decide)] at H; exact H
           clear H
           have H := H1
           clear H1
           obtain rfl := Option.some.inj H
           have p4 : 0 ≤ (0 : Int) := (by omega)
           have q4 : 0 < a0.size := (by have : (0 : Int) < (a0.size : Int) := of_decide_eq_true (by first | (with_reducible assumption) | assumption); omega)
           have hx4 : ∀ h : 0 < a0.size, ((a0[0]'h).toNat : Int) = bt a0 0 := bt_at a0 0
           clear p4
           have qi4 : (0 < (a0.size : Int)) = True := eq_true (of_decide_eq_true (by first | (with_reducible assumption) | assumption))
           replace q4 := eq_true q4
           have p7 : 0 ≤ (1 : Int) := (by omega)
           have q7 : 1 < a0.size := (by have : (1 : Int) < (a0.size : Int) := of_decide_eq_true (by first | (with_reducible assumption) | assumption); omega)
           have hx7 : ∀ h : 1 < a0.size, ((a0[1]'h).toNat : Int) = bt a0 1 := bt_at a0 1
           clear p7
           have qi7 : (1 < (a0.size : Int)) = True := eq_true (of_decide_eq_true (by first | (with_reducible assumption) | assumption))
           replace q7 := eq_true q7
           go_enter Tryz.func60, Tryz.ntmps60
           go_wp2_with (first | (go_at_call 83; (with_reducible refine (rf02_Hex.calls (bt a0 1) false _ A8.out).mono ?_); rintro e w' ⟨rfl, ⟨nd, rfl⟩⟩))
           go_ret
           exact ⟨by first | rfl | (simp; done) | (simp [*]; done), by repeat (first | exact Drawn0.refl _ | apply Drawn0.step)⟩
       · rw [if_neg c6] at H
         exact absurd H (by simp)
     · rw [if_neg c5] at H
       have c5b0 : ((bt a0 0) == 37) = false := beq_eq_false_iff_ne.mpr c5
       have c5b1 : ((bt a0 0) != 37) = true := bne_iff_ne.mpr c5
       obtain rfl := Option.some.inj H
       have p4 : 0 ≤ (0 : Int) := (by omega)
       have q4 : 0 < a0.size := (by have : (0 : Int) < (a0.size : Int) := of_decide_eq_true (by first | (with_reducible assumption) | assumption); omega)
       have hx4 : ∀ h : 0 < a0.size, ((a0[0]'h).toNat : Int) = bt a0 0 := bt_at a0 0
       clear p4
       have qi4 : (0 < (a0.size : Int)) = True := eq_true (of_decide_eq_true (by first | (with_reducible assumption) | assumption))
       replace q4 := eq_true q4
       go_enter Tryz.func60, Tryz.ntmps60
       go_wp2
       go_ret
       exact ⟨by first | rfl | (simp; done) | (simp [*]; done), by repeat (first | exact Drawn0.refl _ | apply Drawn0.step)⟩
   · rw [if_neg c3] at H
     exact absurd H (by simp)
 · rw [if_neg c2] at H
   have c2b0 : decide (3 ≤ (a0.size : Int)) = false := decide_eq_false c2
   have c2b1 : decide (3 ≤ a0.size) = false := decide_eq_false (by omega)
   clear c2
   obtain rfl := Option.some.inj H
   go_enter Tryz.func60, Tryz.ntmps60
   go_wp2
   go_ret
   exact ⟨by first | rfl | (simp; done) | (simp [*]; done), by repeat (first | exact Drawn0.refl _ | apply Drawn0.step)⟩
def rf05_May2.f : Nat → ByteArray → Bool → Option (Bool)
 | 0, _, _ => none
 | k + 1, a0, a1 => if a0.toList = ([] : List UInt8) then (some a1) else (if 0 < (a0.size : Int) then ((rf02_Word.f (bt a0 0)).bind fun t122 => (if t122 = true then (if 1 ≤ (a0.size : Int) then ((rf05_May2.f k (a0.extract 1 a0.size) true).bind fun t123 => (some t123)) else (none)) else ((rf03_Triplet.f a0).bind fun t124 => (if t124 = true then (if 3 ≤ (a0.size : Int) then ((rf05_May2.f k (a0.extract 3 a0.size) true).bind fun t125 => (some t125)) else (none)) else (if (bt a0 0) = 46 then (if a1 = true then (if 1 ≤ (a0.size : Int) then ((rf05_May2.f k (a0.extract 1 a0.size) false).bind fun t126 => (some t126)) else (none)) else (some false)) else (some false)))))) else (none))
set_option maxHeartbeats 8000000 in
set_option maxRecDepth 100000 in
theorem rf05_May2.calls (k : Nat) : ∀ (a0 : ByteArray) (a1 : Bool) (r : Bool) (w : World) (h : rf05_May2.f k a0 a1 = some r),
 Calls Tryz.prog 66 #[.string a0, .bool a1] w fun e w' => e = .returned (.bool r) ∧ Drawn0 w w' := by
 induction k using Nat.strongRecOn with
 | _ k ih =>
 intro a0 a1 r w h
 cases k with
 | zero => exact absurd h (by simp [rf05_May2.f])
 | succ k =>
 simp only [rf05_May2.f] at h
 have H : (if a0.toList = ([] : List UInt8) then (some a1) else (if 0 < (a0.size : Int) then ((rf02_Word.f (bt a0 0)).bind fun t122 => (if t122 = true then (if 1 ≤ (a0.size : Int) then ((rf05_May2.f k (a0.extract 1 a0.size) true).bind fun t123 => (some t123)) else (none)) else ((rf03_Triplet.f a0).bind fun t124 => (if t124 = true then (if 3 ≤ (a0.size : Int) then ((rf05_May2.f k (a0.extract 3 a0.size) true).bind fun t125 => (some t125)) else (none)) else (if (bt a0 0) = 46 then (if a1 = true then (if 1 ≤ (a0.size : Int) then ((rf05_May2.f k (a0.extract 1 a0.size) false).bind fun t126 => (some t126)) else (none)) else (some false)) else (some false)))))) else (none))) = some r := h
 clear h
 by_cases c3 : a0.toList = ([] : List UInt8)
 · rw [if_pos c3] at H
   have c3b0 : (a0.toList == ([] : List UInt8)) = true := beq_iff_eq.mpr c3
   have c3b1 : (a0.toList != ([] : List UInt8)) = false := bne_eq_false_iff_eq.mpr c3
   clear c3
   obtain rfl := Option.some.inj H
   go_enter Tryz.func66, Tryz.ntmps66
   go_wp2
   go_ret
   exact ⟨by first | rfl | (simp; done) | (simp [*]; done), by repeat (first | exact Drawn0.refl _ | apply Drawn0.step)⟩
 · rw [if_neg c3] at H
   have c3b0 : (a0.toList == ([] : List UInt8)) = false := beq_eq_false_iff_ne.mpr c3
   have c3b1 : (a0.toList != ([] : List UInt8)) = true := bne_iff_ne.mpr c3
   by_cases c4 : 0 < (a0.size : Int)
   · rw [if_pos c4] at H
     have c4b0 : decide (0 < (a0.size : Int)) = true := decide_eq_true c4
     have c4b1 : decide (0 < a0.size) = true := decide_eq_true (by omega)
     clear c4
     replace H := Option.bind_eq_some_iff.mp H
     obtain ⟨t122, A60, H⟩ := H
     replace H : (if t122 = true then (if 1 ≤ (a0.size : Int) then ((rf05_May2.f k (a0.extract 1 a0.size) true).bind fun t123 => (some t123)) else (none)) else ((rf03_Triplet.f a0).bind fun t124 => (if t124 = true then (if 3 ≤ (a0.size : Int) then ((rf05_May2.f k (a0.extract 3 a0.size) true).bind fun t125 => (some t125)) else (none)) else (if (bt a0 0) = 46 then (if a1 = true then (if 1 ≤ (a0.size : Int) then ((rf05_May2.f k (a0.extract 1 a0.size) false).bind fun t126 => (some t126)) else (none)) else (some false)) else (some false))))) = some r := H
     have A6 := Aside0.mk A60
     clear A60
     by_cases c7 : t122 = true
     · subst c7
       have H1 : (if 1 ≤ (a0.size : Int) then ((rf05_May2.f k (a0.extract 1 a0.size) true).bind fun t123 => (some t123)) else (none)) = some r := by rw [if_pos rfl] at H; exact H
       clear H
       have H := H1
       clear H1
       by_cases c8 : 1 ≤ (a0.size : Int)
       · rw [if_pos c8] at H
         have c8b0 := eq_true c8
         have c8b1 : decide (1 ≤ (a0.size : Int)) = true := decide_eq_true c8
         clear c8
         replace H := Option.bind_eq_some_iff.mp H
         obtain ⟨t123, A90, H⟩ := H
         replace H : (some t123) = some r := H
         have A9 := Aside0.mk A90
         clear A90
         obtain rfl := Option.some.inj H
         have p5 : 0 ≤ (0 : Int) := (by omega)
         have q5 : 0 < a0.size := (by have : (0 : Int) < (a0.size : Int) := of_decide_eq_true (by first | (with_reducible assumption) | assumption); omega)
         have hx5 : ∀ h : 0 < a0.size, ((a0[0]'h).toNat : Int) = bt a0 0 := bt_at a0 0
         clear p5
         have qi5 : (0 < (a0.size : Int)) = True := eq_true (of_decide_eq_true (by first | (with_reducible assumption) | assumption))
         replace q5 := eq_true q5
         go_enter Tryz.func66, Tryz.ntmps66
         go_wp2_with (first | ((with_reducible refine gate_callee (f := 87) rfl ?_); refine goesL_ (some 10) rfl rfl Tryz.func87 (by kernel_rfl) rfl #[.int .u8 (bt a0 0)] rfl (by (try simp only [List.map_toArray, List.map_cons, List.map_nil]); first | done | rfl | (simp only [List.length_drop, List.length_take]; rfl)) ?_; (with_reducible refine (rf02_Word.calls (bt a0 0) true _ A6.out).mono ?_); rintro e w' ⟨rfl, ⟨nd, rfl⟩⟩; refine ⟨_, rfl, ?_⟩) | ((with_reducible refine gate_callee (f := 66) rfl ?_); refine goesL_ (some 13) rfl rfl Tryz.func66 (by kernel_rfl) rfl #[.string (a0.extract 1 a0.size), .bool true] rfl (by (try simp only [List.map_toArray, List.map_cons, List.map_nil]); first | done | rfl | (simp only [List.length_drop, List.length_take]; rfl)) ?_; (with_reducible refine (ih k (by omega) (a0.extract 1 a0.size) true t123 _ A9.out).mono ?_); rintro e w' ⟨rfl, ⟨nd, rfl⟩⟩; refine ⟨_, rfl, ?_⟩))
         go_ret
         exact ⟨by first | rfl | (simp; done) | (simp [*]; done), by repeat (first | exact Drawn0.refl _ | apply Drawn0.step)⟩
       · rw [if_neg c8] at H
         exact absurd H (by simp)
     · replace c7 := Bool.eq_false_iff.mpr c7
       subst c7
       have H1 : ((rf03_Triplet.f a0).bind fun t124 => (if t124 = true then (if 3 ≤ (a0.size : Int) then ((rf05_May2.f k (a0.extract 3 a0.size) true).bind fun t125 => (some t125)) else (none)) else (if (bt a0 0) = 46 then (if a1 = true then (if 1 ≤ (a0.size : Int) then ((rf05_May2.f k (a0.extract 1 a0.size) false).bind fun t126 => (some t126)) else (none)) else (some false)) else (some false)))) = some r := by rw [if_neg (show ¬ (false = true) by decide)] at H; exact H
       clear H
       have H := H1
       clear H1
       replace H := Option.bind_eq_some_iff.mp H
       obtain ⟨t124, A100, H⟩ := H
       replace H : (if t124 = true then (if 3 ≤ (a0.size : Int) then ((rf05_May2.f k (a0.extract 3 a0.size) true).bind fun t125 => (some t125)) else (none)) else (if (bt a0 0) = 46 then (if a1 = true then (if 1 ≤ (a0.size : Int) then ((rf05_May2.f k (a0.extract 1 a0.size) false).bind fun t126 => (some t126)) else (none)) else (some false)) else (some false))) = some r := H
       have A10 := Aside0.mk A100
       clear A100
       by_cases c11 : t124 = true
       · subst c11
         have H1 : (if 3 ≤ (a0.size : Int) then ((rf05_May2.f k (a0.extract 3 a0.size) true).bind fun t125 => (some t125)) else (none)) = some r := by rw [if_pos rfl] at H; exact H
         clear H
         have H := H1
         clear H1
         by_cases c12 : 3 ≤ (a0.size : Int)
         · rw [if_pos c12] at H
           have c12b0 := eq_true c12
           have c12b1 : decide (3 ≤ (a0.size : Int)) = true := decide_eq_true c12
           clear c12
           replace H := Option.bind_eq_some_iff.mp H
           obtain ⟨t125, A130, H⟩ := H
           replace H : (some t125) = some r := H
           have A13 := Aside0.mk A130
           clear A130
           obtain rfl := Option.some.inj H
           have p5 : 0 ≤ (0 : Int) := (by omega)
           have q5 : 0 < a0.size := (by have : (0 : Int) < (a0.size : Int) := of_decide_eq_true (by first | (with_reducible assumption) | assumption); omega)
           have hx5 : ∀ h : 0 < a0.size, ((a0[0]'h).toNat : Int) = bt a0 0 := bt_at a0 0
           clear p5
           have qi5 : (0 < (a0.size : Int)) = True := eq_true (of_decide_eq_true (by first | (with_reducible assumption) | assumption))
           replace q5 := eq_true q5
           go_enter Tryz.func66, Tryz.ntmps66
           go_wp2_with (first | ((with_reducible refine gate_callee (f := 87) rfl ?_); refine goesL_ (some 10) rfl rfl Tryz.func87 (by kernel_rfl) rfl #[.int .u8 (bt a0 0)] rfl (by (try simp only [List.map_toArray, List.map_cons, List.map_nil]); first | done | rfl | (simp only [List.length_drop, List.length_take]; rfl)) ?_; (with_reducible refine (rf02_Word.calls (bt a0 0) false _ A6.out).mono ?_); rintro e w' ⟨rfl, ⟨nd, rfl⟩⟩; refine ⟨_, rfl, ?_⟩) | ((with_reducible refine gate_callee (f := 60) rfl ?_); refine goesL_ (some 15) rfl rfl Tryz.func60 (by kernel_rfl) rfl #[.string a0] rfl (by (try simp only [List.map_toArray, List.map_cons, List.map_nil]); first | done | rfl | (simp only [List.length_drop, List.length_take]; rfl)) ?_; (with_reducible refine (rf03_Triplet.calls a0 true _ A10.out).mono ?_); rintro e w' ⟨rfl, ⟨nd, rfl⟩⟩; refine ⟨_, rfl, ?_⟩) | ((with_reducible refine gate_callee (f := 66) rfl ?_); refine goesL_ (some 18) rfl rfl Tryz.func66 (by kernel_rfl) rfl #[.string (a0.extract 3 a0.size), .bool true] rfl (by (try simp only [List.map_toArray, List.map_cons, List.map_nil]); first | done | rfl | (simp only [List.length_drop, List.length_take]; rfl)) ?_; (with_reducible refine (ih k (by omega) (a0.extract 3 a0.size) true t125 _ A13.out).mono ?_); rintro e w' ⟨rfl, ⟨nd, rfl⟩⟩; refine ⟨_, rfl, ?_⟩))
           go_ret
           exact ⟨by first | rfl | (simp; done) | (simp [*]; done), by repeat (first | exact Drawn0.refl _ | apply Drawn0.step)⟩
         · rw [if_neg c12] at H
           exact absurd H (by simp)
       · replace c11 := Bool.eq_false_iff.mpr c11
         subst c11
         have H1 : (if (bt a0 0) = 46 then (if a1 = true then (if 1 ≤ (a0.size : Int) then ((rf05_May2.f k (a0.extract 1 a0.size) false).bind fun t126 => (some t126)) else (none)) else (some false)) else (some false)) = some r := by rw [if_neg (show ¬ (false = true) by decide)] at H; exact H
         clear H
         have H := H1
         clear H1
         by_cases c15 : (bt a0 0) = 46
         · rw [if_pos c15] at H
           have c15b0 : ((bt a0 0) == 46) = true := beq_iff_eq.mpr c15
           have c15b1 : ((bt a0 0) != 46) = false := bne_eq_false_iff_eq.mpr c15
           clear c15
           by_cases c16 : a1 = true
           · subst c16
             have H1 : (if 1 ≤ (a0.size : Int) then ((rf05_May2.f k (a0.extract 1 a0.size) false).bind fun t126 => (some t126)) else (none)) = some r := by rw [if_pos rfl] at H; exact H
             clear H
             have H := H1
             clear H1
             by_cases c17 : 1 ≤ (a0.size : Int)
             · rw [if_pos c17] at H
               have c17b0 := eq_true c17
               have c17b1 : decide (1 ≤ (a0.size : Int)) = true := decide_eq_true c17
               clear c17
               replace H := Option.bind_eq_some_iff.mp H
               obtain ⟨t126, A180, H⟩ := H
               replace H : (some t126) = some r := H
               have A18 := Aside0.mk A180
               clear A180
               obtain rfl := Option.some.inj H
               have p5 : 0 ≤ (0 : Int) := (by omega)
               have q5 : 0 < a0.size := (by have : (0 : Int) < (a0.size : Int) := of_decide_eq_true (by first | (with_reducible assumption) | assumption); omega)
               have hx5 : ∀ h : 0 < a0.size, ((a0[0]'h).toNat : Int) = bt a0 0 := bt_at a0 0
               clear p5
               have qi5 : (0 < (a0.size : Int)) = True := eq_true (of_decide_eq_true (by first | (with_reducible assumption) | assumption))
               replace q5 := eq_true q5
               go_enter Tryz.func66, Tryz.ntmps66
               go_wp2_with (first | ((with_reducible refine gate_callee (f := 87) rfl ?_); refine goesL_ (some 10) rfl rfl Tryz.func87 (by kernel_rfl) rfl #[.int .u8 (bt a0 0)] rfl (by (try simp only [List.map_toArray, List.map_cons, List.map_nil]); first | done | rfl | (simp only [List.length_drop, List.length_take]; rfl)) ?_; (with_reducible refine (rf02_Word.calls (bt a0 0) false _ A6.out).mono ?_); rintro e w' ⟨rfl, ⟨nd, rfl⟩⟩; refine ⟨_, rfl, ?_⟩) | ((with_reducible refine gate_callee (f := 60) rfl ?_); refine goesL_ (some 15) rfl rfl Tryz.func60 (by kernel_rfl) rfl #[.string a0] rfl (by (try simp only [List.map_toArray, List.map_cons, List.map_nil]); first | done | rfl | (simp only [List.length_drop, List.length_take]; rfl)) ?_; (with_reducible refine (rf03_Triplet.calls a0 false _ A10.out).mono ?_); rintro e w' ⟨rfl, ⟨nd, rfl⟩⟩; refine ⟨_, rfl, ?_⟩; have p14 : 0 ≤ (0 : Int) := (by omega); have q14 : 0 < a0.size := (by have : (0 : Int) < (a0.size : Int) := of_decide_eq_true (by first | (with_reducible assumption) | assumption); omega); have hx14 : ∀ h : 0 < a0.size, ((a0[0]'h).toNat : Int) = bt a0 0 := bt_at a0 0; clear p14; have qi14 : (0 < (a0.size : Int)) = True := eq_true (of_decide_eq_true (by first | (with_reducible assumption) | assumption)); replace q14 := eq_true q14) | (go_at_call 66; (with_reducible refine (ih k (by omega) (a0.extract 1 a0.size) false t126 _ A18.out).mono ?_); rintro e w' ⟨rfl, ⟨nd, rfl⟩⟩))
               go_ret
               exact ⟨by first | rfl | (simp; done) | (simp [*]; done), by repeat (first | exact Drawn0.refl _ | apply Drawn0.step)⟩
             · rw [if_neg c17] at H
               exact absurd H (by simp)
           · replace c16 := Bool.eq_false_iff.mpr c16
             subst c16
             have H1 : (some false) = some r := by rw [if_neg (show ¬ (false = true) by decide)] at H; exact H
             clear H
             have H := H1
             clear H1
             obtain rfl := Option.some.inj H
             have p5 : 0 ≤ (0 : Int) := (by omega)
             have q5 : 0 < a0.size := (by have : (0 : Int) < (a0.size : Int) := of_decide_eq_true (by first | (with_reducible assumption) | assumption); omega)
             have hx5 : ∀ h : 0 < a0.size, ((a0[0]'h).toNat : Int) = bt a0 0 := bt_at a0 0
             clear p5
             have qi5 : (0 < (a0.size : Int)) = True := eq_true (of_decide_eq_true (by first | (with_reducible assumption) | assumption))
             replace q5 := eq_true q5
             go_enter Tryz.func66, Tryz.ntmps66
             go_wp2_with (first | ((with_reducible refine gate_callee (f := 87) rfl ?_); refine goesL_ (some 10) rfl rfl Tryz.func87 (by kernel_rfl) rfl #[.int .u8 (bt a0 0)] rfl (by (try simp only [List.map_toArray, List.map_cons, List.map_nil]); first | done | rfl | (simp only [List.length_drop, List.length_take]; rfl)) ?_; (with_reducible refine (rf02_Word.calls (bt a0 0) false _ A6.out).mono ?_); rintro e w' ⟨rfl, ⟨nd, rfl⟩⟩; refine ⟨_, rfl, ?_⟩) | ((with_reducible refine gate_callee (f := 60) rfl ?_); refine goesL_ (some 15) rfl rfl Tryz.func60 (by kernel_rfl) rfl #[.string a0] rfl (by (try simp only [List.map_toArray, List.map_cons, List.map_nil]); first | done | rfl | (simp only [List.length_drop, List.length_take]; rfl)) ?_; (with_reducible refine (rf03_Triplet.calls a0 false _ A10.out).mono ?_); rintro e w' ⟨rfl, ⟨nd, rfl⟩⟩; refine ⟨_, rfl, ?_⟩; have p14 : 0 ≤ (0 : Int) := (by omega); have q14 : 0 < a0.size := (by have : (0 : Int) < (a0.size : Int) := of_decide_eq_true (by first | (with_reducible assumption) | assumption); omega); have hx14 : ∀ h : 0 < a0.size, ((a0[0]'h).toNat : Int) = bt a0 0 := bt_at a0 0; clear p14; have qi14 : (0 < (a0.size : Int)) = True := eq_true (of_decide_eq_true (by first | (with_reducible assumption) | assumption)); replace q14 := eq_true q14))
             go_ret
             exact ⟨by first | rfl | (simp; done) | (simp [*]; done), by repeat (first | exact Drawn0.refl _ | apply Drawn0.step)⟩
         · rw [if_neg c15] at H
           have c15b0 : ((bt a0 0) == 46) = false := beq_eq_false_iff_ne.mpr c15
           have c15b1 : ((bt a0 0) != 46) = true := bne_iff_ne.mpr c15
           obtain rfl := Option.some.inj H
           have p5 : 0 ≤ (0 : Int) := (by omega)
           have q5 : 0 < a0.size := (by have : (0 : Int) < (a0.size : Int) := of_decide_eq_true (by first | (with_reducible assumption) | assumption); omega)
           have hx5 : ∀ h : 0 < a0.size, ((a0[0]'h).toNat : Int) = bt a0 0 := bt_at a0 0
           clear p5
           have qi5 : (0 < (a0.size : Int)) = True := eq_true (of_decide_eq_true (by first | (with_reducible assumption) | assumption))
           replace q5 := eq_true q5
           go_enter Tryz.func66, Tryz.ntmps66
           go_wp2_with (first | ((with_reducible refine gate_callee (f := 87) rfl ?_); refine goesL_ (some 10) rfl rfl Tryz.func87 (by kernel_rfl) rfl #[.int .u8 (bt a0 0)] rfl (by (try simp only [List.map_toArray, List.map_cons, List.map_nil]); first | done | rfl | (simp only [List.length_drop, List.length_take]; rfl)) ?_; (with_reducible refine (rf02_Word.calls (bt a0 0) false _ A6.out).mono ?_); rintro e w' ⟨rfl, ⟨nd, rfl⟩⟩; refine ⟨_, rfl, ?_⟩) | ((with_reducible refine gate_callee (f := 60) rfl ?_); refine goesL_ (some 15) rfl rfl Tryz.func60 (by kernel_rfl) rfl #[.string a0] rfl (by (try simp only [List.map_toArray, List.map_cons, List.map_nil]); first | done | rfl | (simp only [List.length_drop, List.length_take]; rfl)) ?_; (with_reducible refine (rf03_Triplet.calls a0 false _ A10.out).mono ?_); rintro e w' ⟨rfl, ⟨nd, rfl⟩⟩; refine ⟨_, rfl, ?_⟩; have p14 : 0 ≤ (0 : Int) := (by omega); have q14 : 0 < a0.size := (by have : (0 : Int) < (a0.size : Int) := of_decide_eq_true (by first | (with_reducible assumption) | assumption); omega); have hx14 : ∀ h : 0 < a0.size, ((a0[0]'h).toNat : Int) = bt a0 0 := bt_at a0 0; clear p14; have qi14 : (0 < (a0.size : Int)) = True := eq_true (of_decide_eq_true (by first | (with_reducible assumption) | assumption)); replace q14 := eq_true q14))
           go_ret
           exact ⟨by first | rfl | (simp; done) | (simp [*]; done), by repeat (first | exact Drawn0.refl _ | apply Drawn0.step)⟩
   · rw [if_neg c4] at H
     exact absurd H (by simp)
def rf05_May.f (k : Nat) (a0 : ByteArray) : Option (Bool) := (rf05_May2.f k a0 false).bind fun t127 => (some t127)
set_option maxHeartbeats 8000000 in
set_option maxRecDepth 100000 in
theorem rf05_May.calls (k : Nat) (a0 : ByteArray) (r : Bool) (w : World) (h : rf05_May.f k a0 = some r) :
 Calls Tryz.prog 47 #[.string a0] w fun e w' => e = .returned (.bool r) ∧ Drawn0 w w' := by
 have H : ((rf05_May2.f k a0 false).bind fun t127 => (some t127)) = some r := h
 clear h
 replace H := Option.bind_eq_some_iff.mp H
 obtain ⟨t127, A20, H⟩ := H
 replace H : (some t127) = some r := H
 have A2 := Aside0.mk A20
 clear A20
 obtain rfl := Option.some.inj H
 go_enter Tryz.func47, Tryz.ntmps47
 go_wp2_with (first | ((with_reducible refine gate_callee (f := 66) rfl ?_); refine goesL_ (some 4) rfl rfl Tryz.func66 (by kernel_rfl) rfl #[.string a0, .bool false] rfl (by (try simp only [List.map_toArray, List.map_cons, List.map_nil]); first | done | rfl | (simp only [List.length_drop, List.length_take]; rfl)) ?_; (with_reducible refine (rf05_May2.calls k a0 false t127 _ A2.out).mono ?_); rintro e w' ⟨rfl, ⟨nd, rfl⟩⟩; refine ⟨_, rfl, ?_⟩))
 go_ret
 exact ⟨by first | rfl | (simp; done) | (simp [*]; done), by repeat (first | exact Drawn0.refl _ | apply Drawn0.step)⟩
end Go.Proofs.YtkipkbggnfllkaaGreatDoor.P
end
section
namespace Go.Proofs.YtkipkbggnfllkaaGreatDoor.P
open Go.RowKit Go.Proofs.YtkipkbggnfllkaaGreatDoorW.PrintWords Go.Proofs.YtkipkbggnfllkaaGreatDoorW.PrintLast Go.Proofs.YtkipkbggnfllkaaGreatDoorW.PrintMore
set_option linter.unusedVariables false
set_option linter.unusedSimpArgs false
theorem ref_word {b : Nat} (h : b < 256) : rf02_Word.f (b : Int) = some (isWord b) := by
 have : ∀ b : Fin 256, rf02_Word.f ((b.1 : Nat) : Int) = some (isWord b.1) := by decide +kernel
 exact this ⟨b, h⟩
theorem ref_hex {b : Nat} (h : b < 256) : rf02_Hex.f (b : Int) = some (isHex b) := by
 have : ∀ b : Fin 256, rf02_Hex.f ((b.1 : Nat) : Int) = some (isHex b.1) := by decide +kernel
 exact this ⟨b, h⟩
theorem ref_trip (s : ByteArray) : rf03_Triplet.f s = some (trip (bs s)) := by
 unfold rf03_Triplet.f
 by_cases h : 3 ≤ s.size
 · obtain ⟨a, a1, a2, a3⟩ := bs_get s 0 (by omega)
   obtain ⟨b, b1, b2, b3⟩ := bs_get s 1 (by omega)
   obtain ⟨c, c1, c2, c3⟩ := bs_get s 2 (by omega)
   have e : bs s = a :: b :: c :: (bs s).drop 3 := by
    rw [← c3, ← b3, ← a3]
    rfl
   rw [e]
   have a2' : bt s 0 = (a : Int) := a2
   have b2' : bt s 1 = (b : Int) := b2
   have c2' : bt s 2 = (c : Int) := c2
   rw [if_pos (by omega), if_pos (by omega), a2', b2', c2', ref_hex b1, ref_hex c1]
   simp only [trip, Option.bind_some]
   by_cases ha : a = 37
   · rw [if_pos (by omega), if_pos (by omega)]
     subst ha
     cases hb : isHex b
     · simp
     · simp
       omega
   · rw [if_neg (by omega)]
     have : (a == 37) = false := by simpa using ha
     rw [this, Bool.false_and]
 · rw [if_neg (by omega), trip_short (by rw [bs_length]; omega)]
def nameFrom (q : Q) (l : List Nat) : Bool := match run nstep q l with
 | some q' => isN q'
 | none => false
theorem nameFrom_iff (q : Q) (l : List Nat) : nameFrom q l = true ↔ run nstep q l = some .n := by
 unfold nameFrom
 cases h : run nstep q l with
 | none => simp
 | some q' =>
  simp only [isN_iff]
  exact ⟨fun h => by rw [h], fun h => Option.some.inj h⟩
theorem nameFrom_nd (l : List Nat) : nameFrom .nd l = nameFrom .ns l := by
 cases l with
 | nil => rfl
 | cons b r => rfl
theorem nameFrom_some {q q' : Q} {b : Nat} (h : nstep q b = some q') (r : List Nat) : nameFrom q (b :: r) = nameFrom q' r := by unfold nameFrom; rw [run_some h]
theorem nameFrom_none {q : Q} {b : Nat} (h : nstep q b = none) (r : List Nat) : nameFrom q (b :: r) = false := by unfold nameFrom; rw [run_none h]
theorem trip_name {q : Q} (hq : q = .n ∨ q = .ns) {b : Nat} {r : List Nat} (h : trip (b :: r) = true) : nameFrom q (b :: r) = nameFrom .n (r.drop 2) := by
 match r, h with
 | [], h => cases h
 | [_], h => cases h
 | c :: d :: r, h =>
  simp only [trip, Bool.and_eq_true, beq_iff_eq] at h
  obtain ⟨rfl, hc, hd⟩ := h
  have hw : isWord 37 = false := by decide
  have s1 : nstep q 37 = some .np1 := by rcases hq with rfl | rfl <;> simp [nstep, nsStep, hw]
  have s2 : nstep .np1 c = some .np2 := by simp only [nstep]; rw [if_pos hc]
  have s3 : nstep .np2 d = some .n := by simp only [nstep]; rw [if_pos hd]
  rw [nameFrom_some s1, nameFrom_some s2, nameFrom_some s3]
  rfl
theorem trip_none {q : Q} (hq : q = .n ∨ q = .ns) {r : List Nat} (h : trip (37 :: r) = false) : nameFrom q (37 :: r) = false := by
 have hw : isWord 37 = false := by decide
 have s1 : nstep q 37 = some .np1 := by rcases hq with rfl | rfl <;> simp [nstep, nsStep, hw]
 rw [nameFrom_some s1]
 match r, h with
 | [], _ => rfl
 | [c], _ =>
  by_cases hc : isHex c = true
  · rw [nameFrom_some (q' := .np2) (by simp only [nstep]; rw [if_pos hc])]
    rfl
  · rw [nameFrom_none (by simp only [nstep]; rw [if_neg hc])]
 | c :: d :: r, h =>
  by_cases hc : isHex c = true
  · rw [nameFrom_some (q' := .np2) (by simp only [nstep]; rw [if_pos hc])]
    rw [nameFrom_none]
    simp only [nstep]
    rw [if_neg]
    intro hd
    simp [trip, hc, hd] at h
  · rw [nameFrom_none (by simp only [nstep]; rw [if_neg hc])]
theorem bs_drop3 (s : ByteArray) {b : Nat} {r : List Nat} (h : bs s = b :: r) : bs (s.extract 3 s.size) = r.drop 2 := by
 rw [bs_from, h]
 rfl
theorem ref_may2 : ∀ (n : Nat) (s : ByteArray) (v : Bool), s.size ≤ n → Ev (fun k => rf05_May2.f k s v) (nameFrom (if v = true then .n else .ns) (bs s)) := by
 intro n
 induction n with
 | zero =>
  intro s v h
  rcases bs_cases s with ⟨-, h2, h3⟩ | ⟨b, r, -, -, -, h4, -⟩
  · refine Ev.step (f := fun _ => some v) (fun k => by simp only [rf05_May2.f]; rw [if_pos h3]) ?_
    rw [h2]
    cases v <;> exact Ev.now _
  · omega
 | succ n ih =>
  intro s v h
  rcases bs_cases s with ⟨-, h2, h3⟩ | ⟨b, r, hb, h2, h3, h4, h5, h6, h7⟩
  · refine Ev.step (f := fun _ => some v) (fun k => by simp only [rf05_May2.f]; rw [if_pos h3]) ?_
    rw [h2]
    cases v <;> exact Ev.now _
  · rw [h2]
    have hq : (if v = true then Q.n else Q.ns) = .n ∨ (if v = true then Q.n else Q.ns) = .ns := by cases v <;> simp
    have hsz : (s.extract 1 s.size).size ≤ n := by rw [bs_size_from]; omega
    by_cases hw : isWord b = true
    · refine Ev.step (f := fun k => (rf05_May2.f k (s.extract 1 s.size) true).bind fun t => some t) (fun k => ?_) ?_
      · simp only [rf05_May2.f]
        rw [if_neg h6, if_pos (by omega), h3, ref_word hb, hw]
        simp only [Option.bind_some, if_true]
        rw [if_pos (by omega)]
      · have := ih (s.extract 1 s.size) true hsz
        rw [h5] at this
        rw [nameFrom_some (q' := .n)]
        · exact this.bind (Ev.now _)
        · cases v <;> simp [nstep, nsStep, hw]
    by_cases ht : trip (b :: r) = true
    · refine Ev.step (f := fun k => (rf05_May2.f k (s.extract 3 s.size) true).bind fun t => some t) (fun k => ?_) ?_
      · simp only [rf05_May2.f]
        have : 3 ≤ s.size := by
         refine Classical.byContradiction fun g => ?_
         rw [trip_short (by rw [List.length_cons]; omega)] at ht
         cases ht
        have hw' : isWord b = false := by simpa using hw
        rw [if_neg h6, if_pos (by omega), h3, ref_word hb, ref_trip, h2, ht, hw']
        simp only [Option.bind_some, if_true, Bool.false_eq_true, if_false]
        rw [if_pos (by omega)]
      · have := ih (s.extract 3 s.size) true (by rw [bs_size_from]; omega)
        rw [bs_drop3 s h2] at this
        rw [trip_name hq ht]
        exact this.bind (Ev.now _)
    have ht' : trip (b :: r) = false := by simpa using ht
    have hw' : isWord b = false := by simpa using hw
    by_cases hd : b = 46
    · cases v with
      | false =>
       refine Ev.step (f := fun k => some false) (fun k => ?_) ?_
       · simp only [rf05_May2.f]
         rw [if_neg h6, if_pos (by omega), h3, ref_word hb, ref_trip, h2, ht', hw']
         simp only [Option.bind_some]
         rw [if_neg (by simp), if_neg (by simp), if_pos (by omega), if_neg (by simp)]
       · rw [nameFrom_none]
         · exact Ev.now _
         · subst hd
           simp [nstep, nsStep, hw']
      | true =>
       refine Ev.step (f := fun k => (rf05_May2.f k (s.extract 1 s.size) false).bind fun t => some t) (fun k => ?_) ?_
       · simp only [rf05_May2.f]
         rw [if_neg h6, if_pos (by omega), h3, ref_word hb, ref_trip, h2, ht', hw']
         simp only [Option.bind_some]
         rw [if_neg (by simp), if_neg (by simp), if_pos (by omega), if_pos trivial, if_pos (by omega)]
       · have := ih (s.extract 1 s.size) false hsz
         rw [h5] at this
         rw [nameFrom_some (q' := .nd), nameFrom_nd]
         · exact this.bind (Ev.now _)
         · subst hd
           simp [nstep, hw']
    · refine Ev.step (f := fun k => some false) (fun k => ?_) ?_
      · simp only [rf05_May2.f]
        rw [if_neg h6, if_pos (by omega), h3, ref_word hb, ref_trip, h2, ht', hw']
        simp only [Option.bind_some]
        rw [if_neg (by simp), if_neg (by simp), if_neg (by omega)]
      · by_cases h37 : b = 37
        · subst h37
          rw [trip_none hq ht']
          exact Ev.now _
        · rw [nameFrom_none]
          · exact Ev.now _
          · cases v <;> simp [nstep, nsStep, hw', h37, hd]
theorem ref_may (s : ByteArray) : Ev (fun k => rf05_May.f k s) (nameFrom .ns (bs s)) :=
 (ref_may2 s.size s false (Nat.le_refl _)).bind (Ev.now _)
end Go.Proofs.YtkipkbggnfllkaaGreatDoor.P
end
section
namespace Go.Proofs.YtkipkbggnfllkaaGreatDoor.P
open Go.RowKit Go.Proofs.YtkipkbggnfllkaaGreatDoorW.PrintWords Go.Proofs.YtkipkbggnfllkaaGreatDoorW.PrintLast Go.Proofs.YtkipkbggnfllkaaGreatDoorW.PrintMore
attribute [local go_sem] max2_int min2_int max_two min_two max_three min_three max_four min_four
set_option linter.unusedVariables false
set_option linter.unusedSimpArgs false
def rf02_In.l0 : Nat → ByteArray → Int → Int → Option (Bool)
 | 0, _, _, _ => none
 | k + 1, x0, x1, x5 => if x5 < (x0.size : Int) then (if 0 ≤ x5 then (if (bt x0 x5) = x1 then (some true) else (rf02_In.l0 k x0 x1 (wrap64 (x5 + 1)))) else (none)) else (some false)
def rf02_In.f (k : Nat) (a0 : ByteArray) (a1 : Int) : Option (Bool) := rf02_In.l0 k a0 a1 0
theorem rf02_In.mono_l : ∀ k, (∀ y0 y1 y2, LeO (rf02_In.l0 k y0 y1 y2) (rf02_In.l0 (k + 1) y0 y1 y2))
 | 0 => fun _ _ _ r h => by simp [rf02_In.l0] at h
 | k + 1 => by
  have ih0 := rf02_In.mono_l k
  · intro y0 y1 y2
    unfold rf02_In.l0
    repeat' first
    | (with_reducible exact ih0 _ _ _)
    | (with_reducible exact LeO.refl _)
    | (with_reducible exact LeO.none _)
    | (with_reducible refine LeO.ite ?_ ?_)
    | (with_reducible refine LeO.bind ?_ (fun _ => ?_))
    | exact ih0 _ _ _
    | exact LeO.none _
    | refine LeO.ite ?_ ?_
    | refine LeO.bind ?_ (fun _ => ?_)
theorem rf02_In.mono : ∀ a0 a1 k, LeO (rf02_In.f k a0 a1) (rf02_In.f (k + 1) a0 a1) := by
 intro a0 a1 k
 have ih0 := rf02_In.mono_l k
 unfold rf02_In.f
 repeat' first
  | (with_reducible exact ih0 _ _ _)
  | (with_reducible exact LeO.refl _)
  | (with_reducible exact LeO.none _)
  | (with_reducible refine LeO.ite ?_ ?_)
  | (with_reducible refine LeO.bind ?_ (fun _ => ?_))
  | exact ih0 _ _ _
  | exact LeO.none _
  | refine LeO.ite ?_ ?_
  | refine LeO.bind ?_ (fun _ => ?_)
set_option maxHeartbeats 8000000 in
set_option maxRecDepth 100000 in
theorem rf02_In.calls (k : Nat) (a0 : ByteArray) (a1 : Int) (r : Bool) (w : World) (h : rf02_In.f k a0 a1 = some r) :
 Calls Tryz.prog 37 #[.string a0, .int .u8 a1] w fun e w' => e = .returned (.bool r) ∧ Drawn0 w w' := by
 have H : (rf02_In.l0 k a0 a1 0) = some r := h
 clear h
 have H' := Aside0.mk H
 clear H
 go_enter Tryz.func37, Tryz.ntmps37
 go_wp2
 go_loopg [5] k (fun kq v5 w' => ∃ (x5_1 : Int), v5 = .int .i64 x5_1 ∧ Aside0 (rf02_In.l0 kq a0 a1 x5_1 = some r) ∧ Aside0 (kq ≤ k) ∧ Drawn0 w w')
 case atStart => exact ⟨(0), (by first | rfl | (simp; done) | (simp [*]; done)), H', ⟨Nat.le_refl _⟩, by repeat (first | exact Drawn0.refl _ | apply Drawn0.step)⟩
 case round =>
  clear H'
  try clear p2
  obtain ⟨x5_1, rfl, HA, HK1, ⟨m1, rfl⟩⟩ := hrel
  cases gk with
  | zero => exact absurd HA.out (by simp [rf02_In.l0])
  | succ k1 =>
   have H := HA.out
   clear HA
   simp only [rf02_In.l0] at H
   by_cases c3 : x5_1 < (a0.size : Int)
   · rw [if_pos c3] at H
     have c3b0 : decide (x5_1 < (a0.size : Int)) = true := decide_eq_true c3
     clear c3
     by_cases c4 : 0 ≤ x5_1
     · rw [if_pos c4] at H
       have c4b0 : decide (0 ≤ x5_1) = true := decide_eq_true c4
       clear c4
       by_cases c6 : (bt a0 x5_1) = a1
       · rw [if_pos c6] at H
         have c6b0 : ((bt a0 x5_1) == a1) = true := beq_iff_eq.mpr c6
         have c6b1 : ((bt a0 x5_1) != a1) = false := bne_eq_false_iff_eq.mpr c6
         clear c6
         obtain rfl := Option.some.inj H
         have p5 : 0 ≤ (x5_1 : Int) := of_decide_eq_true (by first | (with_reducible assumption) | assumption)
         have q5 : x5_1 < (a0.size : Int) := of_decide_eq_true (by first | (with_reducible assumption) | assumption)
         have hx5 := bt_at a0 x5_1
         replace p5 := eq_true p5
         replace q5 := eq_true q5
         go_wp2
         go_ret
         exact ⟨by first | rfl | (simp; done) | (simp [*]; done), by repeat (first | exact Drawn0.refl _ | apply Drawn0.step)⟩
       · rw [if_neg c6] at H
         have c6b0 : ((bt a0 x5_1) == a1) = false := beq_eq_false_iff_ne.mpr c6
         have c6b1 : ((bt a0 x5_1) != a1) = true := bne_iff_ne.mpr c6
         have H' := Aside0.mk H
         clear H
         have p5 : 0 ≤ (x5_1 : Int) := of_decide_eq_true (by first | (with_reducible assumption) | assumption)
         have q5 : x5_1 < (a0.size : Int) := of_decide_eq_true (by first | (with_reducible assumption) | assumption)
         have hx5 := bt_at a0 x5_1
         replace p5 := eq_true p5
         replace q5 := eq_true q5
         go_wp2
         go_roundg k1
         case measure => have := HK1.out; omega
         case rel => exact ⟨(wrap64 (x5_1 + 1)), (by first | rfl | (simp; done) | (simp [*]; done)), H', ⟨by have := HK1.out; omega⟩, by repeat (first | exact Drawn0.refl _ | apply Drawn0.step)⟩
     · rw [if_neg c4] at H
       exact absurd H (by simp)
   · rw [if_neg c3] at H
     have c3b0 : decide (x5_1 < (a0.size : Int)) = false := decide_eq_false c3
     clear c3
     obtain rfl := Option.some.inj H
     go_wp2
     go_ret
     exact ⟨by first | rfl | (simp; done) | (simp [*]; done), by repeat (first | exact Drawn0.refl _ | apply Drawn0.step)⟩
def rf07_Operator.f (k : Nat) (a0 : Int) : Option (Bool) := if a0 = 0 then (some true) else ((rf02_In.f k (⟨#[43, 35, 46, 47, 59, 63, 38]⟩ : ByteArray) a0).bind fun t116 => (some t116))
theorem rf07_Operator.mono : ∀ a0 k, LeO (rf07_Operator.f k a0) (rf07_Operator.f (k + 1) a0) := by
 intro a0 k
 unfold rf07_Operator.f
 repeat' first
  | (with_reducible exact rf02_In.mono _ _ _)
  | (with_reducible exact LeO.refl _)
  | (with_reducible exact LeO.none _)
  | (with_reducible refine LeO.ite ?_ ?_)
  | (with_reducible refine LeO.bind ?_ (fun _ => ?_))
  | exact rf02_In.mono _ _ _
  | exact LeO.none _
  | refine LeO.ite ?_ ?_
  | refine LeO.bind ?_ (fun _ => ?_)
set_option maxHeartbeats 8000000 in
set_option maxRecDepth 100000 in
theorem rf07_Operator.calls (k : Nat) (a0 : Int) (r : Bool) (w : World) (h : rf07_Operator.f k a0 = some r) :
 Calls Tryz.prog 20 #[.int .u8 a0] w fun e w' => e = .returned (.bool r) ∧ Drawn0 w w' := by
 have H : (if a0 = 0 then (some true) else ((rf02_In.f k (⟨#[43, 35, 46, 47, 59, 63, 38]⟩ : ByteArray) a0).bind fun t116 => (some t116))) = some r := h
 clear h
 by_cases c2 : a0 = 0
 · rw [if_pos c2] at H
   have c2b0 : (a0 == 0) = true := beq_iff_eq.mpr c2
   have c2b1 : (a0 != 0) = false := bne_eq_false_iff_eq.mpr c2
   clear c2
   obtain rfl := Option.some.inj H
   go_enter Tryz.func20, Tryz.ntmps20
   go_wp2
   go_ret
   exact ⟨by first | rfl | (simp; done) | (simp [*]; done), by repeat (first | exact Drawn0.refl _ | apply Drawn0.step)⟩
 · rw [if_neg c2] at H
   have c2b0 : (a0 == 0) = false := beq_eq_false_iff_ne.mpr c2
   have c2b1 : (a0 != 0) = true := bne_iff_ne.mpr c2
   replace H := Option.bind_eq_some_iff.mp H
   obtain ⟨t116, A30, H⟩ := H
   replace H : (some t116) = some r := H
   have A3 := Aside0.mk A30
   clear A30
   obtain rfl := Option.some.inj H
   go_enter Tryz.func20, Tryz.ntmps20
   go_wp2_with (first | (go_at_call 37; (with_reducible refine (rf02_In.calls k (⟨#[43, 35, 46, 47, 59, 63, 38]⟩ : ByteArray) a0 t116 _ A3.out).mono ?_); rintro e w' ⟨rfl, ⟨nd, rfl⟩⟩))
   go_ret
   exact ⟨by first | rfl | (simp; done) | (simp [*]; done), by repeat (first | exact Drawn0.refl _ | apply Drawn0.step)⟩
def rf02_Literal.f (k : Nat) (a0 : Int) : Option (Bool) := if a0 ≥ 33 then (if a0 ≤ 126 then ((rf02_In.f k (⟨#[34, 39, 37, 60, 62, 92, 94, 96, 123, 124, 125]⟩ : ByteArray) a0).bind fun t159 => (some (!t159))) else (some false)) else (some false)
theorem rf02_Literal.mono : ∀ a0 k, LeO (rf02_Literal.f k a0) (rf02_Literal.f (k + 1) a0) := by
 intro a0 k
 unfold rf02_Literal.f
 repeat' first
  | (with_reducible exact rf02_In.mono _ _ _)
  | (with_reducible exact LeO.refl _)
  | (with_reducible exact LeO.none _)
  | (with_reducible refine LeO.ite ?_ ?_)
  | (with_reducible refine LeO.bind ?_ (fun _ => ?_))
  | exact rf02_In.mono _ _ _
  | exact LeO.none _
  | refine LeO.ite ?_ ?_
  | refine LeO.bind ?_ (fun _ => ?_)
set_option maxHeartbeats 8000000 in
set_option maxRecDepth 100000 in
theorem rf02_Literal.calls (k : Nat) (a0 : Int) (r : Bool) (w : World) (h : rf02_Literal.f k a0 = some r) :
 Calls Tryz.prog 59 #[.int .u8 a0] w fun e w' => e = .returned (.bool r) ∧ Drawn0 w w' := by
 have H : (if a0 ≥ 33 then (if a0 ≤ 126 then ((rf02_In.f k (⟨#[34, 39, 37, 60, 62, 92, 94, 96, 123, 124, 125]⟩ : ByteArray) a0).bind fun t159 => (some (!t159))) else (some false)) else (some false)) = some r := h
 clear h
 by_cases c2 : a0 ≥ 33
 · rw [if_pos c2] at H
   have c2b0 : decide (33 ≤ a0) = true := decide_eq_true c2
   clear c2
   by_cases c3 : a0 ≤ 126
   · rw [if_pos c3] at H
     have c3b0 : decide (a0 ≤ 126) = true := decide_eq_true c3
     clear c3
     replace H := Option.bind_eq_some_iff.mp H
     obtain ⟨t159, A40, H⟩ := H
     replace H : (some (!t159)) = some r := H
     have A4 := Aside0.mk A40
     clear A40
     obtain rfl := Option.some.inj H
     go_enter Tryz.func59, Tryz.ntmps59
     go_wp2_with (first | (go_at_call 37; (with_reducible refine (rf02_In.calls k (⟨#[34, 39, 37, 60, 62, 92, 94, 96, 123, 124, 125]⟩ : ByteArray) a0 t159 _ A4.out).mono ?_); rintro e w' ⟨rfl, ⟨nd, rfl⟩⟩))
     go_ret
     exact ⟨by first | rfl | (simp; done) | (simp [*]; done), by repeat (first | exact Drawn0.refl _ | apply Drawn0.step)⟩
   · rw [if_neg c3] at H
     have c3b0 : decide (a0 ≤ 126) = false := decide_eq_false c3
     clear c3
     obtain rfl := Option.some.inj H
     go_enter Tryz.func59, Tryz.ntmps59
     go_wp2
     go_ret
     exact ⟨by first | rfl | (simp; done) | (simp [*]; done), by repeat (first | exact Drawn0.refl _ | apply Drawn0.step)⟩
 · rw [if_neg c2] at H
   have c2b0 : decide (33 ≤ a0) = false := decide_eq_false c2
   clear c2
   obtain rfl := Option.some.inj H
   go_enter Tryz.func59, Tryz.ntmps59
   go_wp2
   go_ret
   exact ⟨by first | rfl | (simp; done) | (simp [*]; done), by repeat (first | exact Drawn0.refl _ | apply Drawn0.step)⟩
end Go.Proofs.YtkipkbggnfllkaaGreatDoor.P
end
section
namespace Go.Proofs.YtkipkbggnfllkaaGreatDoor.P
open Go.RowKit Go.Proofs.YtkipkbggnfllkaaGreatDoorW.PrintWords Go.Proofs.YtkipkbggnfllkaaGreatDoorW.PrintLast Go.Proofs.YtkipkbggnfllkaaGreatDoorW.PrintMore
set_option linter.unusedVariables false
set_option linter.unusedSimpArgs false
theorem ref_lit {b : Nat} (h : b < 256) : Ev (fun k => rf02_Literal.f k (b : Int)) (isLit b) := by
 have : ∀ b : Fin 256, rf02_Literal.f 20 ((b.1 : Nat) : Int) = some (isLit b.1) := by decide +kernel
 exact Ev.of (fun k => rf02_Literal.mono _ k) (this ⟨b, h⟩)
theorem ref_op {b : Nat} (h : b < 256) : Ev (fun k => rf07_Operator.f k (b : Int)) (b == 0 || isOp b) := by
 have : ∀ b : Fin 256, rf07_Operator.f 20 ((b.1 : Nat) : Int) = some (b.1 == 0 || isOp b.1) := by decide +kernel
 exact Ev.of (fun k => rf07_Operator.mono _ k) (this ⟨b, h⟩)
end Go.Proofs.YtkipkbggnfllkaaGreatDoor.P
end
section
namespace Go.Proofs.YtkipkbggnfllkaaGreatDoor.P
open Go.RowKit Go.Proofs.YtkipkbggnfllkaaGreatDoorW.PrintWords Go.Proofs.YtkipkbggnfllkaaGreatDoorW.PrintLast Go.Proofs.YtkipkbggnfllkaaGreatDoorW.PrintMore
attribute [local go_sem] max2_int min2_int max_two min_two max_three min_three max_four min_four
set_option linter.unusedVariables false
set_option linter.unusedSimpArgs false
def rf06_May.f (k : Nat) (a0_0 : ByteArray) (a0_1 : Int) (a0_2 : Bool) : Option (Bool) := (rf05_May.f k a0_0).bind fun t129 => (if t129 = true then (if a0_1 ≥ 0 then (if a0_1 ≤ 9999 then (if a0_2 = true then (some (a0_1 == 0)) else (some true)) else (some false)) else (some false)) else (some false))
set_option maxHeartbeats 8000000 in
set_option maxRecDepth 100000 in
theorem rf06_May.calls (k : Nat) (a0_0 : ByteArray) (a0_1 : Int) (a0_2 : Bool) (r : Bool) (w : World) (h : rf06_May.f k a0_0 a0_1 a0_2 = some r) :
 Calls Tryz.prog 29 #[.agg #[.string a0_0, .int .i64 a0_1, .bool a0_2]] w fun e w' => e = .returned (.bool r) ∧ Below w.heap.size w w' := by
 have hu43 := Tryz.underlying43
 have HB := Aside0.mk (Below.refl w.heap.size w)
 have H : ((rf05_May.f k a0_0).bind fun t129 => (if t129 = true then (if a0_1 ≥ 0 then (if a0_1 ≤ 9999 then (if a0_2 = true then (some (a0_1 == 0)) else (some true)) else (some false)) else (some false)) else (some false))) = some r := h
 clear h
 replace H := Option.bind_eq_some_iff.mp H
 obtain ⟨t129, A20, H⟩ := H
 replace H : (if t129 = true then (if a0_1 ≥ 0 then (if a0_1 ≤ 9999 then (if a0_2 = true then (some (a0_1 == 0)) else (some true)) else (some false)) else (some false)) else (some false)) = some r := H
 have A2 := Aside0.mk A20
 clear A20
 by_cases c3 : t129 = true
 · subst c3
   have H1 : (if a0_1 ≥ 0 then (if a0_1 ≤ 9999 then (if a0_2 = true then (some (a0_1 == 0)) else (some true)) else (some false)) else (some false)) = some r := by rw [if_pos rfl] at H; exact H
   clear H
   have H := H1
   clear H1
   by_cases c4 : a0_1 ≥ 0
   · rw [if_pos c4] at H
     have c4b0 : decide (0 ≤ a0_1) = true := decide_eq_true c4
     clear c4
     by_cases c5 : a0_1 ≤ 9999
     · rw [if_pos c5] at H
       have c5b0 : decide (a0_1 ≤ 9999) = true := decide_eq_true c5
       clear c5
       by_cases c6 : a0_2 = true
       · subst c6
         have H1 : (some (a0_1 == 0)) = some r := by rw [if_pos rfl] at H; exact H
         clear H
         have H := H1
         clear H1
         obtain rfl := Option.some.inj H
         go_enter Tryz.func29, Tryz.ntmps29
         go_wp2_with (first | ((with_reducible refine gate_dst (N := 1) rfl ?_); refine box_event ?hg (N := 1) ?hd (cs := #[.string a0_0, .int .i64 a0_1, .bool true]) (t := 43) ?hr ?_; (case hd => rfl); (case hg => rfl); (case hr => first | (go_simp; done) | (go_simp; rfl)); intro gb128 hg w7 hbox hb; have n0_ := Aside0.mk (below_step (by repeat (first | (with_reducible first | exact HB.out | apply below_alloc | apply pw_below_drewN | apply below_drew1) | exact HB.out)) hb); have n1_ := Aside0.mk (hbox); have n2_ := Aside0.mk ((by rw [hg]; exact (below_size (by repeat (first | (with_reducible first | exact HB.out | apply below_alloc | apply pw_below_drewN | apply below_drew1) | exact HB.out))) : w.heap.size ≤ gb128)); have n3_ := Aside0.mk ((by rw [hg]; exact (below_size (by repeat (first | (with_reducible first | exact HB.out | apply below_alloc | apply pw_below_drewN | apply below_drew1) | exact HB.out))) : w.heap.size ≤ gb128)); clear HB; have HB := n0_; have BK128 := n1_; have GW128 := n2_; have GE128 := n3_; clear n0_ n1_ n2_ n3_; clear hb hbox hg; have hcz8_0 : w7.cell? ⟨gb128, 0, none⟩ = some (.string a0_0) := (blk_cell BK128.out 0).trans rfl; have hcz8_1 : w7.cell? ⟨gb128, 1, none⟩ = some (.int .i64 a0_1) := (blk_cell BK128.out 1).trans rfl; have hcz8_2 : w7.cell? ⟨gb128, 2, none⟩ = some (.bool true) := (blk_cell BK128.out 2).trans rfl; have hfz8_0 := blk_frozen BK128.out 0; have hfz8_1 := blk_frozen BK128.out 1; have hfz8_2 := blk_frozen BK128.out 2) | ((with_reducible refine gate_callee (f := 47) rfl ?_); refine goesL_ (some 5) rfl rfl Tryz.func47 (by kernel_rfl) rfl #[.string a0_0] rfl (by (try simp only [List.map_toArray, List.map_cons, List.map_nil]); first | done | rfl | (simp only [List.length_drop, List.length_take]; rfl)) ?_; (with_reducible refine (rf05_May.calls k a0_0 true _ A2.out).mono ?_); rintro e w' ⟨rfl, ⟨nd, rfl⟩⟩; refine ⟨_, rfl, ?_⟩))
         go_ret
         exact ⟨by first | rfl | (simp [errW_none, errW_some] <;> rfl) | (simp [*, errW_none, errW_some] <;> rfl), by repeat (first | (with_reducible first | exact HB.out | apply below_alloc | apply pw_below_drewN | apply below_drew1 | refine below_set ?_ GE128.out) | exact HB.out)⟩
       · replace c6 := Bool.eq_false_iff.mpr c6
         subst c6
         have H1 : (some true) = some r := by rw [if_neg (show ¬ (false = true) by decide)] at H; exact H
         clear H
         have H := H1
         clear H1
         obtain rfl := Option.some.inj H
         go_enter Tryz.func29, Tryz.ntmps29
         go_wp2_with (first | ((with_reducible refine gate_dst (N := 1) rfl ?_); refine box_event ?hg (N := 1) ?hd (cs := #[.string a0_0, .int .i64 a0_1, .bool false]) (t := 43) ?hr ?_; (case hd => rfl); (case hg => rfl); (case hr => first | (go_simp; done) | (go_simp; rfl)); intro gb128 hg w9 hbox hb; have n0_ := Aside0.mk (below_step (by repeat (first | (with_reducible first | exact HB.out | apply below_alloc | apply pw_below_drewN | apply below_drew1) | exact HB.out)) hb); have n1_ := Aside0.mk (hbox); have n2_ := Aside0.mk ((by rw [hg]; exact (below_size (by repeat (first | (with_reducible first | exact HB.out | apply below_alloc | apply pw_below_drewN | apply below_drew1) | exact HB.out))) : w.heap.size ≤ gb128)); have n3_ := Aside0.mk ((by rw [hg]; exact (below_size (by repeat (first | (with_reducible first | exact HB.out | apply below_alloc | apply pw_below_drewN | apply below_drew1) | exact HB.out))) : w.heap.size ≤ gb128)); clear HB; have HB := n0_; have BK128 := n1_; have GW128 := n2_; have GE128 := n3_; clear n0_ n1_ n2_ n3_; clear hb hbox hg; have hcz10_0 : w9.cell? ⟨gb128, 0, none⟩ = some (.string a0_0) := (blk_cell BK128.out 0).trans rfl; have hcz10_1 : w9.cell? ⟨gb128, 1, none⟩ = some (.int .i64 a0_1) := (blk_cell BK128.out 1).trans rfl; have hcz10_2 : w9.cell? ⟨gb128, 2, none⟩ = some (.bool false) := (blk_cell BK128.out 2).trans rfl; have hfz10_0 := blk_frozen BK128.out 0; have hfz10_1 := blk_frozen BK128.out 1; have hfz10_2 := blk_frozen BK128.out 2) | ((with_reducible refine gate_callee (f := 47) rfl ?_); refine goesL_ (some 5) rfl rfl Tryz.func47 (by kernel_rfl) rfl #[.string a0_0] rfl (by (try simp only [List.map_toArray, List.map_cons, List.map_nil]); first | done | rfl | (simp only [List.length_drop, List.length_take]; rfl)) ?_; (with_reducible refine (rf05_May.calls k a0_0 true _ A2.out).mono ?_); rintro e w' ⟨rfl, ⟨nd, rfl⟩⟩; refine ⟨_, rfl, ?_⟩))
         go_ret
         exact ⟨by first | rfl | (simp [errW_none, errW_some] <;> rfl) | (simp [*, errW_none, errW_some] <;> rfl), by repeat (first | (with_reducible first | exact HB.out | apply below_alloc | apply pw_below_drewN | apply below_drew1 | refine below_set ?_ GE128.out) | exact HB.out)⟩
     · rw [if_neg c5] at H
       have c5b0 : decide (a0_1 ≤ 9999) = false := decide_eq_false c5
       clear c5
       obtain rfl := Option.some.inj H
       go_enter Tryz.func29, Tryz.ntmps29
       go_wp2_with (first | ((with_reducible refine gate_dst (N := 1) rfl ?_); refine box_event ?hg (N := 1) ?hd (cs := #[.string a0_0, .int .i64 a0_1, .bool a0_2]) (t := 43) ?hr ?_; (case hd => rfl); (case hg => rfl); (case hr => first | (go_simp; done) | (go_simp; rfl)); intro gb128 hg w11 hbox hb; have n0_ := Aside0.mk (below_step (by repeat (first | (with_reducible first | exact HB.out | apply below_alloc | apply pw_below_drewN | apply below_drew1) | exact HB.out)) hb); have n1_ := Aside0.mk (hbox); have n2_ := Aside0.mk ((by rw [hg]; exact (below_size (by repeat (first | (with_reducible first | exact HB.out | apply below_alloc | apply pw_below_drewN | apply below_drew1) | exact HB.out))) : w.heap.size ≤ gb128)); have n3_ := Aside0.mk ((by rw [hg]; exact (below_size (by repeat (first | (with_reducible first | exact HB.out | apply below_alloc | apply pw_below_drewN | apply below_drew1) | exact HB.out))) : w.heap.size ≤ gb128)); clear HB; have HB := n0_; have BK128 := n1_; have GW128 := n2_; have GE128 := n3_; clear n0_ n1_ n2_ n3_; clear hb hbox hg; have hcz12_0 : w11.cell? ⟨gb128, 0, none⟩ = some (.string a0_0) := (blk_cell BK128.out 0).trans rfl; have hcz12_1 : w11.cell? ⟨gb128, 1, none⟩ = some (.int .i64 a0_1) := (blk_cell BK128.out 1).trans rfl; have hcz12_2 : w11.cell? ⟨gb128, 2, none⟩ = some (.bool a0_2) := (blk_cell BK128.out 2).trans rfl; have hfz12_0 := blk_frozen BK128.out 0; have hfz12_1 := blk_frozen BK128.out 1; have hfz12_2 := blk_frozen BK128.out 2) | ((with_reducible refine gate_callee (f := 47) rfl ?_); refine goesL_ (some 5) rfl rfl Tryz.func47 (by kernel_rfl) rfl #[.string a0_0] rfl (by (try simp only [List.map_toArray, List.map_cons, List.map_nil]); first | done | rfl | (simp only [List.length_drop, List.length_take]; rfl)) ?_; (with_reducible refine (rf05_May.calls k a0_0 true _ A2.out).mono ?_); rintro e w' ⟨rfl, ⟨nd, rfl⟩⟩; refine ⟨_, rfl, ?_⟩))
       go_ret
       exact ⟨by first | rfl | (simp [errW_none, errW_some] <;> rfl) | (simp [*, errW_none, errW_some] <;> rfl), by repeat (first | (with_reducible first | exact HB.out | apply below_alloc | apply pw_below_drewN | apply below_drew1 | refine below_set ?_ GE128.out) | exact HB.out)⟩
   · rw [if_neg c4] at H
     have c4b0 : decide (0 ≤ a0_1) = false := decide_eq_false c4
     clear c4
     obtain rfl := Option.some.inj H
     go_enter Tryz.func29, Tryz.ntmps29
     go_wp2_with (first | ((with_reducible refine gate_dst (N := 1) rfl ?_); refine box_event ?hg (N := 1) ?hd (cs := #[.string a0_0, .int .i64 a0_1, .bool a0_2]) (t := 43) ?hr ?_; (case hd => rfl); (case hg => rfl); (case hr => first | (go_simp; done) | (go_simp; rfl)); intro gb128 hg w13 hbox hb; have n0_ := Aside0.mk (below_step (by repeat (first | (with_reducible first | exact HB.out | apply below_alloc | apply pw_below_drewN | apply below_drew1) | exact HB.out)) hb); have n1_ := Aside0.mk (hbox); have n2_ := Aside0.mk ((by rw [hg]; exact (below_size (by repeat (first | (with_reducible first | exact HB.out | apply below_alloc | apply pw_below_drewN | apply below_drew1) | exact HB.out))) : w.heap.size ≤ gb128)); have n3_ := Aside0.mk ((by rw [hg]; exact (below_size (by repeat (first | (with_reducible first | exact HB.out | apply below_alloc | apply pw_below_drewN | apply below_drew1) | exact HB.out))) : w.heap.size ≤ gb128)); clear HB; have HB := n0_; have BK128 := n1_; have GW128 := n2_; have GE128 := n3_; clear n0_ n1_ n2_ n3_; clear hb hbox hg; have hcz14_0 : w13.cell? ⟨gb128, 0, none⟩ = some (.string a0_0) := (blk_cell BK128.out 0).trans rfl; have hcz14_1 : w13.cell? ⟨gb128, 1, none⟩ = some (.int .i64 a0_1) := (blk_cell BK128.out 1).trans rfl; have hcz14_2 : w13.cell? ⟨gb128, 2, none⟩ = some (.bool a0_2) := (blk_cell BK128.out 2).trans rfl; have hfz14_0 := blk_frozen BK128.out 0; have hfz14_1 := blk_frozen BK128.out 1; have hfz14_2 := blk_frozen BK128.out 2) | ((with_reducible refine gate_callee (f := 47) rfl ?_); refine goesL_ (some 5) rfl rfl Tryz.func47 (by kernel_rfl) rfl #[.string a0_0] rfl (by (try simp only [List.map_toArray, List.map_cons, List.map_nil]); first | done | rfl | (simp only [List.length_drop, List.length_take]; rfl)) ?_; (with_reducible refine (rf05_May.calls k a0_0 true _ A2.out).mono ?_); rintro e w' ⟨rfl, ⟨nd, rfl⟩⟩; refine ⟨_, rfl, ?_⟩))
     go_ret
     exact ⟨by first | rfl | (simp [errW_none, errW_some] <;> rfl) | (simp [*, errW_none, errW_some] <;> rfl), by repeat (first | (with_reducible first | exact HB.out | apply below_alloc | apply pw_below_drewN | apply below_drew1 | refine below_set ?_ GE128.out) | exact HB.out)⟩
 · replace c3 := Bool.eq_false_iff.mpr c3
   subst c3
   have H1 : (some false) = some r := by rw [if_neg (show ¬ (false = true) by decide)] at H; exact H
   clear H
   have H := H1
   clear H1
   obtain rfl := Option.some.inj H
   go_enter Tryz.func29, Tryz.ntmps29
   go_wp2_with (first | ((with_reducible refine gate_dst (N := 1) rfl ?_); refine box_event ?hg (N := 1) ?hd (cs := #[.string a0_0, .int .i64 a0_1, .bool a0_2]) (t := 43) ?hr ?_; (case hd => rfl); (case hg => rfl); (case hr => first | (go_simp; done) | (go_simp; rfl)); intro gb128 hg w15 hbox hb; have n0_ := Aside0.mk (below_step (by repeat (first | (with_reducible first | exact HB.out | apply below_alloc | apply pw_below_drewN | apply below_drew1) | exact HB.out)) hb); have n1_ := Aside0.mk (hbox); have n2_ := Aside0.mk ((by rw [hg]; exact (below_size (by repeat (first | (with_reducible first | exact HB.out | apply below_alloc | apply pw_below_drewN | apply below_drew1) | exact HB.out))) : w.heap.size ≤ gb128)); have n3_ := Aside0.mk ((by rw [hg]; exact (below_size (by repeat (first | (with_reducible first | exact HB.out | apply below_alloc | apply pw_below_drewN | apply below_drew1) | exact HB.out))) : w.heap.size ≤ gb128)); clear HB; have HB := n0_; have BK128 := n1_; have GW128 := n2_; have GE128 := n3_; clear n0_ n1_ n2_ n3_; clear hb hbox hg; have hcz16_0 : w15.cell? ⟨gb128, 0, none⟩ = some (.string a0_0) := (blk_cell BK128.out 0).trans rfl; have hcz16_1 : w15.cell? ⟨gb128, 1, none⟩ = some (.int .i64 a0_1) := (blk_cell BK128.out 1).trans rfl; have hcz16_2 : w15.cell? ⟨gb128, 2, none⟩ = some (.bool a0_2) := (blk_cell BK128.out 2).trans rfl; have hfz16_0 := blk_frozen BK128.out 0; have hfz16_1 := blk_frozen BK128.out 1; have hfz16_2 := blk_frozen BK128.out 2) | ((with_reducible refine gate_callee (f := 47) rfl ?_); refine goesL_ (some 5) rfl rfl Tryz.func47 (by kernel_rfl) rfl #[.string a0_0] rfl (by (try simp only [List.map_toArray, List.map_cons, List.map_nil]); first | done | rfl | (simp only [List.length_drop, List.length_take]; rfl)) ?_; (with_reducible refine (rf05_May.calls k a0_0 false _ A2.out).mono ?_); rintro e w' ⟨rfl, ⟨nd, rfl⟩⟩; refine ⟨_, rfl, ?_⟩))
   go_ret
   exact ⟨by first | rfl | (simp [errW_none, errW_some] <;> rfl) | (simp [*, errW_none, errW_some] <;> rfl), by repeat (first | (with_reducible first | exact HB.out | apply below_alloc | apply pw_below_drewN | apply below_drew1 | refine below_set ?_ GE128.out) | exact HB.out)⟩
def rf06_figures.f : Nat → Int → Option (ByteArray)
 | 0, _ => none
 | k + 1, a0 => if a0 < 10 then (some (strOfNums (([(wrap64 (48 + a0)) % 256] : List Int)))) else ((rf06_figures.f k (wrap64 (Int.tdiv a0 10))).bind fun t133 => ((some (([(wrap64 (48 + (Int.tmod a0 10))) % 256] : List Int) : List Int)).bind fun y134 => (if t133.size + (strOfNums y134).size ≤ 9223372036854775807 then (some (t133 ++ (strOfNums y134))) else (none))))
def rf06_figures.T3 : Bool × List (List Nat × List Nat) := (true, [([], []), ([0], [0]), ([1], [1]), ([], []), ([3], [3]), ([4], [4]), ([5], [5]), ([6], [6]), ([7], [7]), ([2, 8], [2, 8]), ([9, 2, 0, 1, 2, 3, 4, 5, 6, 7, 8, 9], [9])])
def rf06_figures.B3 : List Nat := [0, 1, 3, 0, 8, 24, 56, 120, 248, 511, 1023]
theorem rf06_figures.tab3 : rtab .any (opsOf Tryz.f50 3) = rf06_figures.T3 := by kernel_rfl
theorem rf06_figures.bits3 : waitsOk rf06_figures.T3.2 rf06_figures.B3 = true := by kernel_rfl
set_option maxHeartbeats 8000000 in
set_option maxRecDepth 100000 in
theorem rf06_figures.calls (k : Nat) : ∀ (a0 : Int) (r : ByteArray) (w : World) (h : rf06_figures.f k a0 = some r),
 Calls Tryz.prog 50 #[.int .i64 a0] w fun e w' => e = .returned (.string r) ∧ Below w.heap.size w w' := by
 induction k using Nat.strongRecOn with
 | _ k ih =>
 intro a0 r w h
 cases k with
 | zero => exact absurd h (by simp [rf06_figures.f])
 | succ k =>
 simp only [rf06_figures.f] at h
 have HB := Aside0.mk (Below.refl w.heap.size w)
 have H : (if a0 < 10 then (some (strOfNums (([(wrap64 (48 + a0)) % 256] : List Int)))) else ((rf06_figures.f k (wrap64 (Int.tdiv a0 10))).bind fun t133 => ((some (([(wrap64 (48 + (Int.tmod a0 10))) % 256] : List Int) : List Int)).bind fun y134 => (if t133.size + (strOfNums y134).size ≤ 9223372036854775807 then (some (t133 ++ (strOfNums y134))) else (none))))) = some r := h
 clear h
 by_cases c2 : a0 < 10
 · rw [if_pos c2] at H
   have c2b0 : decide (a0 < 10) = true := decide_eq_true c2
   clear c2
   obtain ⟨y130, hy130⟩ : ∃ y_ : List Int, y_ = (([(wrap64 (48 + a0)) % 256] : List Int)) := ⟨_, rfl⟩
   replace H : (some (strOfNums y130)) = some r := by first | (rw [hy130]; with_reducible exact H) | (have H2_ := (Option.bind_some _ _).symm.trans H; rw [hy130]; with_reducible exact H2_) | (have H2_ := (Option.bind_some _ _).symm.trans H; with_reducible exact H2_) | with_reducible exact H | (rw [hy130]; exact H) | exact H
   have Ny130 := Aside0.mk hy130
   clear hy130
   obtain rfl := Option.some.inj H
   go_enter Tryz.func50, Tryz.ntmps50
   go_wp2_with (first | ((with_reducible refine gate_dst (N := 8) rfl ?_); refine Kd.R_lit (Kd.int .u8) _ 5 ?hg (N := 8) ?hd (xs := ([(wrap64 (48 + a0)) % 256] : List Int)) (inner := [.int .u8 ((wrap64 (48 + a0)) % 256)]) (ok := fun _ => True) (okp := fun _ => True) ?hr ?hp (fun _ hk => hk) trivial (Below.refl _ _) (Nat.le_refl _) (by simp) ?_; (case hd => rfl); (case hg => rfl); (case hr => first | (go_simp; done) | (go_simp; rfl)); (case hp => exact (Reps.one (show Kd.M (Kd.int .u8) _ _ _ ((wrap64 (48 + a0)) % 256) [.int .u8 ((wrap64 (48 + a0)) % 256)] from rfl) (Reps.none _ _))); intro v131 w3 ho4 hb hg_ hnew_; clear hg_ hnew_; (first | rw [← Ny130.out] at ho4 | (simp only [Int.reduceToNat] at ho4; rw [← Ny130.out] at ho4)); have n0_ := Aside0.mk (Kd.R_lower ho4 (below_size (by repeat (first | (with_reducible first | exact HB.out | apply below_alloc | apply pw_below_drewN | apply below_drew1) | exact HB.out)))); have n1_ := Aside0.mk (below_step (by repeat (first | (with_reducible first | exact HB.out | apply below_alloc | apply pw_below_drewN | apply below_drew1) | exact HB.out)) hb); clear HB; have HO132 := n0_; have HB := n1_; clear n0_ n1_; clear hb ho4; have hcv5 := own_string (P := Tryz.prog) Tryz.underlying58 Tryz.underlying5 Tryz.underlying9 (Kd.own_of_R HO132.out)))
   go_ret
   exact ⟨by first | rfl | (simp [errW_none, errW_some] <;> rfl) | (simp [*, errW_none, errW_some] <;> rfl), by repeat (first | (with_reducible first | exact HB.out | apply below_alloc | apply pw_below_drewN | apply below_drew1) | exact HB.out)⟩
 · rw [if_neg c2] at H
   have c2b0 : decide (a0 < 10) = false := decide_eq_false c2
   clear c2
   replace H := Option.bind_eq_some_iff.mp H
   obtain ⟨t133, A60, H⟩ := H
   replace H : ((some (([(wrap64 (48 + (Int.tmod a0 10))) % 256] : List Int) : List Int)).bind fun y134 => (if t133.size + (strOfNums y134).size ≤ 9223372036854775807 then (some (t133 ++ (strOfNums y134))) else (none))) = some r := H
   have A6 := Aside0.mk A60
   clear A60
   obtain ⟨y134, hy134⟩ : ∃ y_ : List Int, y_ = (([(wrap64 (48 + (Int.tmod a0 10))) % 256] : List Int)) := ⟨_, rfl⟩
   replace H : (if t133.size + (strOfNums y134).size ≤ 9223372036854775807 then (some (t133 ++ (strOfNums y134))) else (none)) = some r := by first | (rw [hy134]; with_reducible exact H) | (have H2_ := (Option.bind_some _ _).symm.trans H; rw [hy134]; with_reducible exact H2_) | (have H2_ := (Option.bind_some _ _).symm.trans H; with_reducible exact H2_) | with_reducible exact H | (rw [hy134]; exact H) | exact H
   have Ny134 := Aside0.mk hy134
   clear hy134
   by_cases c7 : t133.size + (strOfNums y134).size ≤ 9223372036854775807
   · rw [if_pos c7] at H
     have c7b0 := eq_true c7
     have c7b1 : decide (t133.size + (strOfNums y134).size ≤ 9223372036854775807) = true := decide_eq_true c7
     try have c7b2 : (9223372036854775807 < t133.size + (strOfNums y134).size) = False := eq_false (Nat.not_lt.2 c7)
     obtain rfl := Option.some.inj H
     go_enter Tryz.func50, Tryz.ntmps50
     try go_wp2
     have n0_ := Aside0.mk (below_drew1 HB.out)
     clear HB
     have HB := n0_
     clear n0_
     refine start_ (n := 11) (S := fun w' => True) (ds := []) #[false, false, false, false, false, false, false, false, false, false, false] (by kernel_rfl) rfl rfl trivial (fun hHeld => ?_); refine with_tabW rf06_figures.tab3 rf06_figures.bits3 (fun HT_ HW_ => ?_)
     generalize w.drew = w8 at HB hHeld ⊢
     refine pure_ (i := 0) (N := some 10) (v := ?_) (a' := ?_) #[true, false, false, false, false, false, false, false, false, false, false] rfl rfl (any_of HT_.out (by kernel_rfl)) (fun _ _ _ h => h) (Or.inl ⟨by rfl, ?_⟩) ?_ ?_
     rotate_left
     · intro w'
       go_simp
       with_reducible rfl
     rotate_left
     · simp only [Act.put, List.setIfInBounds_toArray, List.set_cons_zero, List.set_cons_succ, i64_w, i32_w]
       rfl
     refine pure_ (i := 1) (N := some 11) (v := ?_) (a' := ?_) #[true, true, false, false, false, false, false, false, false, false, false] rfl rfl (any_of HT_.out (by kernel_rfl)) (fun _ _ _ h => h) (Or.inl ⟨by rfl, ?_⟩) ?_ ?_
     rotate_left
     · intro w'
       go_simp
       with_reducible rfl
     rotate_left
     · simp only [Act.put, List.setIfInBounds_toArray, List.set_cons_zero, List.set_cons_succ, i64_w, i32_w]
       rfl
     refine pure_ (i := 3) (N := some 13) (v := ?_) (a' := ?_) #[true, true, false, true, false, false, false, false, false, false, false] rfl rfl (any_of HT_.out (by kernel_rfl)) (fun _ _ _ h => h) (Or.inl ⟨by rfl, ?_⟩) ?_ ?_
     rotate_left
     · intro w'
       go_simp
       with_reducible rfl
     rotate_left
     · simp only [Act.put, List.setIfInBounds_toArray, List.set_cons_zero, List.set_cons_succ, i64_w, i32_w]
       rfl
     refine pure_ (i := 4) (N := some 14) (v := ?_) (a' := ?_) #[true, true, false, true, true, false, false, false, false, false, false] rfl rfl (any_of HT_.out (by kernel_rfl)) (fun _ _ _ h => h) (Or.inl ⟨by rfl, ?_⟩) ?_ ?_
     rotate_left
     · intro w'
       go_simp
       with_reducible rfl
     rotate_left
     · simp only [Act.put, List.setIfInBounds_toArray, List.set_cons_zero, List.set_cons_succ, i64_w, i32_w]
       rfl
     refine pure_ (i := 5) (N := some 15) (v := ?_) (a' := ?_) #[true, true, false, true, true, true, false, false, false, false, false] rfl rfl (any_of HT_.out (by kernel_rfl)) (fun _ _ _ h => h) (Or.inl ⟨by rfl, ?_⟩) ?_ ?_
     rotate_left
     · intro w'
       go_simp
       with_reducible rfl
     rotate_left
     · simp only [Act.put, List.setIfInBounds_toArray, List.set_cons_zero, List.set_cons_succ, i64_w, i32_w]
       rfl
     refine pure_ (i := 6) (N := some 16) (v := ?_) (a' := ?_) #[true, true, false, true, true, true, true, false, false, false, false] rfl rfl (any_of HT_.out (by kernel_rfl)) (fun _ _ _ h => h) (Or.inl ⟨by rfl, ?_⟩) ?_ ?_
     rotate_left
     · intro w'
       go_simp
       with_reducible rfl
     rotate_left
     · simp only [Act.put, List.setIfInBounds_toArray, List.set_cons_zero, List.set_cons_succ, i64_w, i32_w]
       rfl
     refine join_ (σ := Value) 2 #[true, true, true, true, true, true, true, true, true, false, false] (fun s_ => [(12, .string t133), (17, s_), (18, .string (strOfNums y134))]) (fun s_ w' => (Kd.R (Kd.int .u8) 5 w' w.heap.size (fun _ => True) s_ y134) ∧ (Below w.heap.size w w')) ?_ ?_
     rotate_left
     · intro hCont
       refine two_ (i := 2) (j := 7) (Ni := some 12) (Nj := some 17) #[true, true, true, true, true, true, true, false, false, false, false] #[true, true, false, true, true, true, true, true, false, false, false] rfl rfl rfl rfl (two_of HT_.out (by kernel_rfl)) (by decide) (by decide) (fun K hK => ?_) (fun K hK => ?_)
       · skip
         refine goes_ Tryz.func50 (by kernel_rfl) rfl #[.int .i64 (wrap64 (Int.tdiv a0 10))] (by rfl) rfl rfl (by (try simp only [List.map_toArray, List.map_cons, List.map_nil]); first | done | rfl | (simp only [List.length_drop, List.length_take]; rfl)) ?_
         with_reducible refine (ih k (by omega) (wrap64 (Int.tdiv a0 10)) t133 _ A6.out).mono ?_
         rintro e w9 ⟨rfl, hb⟩
         refine ⟨_, rfl, ?_⟩
         have n0_ := Aside0.mk (below_step (by repeat (first | (with_reducible first | exact HB.out | apply below_alloc | apply pw_below_drewN | apply below_drew1) | exact HB.out)) hb)
         clear HB
         have HB := n0_
         clear n0_
         (try clear hb)
         (try clear hb2)
         (try clear hk)
         (try clear hi)
         refine hK.out _ _ trivial (fun hHeld => ?_)
         clear hK K
         refine norm_ (a' := ?_) ?_ ?_
         rotate_left
         · show Act.put _ (some 12) _ = _
           simp only [Act.put, List.setIfInBounds_toArray, List.set_cons_zero, List.set_cons_succ, i64_w, i32_w]
           rfl
         refine one_ (i := 7) (N := some 17) #[true, true, true, true, true, true, true, true, false, false, false] rfl rfl (one_of HT_.out (by kernel_rfl)) (by decide) (fun K hK => ?_)
         refine Kd.R_lit_step (Kd.int .u8) _ 5 ?hg (N := 17) ?hd (xs := ([(wrap64 (48 + (Int.tmod a0 10))) % 256] : List Int)) (inner := [.int .u8 ((wrap64 (48 + (Int.tmod a0 10))) % 256)]) (ok := fun _ => True) (okp := fun _ => True) ?hr ?hp (fun _ hk => hk) trivial (Below.refl _ _) (Nat.le_refl _) (by simp) ?_; (case hd => rfl); (case hg => rfl); (case hr => first | (go_simp; done) | (go_simp; rfl)); (case hp => exact (Reps.one (show Kd.M (Kd.int .u8) _ _ _ ((wrap64 (48 + (Int.tmod a0 10))) % 256) [.int .u8 ((wrap64 (48 + (Int.tmod a0 10))) % 256)] from rfl) (Reps.none _ _)))
         intro v135 w10 ho11 hb hg_ hnew_
         clear hg_ hnew_
         (first | rw [← Ny134.out] at ho11 | (simp only [Int.reduceToNat] at ho11; rw [← Ny134.out] at ho11))
         have n0_ := Aside0.mk (Kd.R_lower ho11 (below_size (by repeat (first | (with_reducible first | exact HB.out | apply below_alloc | apply pw_below_drewN | apply below_drew1) | exact HB.out))))
         have n1_ := Aside0.mk (below_step (by repeat (first | (with_reducible first | exact HB.out | apply below_alloc | apply pw_below_drewN | apply below_drew1) | exact HB.out)) hb)
         clear HB
         have HO136 := n0_
         have HB := n1_
         clear n0_ n1_
         clear hb ho11
         refine hK.out _ _ trivial (fun hHeld => ?_)
         clear hK K
         refine norm_ (a' := ?_) ?_ ?_
         rotate_left
         · show Act.put _ (some 17) _ = _
           simp only [Act.put, List.setIfInBounds_toArray, List.set_cons_zero, List.set_cons_succ, i64_w, i32_w]
           rfl
         refine one_ (i := 8) (N := some 18) #[true, true, true, true, true, true, true, true, true, false, false] rfl rfl (one_of HT_.out (by kernel_rfl)) (by decide) (fun K hK => ?_)
         have hcv12 := own_string (P := Tryz.prog) Tryz.underlying58 Tryz.underlying5 Tryz.underlying9 (Kd.own_of_R HO136.out)
         refine value_ (w1 := ?_) (v := ?_) (by rfl) rfl ?_ ?_
         rotate_left 2
         · go_simp
           constructor
           · rfl
           · rfl
         clear hcv12
         refine hK.out _ _ trivial (fun hHeld => ?_)
         clear hK K
         refine norm_ (a' := ?_) ?_ ?_
         rotate_left
         · show Act.put _ (some 18) _ = _
           simp only [Act.put, List.setIfInBounds_toArray, List.set_cons_zero, List.set_cons_succ, i64_w, i32_w]
           rfl
         exact norm_ (by simp only [putAll, Act.put, List.setIfInBounds_toArray, List.set_cons_zero, List.set_cons_succ]) (hCont (v135) _ ⟨(by (with_reducible repeat (first | apply Kd.R_alloc | apply Kd.R_drewN | apply Kd.R_drew)); exact HO136.out), (by repeat (first | (with_reducible first | exact HB.out | apply below_alloc | apply pw_below_drewN | apply below_drew1) | exact HB.out))⟩)
       · skip
         refine Kd.R_lit_step (Kd.int .u8) _ 5 ?hg (N := 17) ?hd (xs := ([(wrap64 (48 + (Int.tmod a0 10))) % 256] : List Int)) (inner := [.int .u8 ((wrap64 (48 + (Int.tmod a0 10))) % 256)]) (ok := fun _ => True) (okp := fun _ => True) ?hr ?hp (fun _ hk => hk) trivial (Below.refl _ _) (Nat.le_refl _) (by simp) ?_; (case hd => rfl); (case hg => rfl); (case hr => first | (go_simp; done) | (go_simp; rfl)); (case hp => exact (Reps.one (show Kd.M (Kd.int .u8) _ _ _ ((wrap64 (48 + (Int.tmod a0 10))) % 256) [.int .u8 ((wrap64 (48 + (Int.tmod a0 10))) % 256)] from rfl) (Reps.none _ _)))
         intro v135 w9 ho10 hb hg_ hnew_
         clear hg_ hnew_
         (first | rw [← Ny134.out] at ho10 | (simp only [Int.reduceToNat] at ho10; rw [← Ny134.out] at ho10))
         have n0_ := Aside0.mk (Kd.R_lower ho10 (below_size (by repeat (first | (with_reducible first | exact HB.out | apply below_alloc | apply pw_below_drewN | apply below_drew1) | exact HB.out))))
         have n1_ := Aside0.mk (below_step (by repeat (first | (with_reducible first | exact HB.out | apply below_alloc | apply pw_below_drewN | apply below_drew1) | exact HB.out)) hb)
         clear HB
         have HO136 := n0_
         have HB := n1_
         clear n0_ n1_
         clear hb ho10
         refine hK.out _ _ trivial (fun hHeld => ?_)
         clear hK K
         refine norm_ (a' := ?_) ?_ ?_
         rotate_left
         · show Act.put _ (some 17) _ = _
           simp only [Act.put, List.setIfInBounds_toArray, List.set_cons_zero, List.set_cons_succ, i64_w, i32_w]
           rfl
         refine two_ (i := 2) (j := 8) (Ni := some 12) (Nj := some 18) #[true, true, true, true, true, true, true, true, false, false, false] #[true, true, false, true, true, true, true, true, true, false, false] rfl rfl rfl rfl (two_of HT_.out (by kernel_rfl)) (by decide) (by decide) (fun K hK => ?_) (fun K hK => ?_)
         · skip
           refine goes_ Tryz.func50 (by kernel_rfl) rfl #[.int .i64 (wrap64 (Int.tdiv a0 10))] (by rfl) rfl rfl (by (try simp only [List.map_toArray, List.map_cons, List.map_nil]); first | done | rfl | (simp only [List.length_drop, List.length_take]; rfl)) ?_
           with_reducible refine (ih k (by omega) (wrap64 (Int.tdiv a0 10)) t133 _ A6.out).mono ?_
           rintro e w11 ⟨rfl, hb⟩
           refine ⟨_, rfl, ?_⟩
           have n0_ := Aside0.mk (Kd.R_below (by (with_reducible repeat (first | apply Kd.R_alloc | apply Kd.R_drewN | apply Kd.R_drew)); exact HO136.out) hb)
           have n1_ := Aside0.mk (below_step (by repeat (first | (with_reducible first | exact HB.out | apply below_alloc | apply pw_below_drewN | apply below_drew1) | exact HB.out)) hb)
           clear HO136
           clear HB
           have HO136 := n0_
           have HB := n1_
           clear n0_ n1_
           (try clear hb)
           (try clear hb2)
           (try clear hk)
           (try clear hi)
           refine hK.out _ _ trivial (fun hHeld => ?_)
           clear hK K
           refine norm_ (a' := ?_) ?_ ?_
           rotate_left
           · show Act.put _ (some 12) _ = _
             simp only [Act.put, List.setIfInBounds_toArray, List.set_cons_zero, List.set_cons_succ, i64_w, i32_w]
             rfl
           refine one_ (i := 8) (N := some 18) #[true, true, true, true, true, true, true, true, true, false, false] rfl rfl (one_of HT_.out (by kernel_rfl)) (by decide) (fun K hK => ?_)
           have hcv12 := own_string (P := Tryz.prog) Tryz.underlying58 Tryz.underlying5 Tryz.underlying9 (Kd.own_of_R HO136.out)
           refine value_ (w1 := ?_) (v := ?_) (by rfl) rfl ?_ ?_
           rotate_left 2
           · go_simp
             constructor
             · rfl
             · rfl
           clear hcv12
           refine hK.out _ _ trivial (fun hHeld => ?_)
           clear hK K
           refine norm_ (a' := ?_) ?_ ?_
           rotate_left
           · show Act.put _ (some 18) _ = _
             simp only [Act.put, List.setIfInBounds_toArray, List.set_cons_zero, List.set_cons_succ, i64_w, i32_w]
             rfl
           exact norm_ (by simp only [putAll, Act.put, List.setIfInBounds_toArray, List.set_cons_zero, List.set_cons_succ]) (hCont (v135) _ ⟨(by (with_reducible repeat (first | apply Kd.R_alloc | apply Kd.R_drewN | apply Kd.R_drew)); exact HO136.out), (by repeat (first | (with_reducible first | exact HB.out | apply below_alloc | apply pw_below_drewN | apply below_drew1) | exact HB.out))⟩)
         · skip
           have hcv11 := own_string (P := Tryz.prog) Tryz.underlying58 Tryz.underlying5 Tryz.underlying9 (Kd.own_of_R HO136.out)
           refine value_ (w1 := ?_) (v := ?_) (by rfl) rfl ?_ ?_
           rotate_left 2
           · go_simp
             constructor
             · rfl
             · rfl
           clear hcv11
           refine hK.out _ _ trivial (fun hHeld => ?_)
           clear hK K
           refine norm_ (a' := ?_) ?_ ?_
           rotate_left
           · show Act.put _ (some 18) _ = _
             simp only [Act.put, List.setIfInBounds_toArray, List.set_cons_zero, List.set_cons_succ, i64_w, i32_w]
             rfl
           refine one_ (i := 2) (N := some 12) #[true, true, true, true, true, true, true, true, true, false, false] rfl rfl (one_of HT_.out (by kernel_rfl)) (by decide) (fun K hK => ?_)
           refine goes_ Tryz.func50 (by kernel_rfl) rfl #[.int .i64 (wrap64 (Int.tdiv a0 10))] (by rfl) rfl rfl (by (try simp only [List.map_toArray, List.map_cons, List.map_nil]); first | done | rfl | (simp only [List.length_drop, List.length_take]; rfl)) ?_
           with_reducible refine (ih k (by omega) (wrap64 (Int.tdiv a0 10)) t133 _ A6.out).mono ?_
           rintro e w12 ⟨rfl, hb⟩
           refine ⟨_, rfl, ?_⟩
           have n0_ := Aside0.mk (Kd.R_below (by (with_reducible repeat (first | apply Kd.R_alloc | apply Kd.R_drewN | apply Kd.R_drew)); exact HO136.out) hb)
           have n1_ := Aside0.mk (below_step (by repeat (first | (with_reducible first | exact HB.out | apply below_alloc | apply pw_below_drewN | apply below_drew1) | exact HB.out)) hb)
           clear HO136
           clear HB
           have HO136 := n0_
           have HB := n1_
           clear n0_ n1_
           (try clear hb)
           (try clear hb2)
           (try clear hk)
           (try clear hi)
           refine hK.out _ _ trivial (fun hHeld => ?_)
           clear hK K
           refine norm_ (a' := ?_) ?_ ?_
           rotate_left
           · show Act.put _ (some 12) _ = _
             simp only [Act.put, List.setIfInBounds_toArray, List.set_cons_zero, List.set_cons_succ, i64_w, i32_w]
             rfl
           exact norm_ (by simp only [putAll, Act.put, List.setIfInBounds_toArray, List.set_cons_zero, List.set_cons_succ]) (hCont (v135) _ ⟨(by (with_reducible repeat (first | apply Kd.R_alloc | apply Kd.R_drewN | apply Kd.R_drew)); exact HO136.out), (by repeat (first | (with_reducible first | exact HB.out | apply below_alloc | apply pw_below_drewN | apply below_drew1) | exact HB.out))⟩)
     rintro v135 w13 ⟨h0_, h1_⟩
     have n0_ : Aside0 (Kd.R (Kd.int .u8) 5 w13 w.heap.size (fun _ => True) v135 y134) := ⟨h0_⟩
     have n1_ : Aside0 (Below w.heap.size w w13) := ⟨h1_⟩
     clear HB
     clear h0_ h1_
     have HO136 := n0_
     have HB := n1_
     clear n0_ n1_
     have hHeld := trivial
     refine norm_ (a' := ?_) ?_ ?_
     rotate_left
     · simp only [putAll, Act.put, List.setIfInBounds_toArray, List.set_cons_zero, List.set_cons_succ]
       rfl
     refine pure_ (i := 9) (N := some 19) (v := ?_) (a' := ?_) #[true, true, true, true, true, true, true, true, true, true, false] rfl rfl (any_of HT_.out (by kernel_rfl)) (fun _ _ _ h => h) (Or.inl ⟨by rfl, ?_⟩) ?_ ?_
     rotate_left
     · intro w'
       go_simp
       with_reducible rfl
     rotate_left
     · simp only [Act.put, List.setIfInBounds_toArray, List.set_cons_zero, List.set_cons_succ, i64_w, i32_w]
       rfl
     refine pure_ (i := 10) (N := some 2) (v := ?_) (a' := ?_) #[true, true, true, true, true, true, true, true, true, true, true] rfl rfl (any_of HT_.out (by kernel_rfl)) (fun _ _ _ h => h) (Or.inl ⟨by rfl, ?_⟩) ?_ ?_
     rotate_left
     · intro w'
       go_simp
       with_reducible rfl
     rotate_left
     · simp only [Act.put, List.setIfInBounds_toArray, List.set_cons_zero, List.set_cons_succ, i64_w, i32_w]
       rfl
     refine done_ (done_of HT_.out (by kernel_rfl)) ?_
     try go_wp2
     go_ret
     exact ⟨by first | rfl | (simp [errW_none, errW_some] <;> rfl) | (simp [*, errW_none, errW_some] <;> rfl), by repeat (first | (with_reducible first | exact HB.out | apply below_alloc | apply pw_below_drewN | apply below_drew1) | exact HB.out)⟩
   · rw [if_neg c7] at H
     exact absurd H (by simp)
def rf06_Put.f (k : Nat) (a0_0 : ByteArray) (a0_1 : Int) (a0_2 : Bool) : Option (ByteArray) := (rf06_May.f k a0_0 a0_1 a0_2).bind fun t138 => (if t138 = true then (if a0_2 = true then (if a0_0.size + 1 ≤ 9223372036854775807 then (some (a0_0 ++ (⟨#[42]⟩ : ByteArray))) else (none)) else (if a0_1 > 0 then (if a0_0.size + 1 ≤ 9223372036854775807 then ((rf06_figures.f k a0_1).bind fun t139 => (if (a0_0 ++ (⟨#[58]⟩ : ByteArray)).size + t139.size ≤ 9223372036854775807 then (some ((a0_0 ++ (⟨#[58]⟩ : ByteArray)) ++ t139)) else (none))) else (none)) else (some a0_0))) else (some (⟨#[]⟩ : ByteArray)))
def rf06_Put.T6 : Bool × List (List Nat × List Nat) := (true, [([], []), ([0], [0]), ([1], [1]), ([], []), ([3], [3]), ([4], [4]), ([2, 5], [2, 5]), ([6, 5, 0, 1, 2, 3, 4, 5, 6], [6])])
def rf06_Put.B6 : List Nat := [0, 1, 3, 0, 8, 24, 63, 127]
theorem rf06_Put.tab6 : rtab .any (opsOf Tryz.f34 6) = rf06_Put.T6 := by kernel_rfl
theorem rf06_Put.bits6 : waitsOk rf06_Put.T6.2 rf06_Put.B6 = true := by kernel_rfl
set_option maxHeartbeats 8000000 in
set_option maxRecDepth 100000 in
theorem rf06_Put.calls (k : Nat) (a0_0 : ByteArray) (a0_1 : Int) (a0_2 : Bool) (r : ByteArray) (w : World) (h : rf06_Put.f k a0_0 a0_1 a0_2 = some r) :
 Calls Tryz.prog 34 #[.agg #[.string a0_0, .int .i64 a0_1, .bool a0_2]] w fun e w' => e = .returned (.string r) ∧ Below w.heap.size w w' := by
 have hu43 := Tryz.underlying43
 have HB := Aside0.mk (Below.refl w.heap.size w)
 have H : ((rf06_May.f k a0_0 a0_1 a0_2).bind fun t138 => (if t138 = true then (if a0_2 = true then (if a0_0.size + 1 ≤ 9223372036854775807 then (some (a0_0 ++ (⟨#[42]⟩ : ByteArray))) else (none)) else (if a0_1 > 0 then (if a0_0.size + 1 ≤ 9223372036854775807 then ((rf06_figures.f k a0_1).bind fun t139 => (if (a0_0 ++ (⟨#[58]⟩ : ByteArray)).size + t139.size ≤ 9223372036854775807 then (some ((a0_0 ++ (⟨#[58]⟩ : ByteArray)) ++ t139)) else (none))) else (none)) else (some a0_0))) else (some (⟨#[]⟩ : ByteArray)))) = some r := h
 clear h
 replace H := Option.bind_eq_some_iff.mp H
 obtain ⟨t138, A20, H⟩ := H
 replace H : (if t138 = true then (if a0_2 = true then (if a0_0.size + 1 ≤ 9223372036854775807 then (some (a0_0 ++ (⟨#[42]⟩ : ByteArray))) else (none)) else (if a0_1 > 0 then (if a0_0.size + 1 ≤ 9223372036854775807 then ((rf06_figures.f k a0_1).bind fun t139 => (if (a0_0 ++ (⟨#[58]⟩ : ByteArray)).size + t139.size ≤ 9223372036854775807 then (some ((a0_0 ++ (⟨#[58]⟩ : ByteArray)) ++ t139)) else (none))) else (none)) else (some a0_0))) else (some (⟨#[]⟩ : ByteArray))) = some r := H
 have A2 := Aside0.mk A20
 clear A20
 by_cases c3 : t138 = true
 · subst c3
   have H1 : (if a0_2 = true then (if a0_0.size + 1 ≤ 9223372036854775807 then (some (a0_0 ++ (⟨#[42]⟩ : ByteArray))) else (none)) else (if a0_1 > 0 then (if a0_0.size + 1 ≤ 9223372036854775807 then ((rf06_figures.f k a0_1).bind fun t139 => (if (a0_0 ++ (⟨#[58]⟩ : ByteArray)).size + t139.size ≤ 9223372036854775807 then (some ((a0_0 ++ (⟨#[58]⟩ : ByteArray)) ++ t139)) else (none))) else (none)) else (some a0_0))) = some r := by rw [if_pos rfl] at H; exact H
   clear H
   have H := H1
   clear H1
   by_cases c4 : a0_2 = true
   · subst c4
     have H1 : (if a0_0.size + 1 ≤ 9223372036854775807 then (some (a0_0 ++ (⟨#[42]⟩ : ByteArray))) else (none)) = some r := by rw [if_pos rfl] at H; exact H
     clear H
     have H := H1
     clear H1
     by_cases c5 : a0_0.size + 1 ≤ 9223372036854775807
     · rw [if_pos c5] at H
       have c5b0 := eq_true c5
       have c5b1 : decide (a0_0.size + 1 ≤ 9223372036854775807) = true := decide_eq_true c5
       try have c5b2 : (9223372036854775807 < a0_0.size + 1) = False := eq_false (Nat.not_lt.2 c5)
       obtain rfl := Option.some.inj H
       go_enter Tryz.func34, Tryz.ntmps34
       go_wp2_with (first | ((with_reducible refine gate_dst (N := 1) rfl ?_); refine box_event ?hg (N := 1) ?hd (cs := #[.string a0_0, .int .i64 a0_1, .bool true]) (t := 43) ?hr ?_; (case hd => rfl); (case hg => rfl); (case hr => first | (go_simp; done) | (go_simp; rfl)); intro gb137 hg w6 hbox hb; have n0_ := Aside0.mk (below_step (by repeat (first | (with_reducible first | exact HB.out | apply below_alloc | apply pw_below_drewN | apply below_drew1) | exact HB.out)) hb); have n1_ := Aside0.mk (hbox); have n2_ := Aside0.mk ((by rw [hg]; exact (below_size (by repeat (first | (with_reducible first | exact HB.out | apply below_alloc | apply pw_below_drewN | apply below_drew1) | exact HB.out))) : w.heap.size ≤ gb137)); have n3_ := Aside0.mk ((by rw [hg]; exact (below_size (by repeat (first | (with_reducible first | exact HB.out | apply below_alloc | apply pw_below_drewN | apply below_drew1) | exact HB.out))) : w.heap.size ≤ gb137)); clear HB; have HB := n0_; have BK137 := n1_; have GW137 := n2_; have GE137 := n3_; clear n0_ n1_ n2_ n3_; clear hb hbox hg; have hcz7_0 : w6.cell? ⟨gb137, 0, none⟩ = some (.string a0_0) := (blk_cell BK137.out 0).trans rfl; have hcz7_1 : w6.cell? ⟨gb137, 1, none⟩ = some (.int .i64 a0_1) := (blk_cell BK137.out 1).trans rfl; have hcz7_2 : w6.cell? ⟨gb137, 2, none⟩ = some (.bool true) := (blk_cell BK137.out 2).trans rfl; have hfz7_0 := blk_frozen BK137.out 0; have hfz7_1 := blk_frozen BK137.out 1; have hfz7_2 := blk_frozen BK137.out 2) | ((with_reducible refine gate_callee (f := 29) rfl ?_); refine goesL_ (some 4) rfl rfl Tryz.func29 (by kernel_rfl) rfl #[.agg #[.string a0_0, .int .i64 a0_1, .bool true]] rfl (by (try simp only [List.map_toArray, List.map_cons, List.map_nil]); first | done | rfl | (simp only [List.length_drop, List.length_take]; rfl)) ?_; (with_reducible refine (rf06_May.calls k a0_0 a0_1 true true _ A2.out).mono ?_); rintro e w8 ⟨rfl, hb⟩; refine ⟨_, rfl, ?_⟩; have n0_ := Aside0.mk (blk_below (g := gb137) (o := .cells #[.string a0_0, .int .i64 a0_1, .bool true] 43 (0, 0)) (by (with_reducible repeat (first | refine blk_drewN ?_ _ | refine blk_drew ?_ | refine blk_alloc ?_ _)); exact BK137.out) hb); have n1_ := Aside0.mk (below_step (by repeat (first | (with_reducible first | exact HB.out | apply below_alloc | apply pw_below_drewN | apply below_drew1 | refine below_set ?_ GE137.out) | exact HB.out)) hb); clear BK137; clear HB; have BK137 := n0_; have HB := n1_; clear n0_ n1_; (try clear hb); (try clear hb2); (try clear hk); (try clear hi); have hcz9_0 : w8.cell? ⟨gb137, 0, none⟩ = some (.string a0_0) := (blk_cell BK137.out 0).trans rfl; have hcz9_1 : w8.cell? ⟨gb137, 1, none⟩ = some (.int .i64 a0_1) := (blk_cell BK137.out 1).trans rfl; have hcz9_2 : w8.cell? ⟨gb137, 2, none⟩ = some (.bool true) := (blk_cell BK137.out 2).trans rfl; have hfz9_0 := blk_frozen BK137.out 0; have hfz9_1 := blk_frozen BK137.out 1; have hfz9_2 := blk_frozen BK137.out 2))
       go_ret
       exact ⟨by first | rfl | (simp [errW_none, errW_some] <;> rfl) | (simp [*, errW_none, errW_some] <;> rfl), by repeat (first | (with_reducible first | exact HB.out | apply below_alloc | apply pw_below_drewN | apply below_drew1 | refine below_set ?_ GE137.out) | exact HB.out)⟩
     · rw [if_neg c5] at H
       exact absurd H (by simp)
   · replace c4 := Bool.eq_false_iff.mpr c4
     subst c4
     have H1 : (if a0_1 > 0 then (if a0_0.size + 1 ≤ 9223372036854775807 then ((rf06_figures.f k a0_1).bind fun t139 => (if (a0_0 ++ (⟨#[58]⟩ : ByteArray)).size + t139.size ≤ 9223372036854775807 then (some ((a0_0 ++ (⟨#[58]⟩ : ByteArray)) ++ t139)) else (none))) else (none)) else (some a0_0)) = some r := by rw [if_neg (show ¬ (false = true) by decide)] at H; exact H
     clear H
     have H := H1
     clear H1
     by_cases c10 : a0_1 > 0
     · rw [if_pos c10] at H
       have c10b0 : decide (0 < a0_1) = true := decide_eq_true c10
       clear c10
       by_cases c11 : a0_0.size + 1 ≤ 9223372036854775807
       · rw [if_pos c11] at H
         have c11b0 := eq_true c11
         have c11b1 : decide (a0_0.size + 1 ≤ 9223372036854775807) = true := decide_eq_true c11
         try have c11b2 : (9223372036854775807 < a0_0.size + 1) = False := eq_false (Nat.not_lt.2 c11)
         replace H := Option.bind_eq_some_iff.mp H
         obtain ⟨t139, A120, H⟩ := H
         replace H : (if (a0_0 ++ (⟨#[58]⟩ : ByteArray)).size + t139.size ≤ 9223372036854775807 then (some ((a0_0 ++ (⟨#[58]⟩ : ByteArray)) ++ t139)) else (none)) = some r := H
         have A12 := Aside0.mk A120
         clear A120
         by_cases c13 : (a0_0 ++ (⟨#[58]⟩ : ByteArray)).size + t139.size ≤ 9223372036854775807
         · rw [if_pos c13] at H
           have c13b0 := eq_true c13
           have c13b1 : decide ((a0_0 ++ (⟨#[58]⟩ : ByteArray)).size + t139.size ≤ 9223372036854775807) = true := decide_eq_true c13
           try have c13b2 : (9223372036854775807 < (a0_0 ++ (⟨#[58]⟩ : ByteArray)).size + t139.size) = False := eq_false (Nat.not_lt.2 c13)
           try have c13b4 : (9223372036854775807 < a0_0.size + 1 + t139.size) = False := eq_false (Nat.not_lt.2 (by have h_ := c13; simp only [ByteArray.size_append] at h_; exact h_))
           obtain rfl := Option.some.inj H
           go_enter Tryz.func34, Tryz.ntmps34
           try go_wp2_with (first | ((with_reducible refine gate_dst (N := 1) rfl ?_); refine box_event ?hg (N := 1) ?hd (cs := #[.string a0_0, .int .i64 a0_1, .bool false]) (t := 43) ?hr ?_; (case hd => rfl); (case hg => rfl); (case hr => first | (go_simp; done) | (go_simp; rfl)); intro gb137 hg w14 hbox hb; have n0_ := Aside0.mk (below_step (by repeat (first | (with_reducible first | exact HB.out | apply below_alloc | apply pw_below_drewN | apply below_drew1) | exact HB.out)) hb); have n1_ := Aside0.mk (hbox); have n2_ := Aside0.mk ((by rw [hg]; exact (below_size (by repeat (first | (with_reducible first | exact HB.out | apply below_alloc | apply pw_below_drewN | apply below_drew1) | exact HB.out))) : w.heap.size ≤ gb137)); have n3_ := Aside0.mk ((by rw [hg]; exact (below_size (by repeat (first | (with_reducible first | exact HB.out | apply below_alloc | apply pw_below_drewN | apply below_drew1) | exact HB.out))) : w.heap.size ≤ gb137)); clear HB; have HB := n0_; have BK137 := n1_; have GW137 := n2_; have GE137 := n3_; clear n0_ n1_ n2_ n3_; clear hb hbox hg; have hcz15_0 : w14.cell? ⟨gb137, 0, none⟩ = some (.string a0_0) := (blk_cell BK137.out 0).trans rfl; have hcz15_1 : w14.cell? ⟨gb137, 1, none⟩ = some (.int .i64 a0_1) := (blk_cell BK137.out 1).trans rfl; have hcz15_2 : w14.cell? ⟨gb137, 2, none⟩ = some (.bool false) := (blk_cell BK137.out 2).trans rfl; have hfz15_0 := blk_frozen BK137.out 0; have hfz15_1 := blk_frozen BK137.out 1; have hfz15_2 := blk_frozen BK137.out 2) | ((with_reducible refine gate_callee (f := 29) rfl ?_); refine goesL_ (some 4) rfl rfl Tryz.func29 (by kernel_rfl) rfl #[.agg #[.string a0_0, .int .i64 a0_1, .bool false]] rfl (by (try simp only [List.map_toArray, List.map_cons, List.map_nil]); first | done | rfl | (simp only [List.length_drop, List.length_take]; rfl)) ?_; (with_reducible refine (rf06_May.calls k a0_0 a0_1 false true _ A2.out).mono ?_); rintro e w16 ⟨rfl, hb⟩; refine ⟨_, rfl, ?_⟩; have n0_ := Aside0.mk (blk_below (g := gb137) (o := .cells #[.string a0_0, .int .i64 a0_1, .bool false] 43 (0, 0)) (by (with_reducible repeat (first | refine blk_drewN ?_ _ | refine blk_drew ?_ | refine blk_alloc ?_ _)); exact BK137.out) hb); have n1_ := Aside0.mk (below_step (by repeat (first | (with_reducible first | exact HB.out | apply below_alloc | apply pw_below_drewN | apply below_drew1 | refine below_set ?_ GE137.out) | exact HB.out)) hb); clear BK137; clear HB; have BK137 := n0_; have HB := n1_; clear n0_ n1_; (try clear hb); (try clear hb2); (try clear hk); (try clear hi); have hcz17_0 : w16.cell? ⟨gb137, 0, none⟩ = some (.string a0_0) := (blk_cell BK137.out 0).trans rfl; have hcz17_1 : w16.cell? ⟨gb137, 1, none⟩ = some (.int .i64 a0_1) := (blk_cell BK137.out 1).trans rfl; have hcz17_2 : w16.cell? ⟨gb137, 2, none⟩ = some (.bool false) := (blk_cell BK137.out 2).trans rfl; have hfz17_0 := blk_frozen BK137.out 0; have hfz17_1 := blk_frozen BK137.out 1; have hfz17_2 := blk_frozen BK137.out 2))
           have n0_ := Aside0.mk (blk_drew BK137.out)
           have n1_ := Aside0.mk (below_drew1 HB.out)
           clear BK137
           clear HB
           have BK137 := n0_
           have HB := n1_
           clear n0_ n1_
           refine start_ (n := 8) (S := fun w' => w'.cell? ⟨gb137, 0, none⟩ = some (.string a0_0) ∧ w'.cell? ⟨gb137, 1, none⟩ = some (.int .i64 a0_1) ∧ w'.cell? ⟨gb137, 2, none⟩ = some (.bool false)) (ds := []) #[false, false, false, false, false, false, false, false] (by kernel_rfl) rfl rfl ⟨(blk_cell BK137.out 0).trans rfl, (blk_cell BK137.out 1).trans rfl, (blk_cell BK137.out 2).trans rfl⟩ (fun hHeld => ?_); refine with_tabW rf06_Put.tab6 rf06_Put.bits6 (fun HT_ HW_ => ?_)
           generalize w16.drew = w18 at BK137 HB hHeld ⊢
           refine pure_ (i := 0) (N := some 14) (v := ?_) (a' := ?_) #[true, false, false, false, false, false, false, false] rfl rfl (any_of HT_.out (by kernel_rfl)) (fun _ _ _ h => h) (Or.inl ⟨by rfl, ?_⟩) ?_ ?_
           rotate_left
           · intro w'
             go_simp
             with_reducible rfl
           rotate_left
           · simp only [Act.put, List.setIfInBounds_toArray, List.set_cons_zero, List.set_cons_succ, i64_w, i32_w]
             rfl
           refine pure_ (i := 3) (N := some 17) (v := ?_) (a' := ?_) #[true, false, false, true, false, false, false, false] rfl rfl (any_of HT_.out (by kernel_rfl)) (fun _ _ _ h => h) (Or.inl ⟨by rfl, ?_⟩) ?_ ?_
           rotate_left
           · intro w'
             go_simp
             with_reducible rfl
           rotate_left
           · simp only [Act.put, List.setIfInBounds_toArray, List.set_cons_zero, List.set_cons_succ, i64_w, i32_w]
             rfl
           refine take_ (i := 1) (N := some 15) (v := ?_) (a' := ?_) #[true, true, false, true, false, false, false, false] rfl rfl (take_ofW HT_.out HW_.out (by kernel_rfl)) (fun _ _ _ h => h) (Or.inl ⟨by rfl, ?_⟩) hHeld ?_ ?_
           rotate_left
           · rintro w' ⟨s0, s1, s2⟩
             go_simp
             with_reducible rfl
           rotate_left
           · simp only [Act.put, List.setIfInBounds_toArray, List.set_cons_zero, List.set_cons_succ, i64_w, i32_w]
             rfl
           refine pure_ (i := 2) (N := some 16) (v := ?_) (a' := ?_) #[true, true, true, true, false, false, false, false] rfl rfl (any_of HT_.out (by kernel_rfl)) (fun _ _ _ h => h) (Or.inl ⟨by rfl, ?_⟩) ?_ ?_
           rotate_left
           · intro w'
             go_simp
             with_reducible rfl
           rotate_left
           · simp only [Act.put, List.setIfInBounds_toArray, List.set_cons_zero, List.set_cons_succ, i64_w, i32_w]
             rfl
           refine take_ (i := 4) (N := some 18) (v := ?_) (a' := ?_) #[true, true, true, true, true, false, false, false] rfl rfl (take_ofW HT_.out HW_.out (by kernel_rfl)) (fun _ _ _ h => h) (Or.inl ⟨by rfl, ?_⟩) hHeld ?_ ?_
           rotate_left
           · rintro w' ⟨s0, s1, s2⟩
             go_simp
             with_reducible rfl
           rotate_left
           · simp only [Act.put, List.setIfInBounds_toArray, List.set_cons_zero, List.set_cons_succ, i64_w, i32_w]
             rfl
           refine one_ (i := 5) (N := some 19) #[true, true, true, true, true, true, false, false] rfl rfl (one_of HT_.out (by kernel_rfl)) (by decide) (fun K hK => ?_)
           refine goes_ Tryz.func50 (by kernel_rfl) rfl #[.int .i64 a0_1] (by rfl) rfl rfl (by (try simp only [List.map_toArray, List.map_cons, List.map_nil]); first | done | rfl | (simp only [List.length_drop, List.length_take]; rfl)) ?_
           with_reducible refine (rf06_figures.calls k a0_1 t139 _ A12.out).mono ?_
           rintro e w19 ⟨rfl, hb⟩
           refine ⟨_, rfl, ?_⟩
           have n0_ := Aside0.mk (blk_below (g := gb137) (o := .cells #[.string a0_0, .int .i64 a0_1, .bool false] 43 (0, 0)) (by (with_reducible repeat (first | refine blk_drewN ?_ _ | refine blk_drew ?_ | refine blk_alloc ?_ _)); exact BK137.out) hb)
           have n1_ := Aside0.mk (below_step (by repeat (first | (with_reducible first | exact HB.out | apply below_alloc | apply pw_below_drewN | apply below_drew1 | refine below_set ?_ GE137.out) | exact HB.out)) hb)
           clear BK137
           clear HB
           have BK137 := n0_
           have HB := n1_
           clear n0_ n1_
           (try clear hb)
           (try clear hb2)
           (try clear hk)
           (try clear hi)
           refine hK.out _ _ ⟨(blk_cell BK137.out 0).trans rfl, (blk_cell BK137.out 1).trans rfl, (blk_cell BK137.out 2).trans rfl⟩ (fun hHeld => ?_)
           clear hK K
           refine norm_ (a' := ?_) ?_ ?_
           rotate_left
           · show Act.put _ (some 19) _ = _
             simp only [Act.put, List.setIfInBounds_toArray, List.set_cons_zero, List.set_cons_succ, i64_w, i32_w]
             rfl
           refine pure_ (i := 6) (N := some 20) (v := ?_) (a' := ?_) #[true, true, true, true, true, true, true, false] rfl rfl (any_of HT_.out (by kernel_rfl)) (fun _ _ _ h => h) (Or.inl ⟨by rfl, ?_⟩) ?_ ?_
           rotate_left
           · intro w'
             go_simp
             with_reducible rfl
           rotate_left
           · simp only [Act.put, List.setIfInBounds_toArray, List.set_cons_zero, List.set_cons_succ, i64_w, i32_w]
             rfl
           refine pure_ (i := 7) (N := some 2) (v := ?_) (a' := ?_) #[true, true, true, true, true, true, true, true] rfl rfl (any_of HT_.out (by kernel_rfl)) (fun _ _ _ h => h) (Or.inl ⟨by rfl, ?_⟩) ?_ ?_
           rotate_left
           · intro w'
             go_simp
             with_reducible rfl
           rotate_left
           · simp only [Act.put, List.setIfInBounds_toArray, List.set_cons_zero, List.set_cons_succ, i64_w, i32_w]
             rfl
           refine done_ (done_of HT_.out (by kernel_rfl)) ?_
           try go_wp2
           go_ret
           exact ⟨by first | rfl | (simp [errW_none, errW_some] <;> rfl) | (simp [*, errW_none, errW_some] <;> rfl), by repeat (first | (with_reducible first | exact HB.out | apply below_alloc | apply pw_below_drewN | apply below_drew1 | refine below_set ?_ GE137.out) | exact HB.out)⟩
         · rw [if_neg c13] at H
           exact absurd H (by simp)
       · rw [if_neg c11] at H
         exact absurd H (by simp)
     · rw [if_neg c10] at H
       have c10b0 : decide (0 < a0_1) = false := decide_eq_false c10
       clear c10
       obtain rfl := Option.some.inj H
       go_enter Tryz.func34, Tryz.ntmps34
       go_wp2_with (first | ((with_reducible refine gate_dst (N := 1) rfl ?_); refine box_event ?hg (N := 1) ?hd (cs := #[.string a0_0, .int .i64 a0_1, .bool false]) (t := 43) ?hr ?_; (case hd => rfl); (case hg => rfl); (case hr => first | (go_simp; done) | (go_simp; rfl)); intro gb137 hg w20 hbox hb; have n0_ := Aside0.mk (below_step (by repeat (first | (with_reducible first | exact HB.out | apply below_alloc | apply pw_below_drewN | apply below_drew1) | exact HB.out)) hb); have n1_ := Aside0.mk (hbox); have n2_ := Aside0.mk ((by rw [hg]; exact (below_size (by repeat (first | (with_reducible first | exact HB.out | apply below_alloc | apply pw_below_drewN | apply below_drew1) | exact HB.out))) : w.heap.size ≤ gb137)); have n3_ := Aside0.mk ((by rw [hg]; exact (below_size (by repeat (first | (with_reducible first | exact HB.out | apply below_alloc | apply pw_below_drewN | apply below_drew1) | exact HB.out))) : w.heap.size ≤ gb137)); clear HB; have HB := n0_; have BK137 := n1_; have GW137 := n2_; have GE137 := n3_; clear n0_ n1_ n2_ n3_; clear hb hbox hg; have hcz21_0 : w20.cell? ⟨gb137, 0, none⟩ = some (.string a0_0) := (blk_cell BK137.out 0).trans rfl; have hcz21_1 : w20.cell? ⟨gb137, 1, none⟩ = some (.int .i64 a0_1) := (blk_cell BK137.out 1).trans rfl; have hcz21_2 : w20.cell? ⟨gb137, 2, none⟩ = some (.bool false) := (blk_cell BK137.out 2).trans rfl; have hfz21_0 := blk_frozen BK137.out 0; have hfz21_1 := blk_frozen BK137.out 1; have hfz21_2 := blk_frozen BK137.out 2) | ((with_reducible refine gate_callee (f := 29) rfl ?_); refine goesL_ (some 4) rfl rfl Tryz.func29 (by kernel_rfl) rfl #[.agg #[.string a0_0, .int .i64 a0_1, .bool false]] rfl (by (try simp only [List.map_toArray, List.map_cons, List.map_nil]); first | done | rfl | (simp only [List.length_drop, List.length_take]; rfl)) ?_; (with_reducible refine (rf06_May.calls k a0_0 a0_1 false true _ A2.out).mono ?_); rintro e w22 ⟨rfl, hb⟩; refine ⟨_, rfl, ?_⟩; have n0_ := Aside0.mk (blk_below (g := gb137) (o := .cells #[.string a0_0, .int .i64 a0_1, .bool false] 43 (0, 0)) (by (with_reducible repeat (first | refine blk_drewN ?_ _ | refine blk_drew ?_ | refine blk_alloc ?_ _)); exact BK137.out) hb); have n1_ := Aside0.mk (below_step (by repeat (first | (with_reducible first | exact HB.out | apply below_alloc | apply pw_below_drewN | apply below_drew1 | refine below_set ?_ GE137.out) | exact HB.out)) hb); clear BK137; clear HB; have BK137 := n0_; have HB := n1_; clear n0_ n1_; (try clear hb); (try clear hb2); (try clear hk); (try clear hi); have hcz23_0 : w22.cell? ⟨gb137, 0, none⟩ = some (.string a0_0) := (blk_cell BK137.out 0).trans rfl; have hcz23_1 : w22.cell? ⟨gb137, 1, none⟩ = some (.int .i64 a0_1) := (blk_cell BK137.out 1).trans rfl; have hcz23_2 : w22.cell? ⟨gb137, 2, none⟩ = some (.bool false) := (blk_cell BK137.out 2).trans rfl; have hfz23_0 := blk_frozen BK137.out 0; have hfz23_1 := blk_frozen BK137.out 1; have hfz23_2 := blk_frozen BK137.out 2))
       go_ret
       exact ⟨by first | rfl | (simp [errW_none, errW_some] <;> rfl) | (simp [*, errW_none, errW_some] <;> rfl), by repeat (first | (with_reducible first | exact HB.out | apply below_alloc | apply pw_below_drewN | apply below_drew1 | refine below_set ?_ GE137.out) | exact HB.out)⟩
 · replace c3 := Bool.eq_false_iff.mpr c3
   subst c3
   have H1 : (some (⟨#[]⟩ : ByteArray)) = some r := by rw [if_neg (show ¬ (false = true) by decide)] at H; exact H
   clear H
   have H := H1
   clear H1
   obtain rfl := Option.some.inj H
   go_enter Tryz.func34, Tryz.ntmps34
   go_wp2_with (first | ((with_reducible refine gate_dst (N := 1) rfl ?_); refine box_event ?hg (N := 1) ?hd (cs := #[.string a0_0, .int .i64 a0_1, .bool a0_2]) (t := 43) ?hr ?_; (case hd => rfl); (case hg => rfl); (case hr => first | (go_simp; done) | (go_simp; rfl)); intro gb137 hg w24 hbox hb; have n0_ := Aside0.mk (below_step (by repeat (first | (with_reducible first | exact HB.out | apply below_alloc | apply pw_below_drewN | apply below_drew1) | exact HB.out)) hb); have n1_ := Aside0.mk (hbox); have n2_ := Aside0.mk ((by rw [hg]; exact (below_size (by repeat (first | (with_reducible first | exact HB.out | apply below_alloc | apply pw_below_drewN | apply below_drew1) | exact HB.out))) : w.heap.size ≤ gb137)); have n3_ := Aside0.mk ((by rw [hg]; exact (below_size (by repeat (first | (with_reducible first | exact HB.out | apply below_alloc | apply pw_below_drewN | apply below_drew1) | exact HB.out))) : w.heap.size ≤ gb137)); clear HB; have HB := n0_; have BK137 := n1_; have GW137 := n2_; have GE137 := n3_; clear n0_ n1_ n2_ n3_; clear hb hbox hg; have hcz25_0 : w24.cell? ⟨gb137, 0, none⟩ = some (.string a0_0) := (blk_cell BK137.out 0).trans rfl; have hcz25_1 : w24.cell? ⟨gb137, 1, none⟩ = some (.int .i64 a0_1) := (blk_cell BK137.out 1).trans rfl; have hcz25_2 : w24.cell? ⟨gb137, 2, none⟩ = some (.bool a0_2) := (blk_cell BK137.out 2).trans rfl; have hfz25_0 := blk_frozen BK137.out 0; have hfz25_1 := blk_frozen BK137.out 1; have hfz25_2 := blk_frozen BK137.out 2) | ((with_reducible refine gate_callee (f := 29) rfl ?_); refine goesL_ (some 4) rfl rfl Tryz.func29 (by kernel_rfl) rfl #[.agg #[.string a0_0, .int .i64 a0_1, .bool a0_2]] rfl (by (try simp only [List.map_toArray, List.map_cons, List.map_nil]); first | done | rfl | (simp only [List.length_drop, List.length_take]; rfl)) ?_; (with_reducible refine (rf06_May.calls k a0_0 a0_1 a0_2 false _ A2.out).mono ?_); rintro e w26 ⟨rfl, hb⟩; refine ⟨_, rfl, ?_⟩; have n0_ := Aside0.mk (blk_below (g := gb137) (o := .cells #[.string a0_0, .int .i64 a0_1, .bool a0_2] 43 (0, 0)) (by (with_reducible repeat (first | refine blk_drewN ?_ _ | refine blk_drew ?_ | refine blk_alloc ?_ _)); exact BK137.out) hb); have n1_ := Aside0.mk (below_step (by repeat (first | (with_reducible first | exact HB.out | apply below_alloc | apply pw_below_drewN | apply below_drew1 | refine below_set ?_ GE137.out) | exact HB.out)) hb); clear BK137; clear HB; have BK137 := n0_; have HB := n1_; clear n0_ n1_; (try clear hb); (try clear hb2); (try clear hk); (try clear hi)))
   go_ret
   exact ⟨by first | rfl | (simp [errW_none, errW_some] <;> rfl) | (simp [*, errW_none, errW_some] <;> rfl), by repeat (first | (with_reducible first | exact HB.out | apply below_alloc | apply pw_below_drewN | apply below_drew1 | refine below_set ?_ GE137.out) | exact HB.out)⟩
mutual
def rf06_Is.j0 : Nat → ByteArray → Int → ByteArray → ByteArray → Int → Bool → Option (ByteArray × Int × Bool × Bool)
 | 0, _, _, _, _, _, _ => none
 | k + 1, x0, x4, x6, x144000, x144001, x144002 => rf06_Is.l0 k x0 x4 x6 1 x144000 x144001 x144002
def rf06_Is.l0 : Nat → ByteArray → Int → ByteArray → Int → ByteArray → Int → Bool → Option (ByteArray × Int × Bool × Bool)
 | 0, _, _, _, _, _, _, _ => none
 | k + 1, x0, x4, x6, x7, x144000, x144001, x144002 => if x7 < (x6.size : Int) then (if x7 < 6 then (if 0 ≤ x7 then (rf06_Is.l0 k x0 x4 x6 (wrap64 (x7 + 1)) x144000 (wrap64 ((wrap64 ((wrap64 (10 * x144001)) + (wrap64 (bt x6 x7)))) - 48)) x144002) else (none)) else (if x4 > 0 then ((rf06_May.f k x144000 x144001 x144002).bind fun t144 => (if t144 = true then ((rf06_Put.f k x144000 x144001 x144002).bind fun t145 => (some (x144000, x144001, x144002, (t145.toList == x0.toList)))) else (some (x144000, x144001, x144002, false)))) else (some (x144000, x144001, x144002, false)))) else (if x4 > 0 then ((rf06_May.f k x144000 x144001 x144002).bind fun t146 => (if t146 = true then ((rf06_Put.f k x144000 x144001 x144002).bind fun t147 => (some (x144000, x144001, x144002, (t147.toList == x0.toList)))) else (some (x144000, x144001, x144002, false)))) else (some (x144000, x144001, x144002, false)))
end
end Go.Proofs.YtkipkbggnfllkaaGreatDoor.P
end
section
namespace Go.Proofs.YtkipkbggnfllkaaGreatDoor.P
open Go.RowKit Go.Proofs.YtkipkbggnfllkaaGreatDoorW.PrintWords Go.Proofs.YtkipkbggnfllkaaGreatDoorW.PrintLast Go.Proofs.YtkipkbggnfllkaaGreatDoorW.PrintMore
set_option linter.unusedVariables false
set_option linter.unusedSimpArgs false
theorem ref_figures : ∀ (d m : Nat), m < 10 ^ (d + 1) → d ≤ 3 → ∃ t, Ev (fun k => rf06_figures.f k (m : Int)) t ∧ bs t = figsN (d + 1) m ∧ t.size = (figsN (d + 1) m).length ∧ t.size ≤ d + 1 := by
 intro d
 induction d with
 | zero =>
  intro m hm _
  have e : (48 + (m : Int)) = ((48 + m : Nat) : Int) := by omega
  refine ⟨strOfNums [(wrap64 (48 + (m : Int))) % 256], Ev.step (f := fun _ => some _) (fun k => by simp only [rf06_figures.f]; rw [if_pos (by omega)]) (Ev.now _), ?_, ?_, ?_⟩
  · rw [e, bs_one _ (by omega)]
    simp only [figsN]
    rw [if_pos (by omega)]
  · rw [strOfNums_size]
    simp only [figsN]
    rw [if_pos (by omega)]
    rfl
  · rw [strOfNums_size]
    simp
 | succ d ih =>
  intro m hm hd
  by_cases h : m < 10
  · have e : (48 + (m : Int)) = ((48 + m : Nat) : Int) := by omega
    refine ⟨strOfNums [(wrap64 (48 + (m : Int))) % 256], Ev.step (f := fun _ => some _) (fun k => by simp only [rf06_figures.f]; rw [if_pos (by omega)]) (Ev.now _), ?_, ?_, ?_⟩
    · rw [e, bs_one _ (by omega)]
      simp only [figsN]
      rw [if_pos (by omega)]
    · rw [strOfNums_size]
      simp only [figsN]
      rw [if_pos (by omega)]
      rfl
    · rw [strOfNums_size]
      simp
  · have hm2 : m / 10 < 10 ^ (d + 1) := by
     rw [Nat.pow_succ] at hm
     omega
    obtain ⟨t, ht, h1, h2, h3⟩ := ih (m / 10) hm2 (by omega)
    have hb : m < 1000000 := by
     have : 10 ^ (d + 1 + 1) ≤ 10 ^ 6 := Nat.pow_le_pow_right (by omega) (by omega)
     omega
    have e1 : wrap64 (Int.tdiv (m : Int) 10) = ((m / 10 : Nat) : Int) := by
     rw [show Int.tdiv (m : Int) 10 = ((m / 10 : Nat) : Int) from rfl, w64 (by omega) (by omega)]
    have e2 : (48 + Int.tmod (m : Int) 10) = ((48 + m % 10 : Nat) : Int) := by
     rw [show Int.tmod (m : Int) 10 = ((m % 10 : Nat) : Int) from rfl]
     omega
    refine ⟨t ++ strOfNums [(wrap64 (48 + Int.tmod (m : Int) 10)) % 256], ?_, ?_, ?_, ?_⟩
    · refine Ev.step (f := fun k => (rf06_figures.f k ((m / 10 : Nat) : Int)).bind fun t133 => if t133.size + (strOfNums [(wrap64 (48 + Int.tmod (m : Int) 10)) % 256]).size ≤ 9223372036854775807 then some (t133 ++ strOfNums [(wrap64 (48 + Int.tmod (m : Int) 10)) % 256]) else none) (fun k => ?_) ?_
      · simp only [rf06_figures.f]
        rw [if_neg (by omega), e1]
        rfl
      · refine ht.bind ?_
        rw [if_pos (by rw [strOfNums_size]; simp; omega)]
        exact Ev.now _
    · rw [bs_append, h1, e2, bs_one _ (by omega)]
      conv => rhs; simp only [figsN]
      rw [if_neg h]
      rfl
    · rw [ByteArray.size_append, strOfNums_size, h2]
      conv => rhs; simp only [figsN]
      rw [if_neg h, List.length_append]
      rfl
    · rw [ByteArray.size_append, strOfNums_size]
      simp
      omega
theorem ref_may6 (nm : ByteArray) (m : Int) (st : Bool) : Ev (fun k => rf06_May.f k nm m st) (nameFrom .ns (bs nm) && (decide (0 ≤ m) && (decide (m ≤ 9999) && (!st || m == 0)))) := by
 refine (ref_may nm).bind ?_
 cases h : nameFrom .ns (bs nm) with
 | false => exact Ev.now _
 | true =>
  simp only [if_true, Bool.true_and]
  by_cases h1 : 0 ≤ m
  · rw [if_pos (by omega), decide_eq_true h1]
    by_cases h2 : m ≤ 9999
    · rw [if_pos h2, decide_eq_true h2]
      cases st
      · simp only [Bool.false_eq_true, if_false]
        exact Ev.now _
      · simp only [if_true]
        exact Ev.now _
    · rw [if_neg h2, decide_eq_false h2]
      exact Ev.now _
  · rw [if_neg (by omega), decide_eq_false h1]
    exact Ev.now _
def tailN (m : Int) (st : Bool) : List Nat := if st = true then [42] else if m > 0 then 58 :: figsN 4 m.toNat else []
theorem ref_put6 (nm : ByteArray) (m : Int) (st : Bool) (hs : nm.size ≤ 1099511627776) (h : (nameFrom .ns (bs nm) && (decide (0 ≤ m) && (decide (m ≤ 9999) && (!st || m == 0)))) = true) :
 ∃ p, Ev (fun k => rf06_Put.f k nm m st) p ∧ bs p = bs nm ++ tailN m st := by
 have hm := ref_may6 nm m st
 rw [h] at hm
 simp only [Bool.and_eq_true, decide_eq_true_eq] at h
 obtain ⟨-, h1, h2, -⟩ := h
 cases st with
 | true =>
  refine ⟨nm ++ ⟨#[42]⟩, ?_, by rw [bs_append]; rfl⟩
  refine hm.bind ?_
  simp only [if_true]
  rw [if_pos (by omega)]
  exact Ev.now _
 | false =>
  by_cases h3 : m > 0
  · obtain ⟨t, ht, g1, g2, g3⟩ := ref_figures 3 m.toNat (by omega) (by omega)
    rw [Int.toNat_of_nonneg h1] at ht
    have e1 : (nm ++ (⟨#[58]⟩ : ByteArray)).size = nm.size + 1 := by rw [ByteArray.size_append]; rfl
    refine ⟨(nm ++ ⟨#[58]⟩) ++ t, ?_, ?_⟩
    · refine hm.bind ?_
      simp only [if_true, Bool.false_eq_true, if_false]
      refine Ev.pos h3 (Ev.pos (by omega) ?_)
      refine ht.bind ?_
      rw [if_pos (by omega)]
      exact Ev.now _
    · rw [bs_append, bs_append, g1, tailN]
      simp only [Bool.false_eq_true, if_false]
      rw [if_pos h3]
      simp [show bs ⟨#[58]⟩ = [58] from rfl]
  · refine ⟨nm, ?_, ?_⟩
    · refine hm.bind ?_
      simp only [if_true, Bool.false_eq_true, if_false]
      exact Ev.neg h3 (Ev.now _)
    · rw [tailN]
      simp only [Bool.false_eq_true, if_false]
      rw [if_neg h3, List.append_nil]
end Go.Proofs.YtkipkbggnfllkaaGreatDoor.P
end
section
namespace Go.Proofs.YtkipkbggnfllkaaGreatDoor.P
open Go.RowKit Go.Proofs.YtkipkbggnfllkaaGreatDoorW.PrintWords Go.Proofs.YtkipkbggnfllkaaGreatDoorW.PrintLast Go.Proofs.YtkipkbggnfllkaaGreatDoorW.PrintMore
attribute [local go_sem] max2_int min2_int max_two min_two max_three min_three max_four min_four
set_option linter.unusedVariables false
set_option linter.unusedSimpArgs false
def rf01_May.f (a0 : Int) : Option (Bool) := if a0 ≥ 0 then (if a0 ≤ 1114111 then (if a0 < 55296 then (some true) else (some (decide (a0 > 57343)))) else (some false)) else (some false)
set_option maxHeartbeats 8000000 in
set_option maxRecDepth 100000 in
theorem rf01_May.calls (a0 : Int) (r : Bool) (w : World) (h : rf01_May.f a0 = some r) :
 Calls Tryz.prog 101 #[.int .i64 a0] w fun e w' => e = .returned (.bool r) ∧ Drawn0 w w' := by
 have H : (if a0 ≥ 0 then (if a0 ≤ 1114111 then (if a0 < 55296 then (some true) else (some (decide (a0 > 57343)))) else (some false)) else (some false)) = some r := h
 clear h
 by_cases c2 : a0 ≥ 0
 · rw [if_pos c2] at H
   have c2b0 : decide (0 ≤ a0) = true := decide_eq_true c2
   clear c2
   by_cases c3 : a0 ≤ 1114111
   · rw [if_pos c3] at H
     have c3b0 : decide (a0 ≤ 1114111) = true := decide_eq_true c3
     clear c3
     by_cases c4 : a0 < 55296
     · rw [if_pos c4] at H
       have c4b0 : decide (a0 < 55296) = true := decide_eq_true c4
       clear c4
       obtain rfl := Option.some.inj H
       go_enter Tryz.func101, Tryz.ntmps101
       go_wp2
       go_ret
       exact ⟨by first | rfl | (simp; done) | (simp [*]; done), by repeat (first | exact Drawn0.refl _ | apply Drawn0.step)⟩
     · rw [if_neg c4] at H
       have c4b0 : decide (a0 < 55296) = false := decide_eq_false c4
       clear c4
       obtain rfl := Option.some.inj H
       go_enter Tryz.func101, Tryz.ntmps101
       go_wp2
       go_ret
       exact ⟨by first | rfl | (simp; done) | (simp [*]; done), by repeat (first | exact Drawn0.refl _ | apply Drawn0.step)⟩
   · rw [if_neg c3] at H
     have c3b0 : decide (a0 ≤ 1114111) = false := decide_eq_false c3
     clear c3
     obtain rfl := Option.some.inj H
     go_enter Tryz.func101, Tryz.ntmps101
     go_wp2
     go_ret
     exact ⟨by first | rfl | (simp; done) | (simp [*]; done), by repeat (first | exact Drawn0.refl _ | apply Drawn0.step)⟩
 · rw [if_neg c2] at H
   have c2b0 : decide (0 ≤ a0) = false := decide_eq_false c2
   clear c2
   obtain rfl := Option.some.inj H
   go_enter Tryz.func101, Tryz.ntmps101
   go_wp2
   go_ret
   exact ⟨by first | rfl | (simp; done) | (simp [*]; done), by repeat (first | exact Drawn0.refl _ | apply Drawn0.step)⟩
def rf01_tail.l0 : Nat → Int → Int → Int → Option (Int)
 | 0, _, _, _ => none
 | k + 1, x0, x1, x5 => if x5 < x1 then (rf01_tail.l0 k (wrap64 (Int.tdiv x0 64)) x1 (wrap64 (x5 + 1))) else (some ((wrap64 (128 + (Int.tmod x0 64))) % 256))
def rf01_tail.f (k : Nat) (a0 : Int) (a1 : Int) : Option (Int) := rf01_tail.l0 k a0 a1 0
set_option maxHeartbeats 8000000 in
set_option maxRecDepth 100000 in
theorem rf01_tail.calls (k : Nat) (a0 : Int) (a1 : Int) (r : Int) (w : World) (h : rf01_tail.f k a0 a1 = some r) :
 Calls Tryz.prog 115 #[.int .i64 a0, .int .i64 a1] w fun e w' => e = .returned (.int .u8 r) ∧ Drawn0 w w' := by
 have H : (rf01_tail.l0 k a0 a1 0) = some r := h
 clear h
 have H' := Aside0.mk H
 clear H
 go_enter Tryz.func115, Tryz.ntmps115
 go_wp2
 go_loopg [0, 5] k (fun kq v0 v5 w' => ∃ (x0_1 : Int) (x5_1 : Int), v0 = .int .i64 x0_1 ∧ v5 = .int .i64 x5_1 ∧ Aside0 (rf01_tail.l0 kq x0_1 a1 x5_1 = some r) ∧ Aside0 (kq ≤ k) ∧ Drawn0 w w')
 case atStart => exact ⟨(a0), (0), (by first | rfl | (simp; done) | (simp [*]; done)), (by first | rfl | (simp; done) | (simp [*]; done)), H', ⟨Nat.le_refl _⟩, by repeat (first | exact Drawn0.refl _ | apply Drawn0.step)⟩
 case round =>
  clear H'
  try clear c1
  try clear p2
  obtain ⟨x0_1, x5_1, rfl, rfl, HA, HK1, ⟨m1, rfl⟩⟩ := hrel
  cases gk with
  | zero => exact absurd HA.out (by simp [rf01_tail.l0])
  | succ k1 =>
   have H := HA.out
   clear HA
   simp only [rf01_tail.l0] at H
   by_cases c3 : x5_1 < a1
   · rw [if_pos c3] at H
     have c3b0 : decide (x5_1 < a1) = true := decide_eq_true c3
     clear c3
     have H' := Aside0.mk H
     clear H
     go_wp2
     go_roundg k1
     case measure => have := HK1.out; omega
     case rel => exact ⟨(wrap64 (Int.tdiv x0_1 64)), (wrap64 (x5_1 + 1)), (by first | rfl | (simp; done) | (simp [*]; done)), (by first | rfl | (simp; done) | (simp [*]; done)), H', ⟨by have := HK1.out; omega⟩, by repeat (first | exact Drawn0.refl _ | apply Drawn0.step)⟩
   · rw [if_neg c3] at H
     have c3b0 : decide (x5_1 < a1) = false := decide_eq_false c3
     clear c3
     obtain rfl := Option.some.inj H
     go_wp2
     go_ret
     exact ⟨by first | rfl | (simp; done) | (simp [*]; done), by repeat (first | exact Drawn0.refl _ | apply Drawn0.step)⟩
def rf01_One.f (k : Nat) (a0 : Int) : Option (ByteArray) := if a0 < 128 then (some (strOfNums (([(a0) % 256] : List Int)))) else (if a0 < 2048 then ((rf01_tail.f k a0 0).bind fun t163 => (some (strOfNums (([(wrap64 (192 + (wrap64 (Int.tdiv a0 64)))) % 256, t163] : List Int))))) else (if a0 < 65536 then ((rf01_tail.f k a0 1).bind fun t167 => ((rf01_tail.f k a0 0).bind fun t168 => (some (strOfNums (([(wrap64 (224 + (wrap64 (Int.tdiv a0 4096)))) % 256, t167, t168] : List Int)))))) else ((rf01_tail.f k a0 2).bind fun t172 => ((rf01_tail.f k a0 1).bind fun t173 => ((rf01_tail.f k a0 0).bind fun t174 => (some (strOfNums (([(wrap64 (240 + (wrap64 (Int.tdiv a0 262144)))) % 256, t172, t173, t174] : List Int)))))))))
set_option maxHeartbeats 8000000 in
set_option maxRecDepth 100000 in
theorem rf01_One.calls (k : Nat) (a0 : Int) (r : ByteArray) (w : World) (h : rf01_One.f k a0 = some r) :
 Calls Tryz.prog 102 #[.int .i64 a0] w fun e w' => e = .returned (.string r) ∧ Below w.heap.size w w' := by
 have HB := Aside0.mk (Below.refl w.heap.size w)
 have H : (if a0 < 128 then (some (strOfNums (([(a0) % 256] : List Int)))) else (if a0 < 2048 then ((rf01_tail.f k a0 0).bind fun t163 => (some (strOfNums (([(wrap64 (192 + (wrap64 (Int.tdiv a0 64)))) % 256, t163] : List Int))))) else (if a0 < 65536 then ((rf01_tail.f k a0 1).bind fun t167 => ((rf01_tail.f k a0 0).bind fun t168 => (some (strOfNums (([(wrap64 (224 + (wrap64 (Int.tdiv a0 4096)))) % 256, t167, t168] : List Int)))))) else ((rf01_tail.f k a0 2).bind fun t172 => ((rf01_tail.f k a0 1).bind fun t173 => ((rf01_tail.f k a0 0).bind fun t174 => (some (strOfNums (([(wrap64 (240 + (wrap64 (Int.tdiv a0 262144)))) % 256, t172, t173, t174] : List Int)))))))))) = some r := h
 clear h
 by_cases c2 : a0 < 128
 · rw [if_pos c2] at H
   have c2b0 : decide (a0 < 128) = true := decide_eq_true c2
   clear c2
   obtain ⟨y160, hy160⟩ : ∃ y_ : List Int, y_ = (([(a0) % 256] : List Int)) := ⟨_, rfl⟩
   replace H : (some (strOfNums y160)) = some r := by first | (rw [hy160]; with_reducible exact H) | (have H2_ := (Option.bind_some _ _).symm.trans H; rw [hy160]; with_reducible exact H2_) | (have H2_ := (Option.bind_some _ _).symm.trans H; with_reducible exact H2_) | with_reducible exact H | (rw [hy160]; exact H) | exact H
   have Ny160 := Aside0.mk hy160
   clear hy160
   obtain rfl := Option.some.inj H
   go_enter Tryz.func102, Tryz.ntmps102
   go_wp2_with (first | ((with_reducible refine gate_dst (N := 7) rfl ?_); refine Kd.R_lit (Kd.int .u8) _ 5 ?hg (N := 7) ?hd (xs := ([(a0) % 256] : List Int)) (inner := [.int .u8 ((a0) % 256)]) (ok := fun _ => True) (okp := fun _ => True) ?hr ?hp (fun _ hk => hk) trivial (Below.refl _ _) (Nat.le_refl _) (by simp) ?_; (case hd => rfl); (case hg => rfl); (case hr => first | (go_simp; done) | (go_simp; rfl)); (case hp => exact (Reps.one (show Kd.M (Kd.int .u8) _ _ _ ((a0) % 256) [.int .u8 ((a0) % 256)] from rfl) (Reps.none _ _))); intro v161 w3 ho4 hb hg_ hnew_; clear hg_ hnew_; (first | rw [← Ny160.out] at ho4 | (simp only [Int.reduceToNat] at ho4; rw [← Ny160.out] at ho4)); have n0_ := Aside0.mk (Kd.R_lower ho4 (below_size (by repeat (first | (with_reducible first | exact HB.out | apply below_alloc | apply pw_below_drewN | apply below_drew1) | exact HB.out)))); have n1_ := Aside0.mk (below_step (by repeat (first | (with_reducible first | exact HB.out | apply below_alloc | apply pw_below_drewN | apply below_drew1) | exact HB.out)) hb); clear HB; have HO162 := n0_; have HB := n1_; clear n0_ n1_; clear hb ho4; have hcv5 := own_string (P := Tryz.prog) Tryz.underlying58 Tryz.underlying5 Tryz.underlying9 (Kd.own_of_R HO162.out)))
   go_ret
   exact ⟨by first | rfl | (simp [errW_none, errW_some] <;> rfl) | (simp [*, errW_none, errW_some] <;> rfl), by repeat (first | (with_reducible first | exact HB.out | apply below_alloc | apply pw_below_drewN | apply below_drew1) | exact HB.out)⟩
 · rw [if_neg c2] at H
   have c2b0 : decide (a0 < 128) = false := decide_eq_false c2
   clear c2
   by_cases c6 : a0 < 2048
   · rw [if_pos c6] at H
     have c6b0 : decide (a0 < 2048) = true := decide_eq_true c6
     clear c6
     replace H := Option.bind_eq_some_iff.mp H
     obtain ⟨t163, A70, H⟩ := H
     replace H : (some (strOfNums (([(wrap64 (192 + (wrap64 (Int.tdiv a0 64)))) % 256, t163] : List Int)))) = some r := H
     have A7 := Aside0.mk A70
     clear A70
     obtain ⟨y164, hy164⟩ : ∃ y_ : List Int, y_ = (([(wrap64 (192 + (wrap64 (Int.tdiv a0 64)))) % 256, t163] : List Int)) := ⟨_, rfl⟩
     replace H : (some (strOfNums y164)) = some r := by first | (rw [hy164]; with_reducible exact H) | (have H2_ := (Option.bind_some _ _).symm.trans H; rw [hy164]; with_reducible exact H2_) | (have H2_ := (Option.bind_some _ _).symm.trans H; with_reducible exact H2_) | with_reducible exact H | (rw [hy164]; exact H) | exact H
     have Ny164 := Aside0.mk hy164
     clear hy164
     obtain rfl := Option.some.inj H
     go_enter Tryz.func102, Tryz.ntmps102
     go_wp2_with (first | ((with_reducible refine gate_callee (f := 115) rfl ?_); refine goesL_ (some 16) rfl rfl Tryz.func115 (by kernel_rfl) rfl #[.int .i64 a0, .int .i64 0] rfl (by (try simp only [List.map_toArray, List.map_cons, List.map_nil]); first | done | rfl | (simp only [List.length_drop, List.length_take]; rfl)) ?_; (with_reducible refine (rf01_tail.calls k a0 0 t163 _ A7.out).mono ?_); rintro e w' ⟨rfl, ⟨nd, rfl⟩⟩; refine ⟨_, rfl, ?_⟩) | ((with_reducible refine gate_dst (N := 17) rfl ?_); refine Kd.R_lit (Kd.int .u8) _ 5 ?hg (N := 17) ?hd (xs := ([(wrap64 (192 + (wrap64 (Int.tdiv a0 64)))) % 256, t163] : List Int)) (inner := [.int .u8 ((wrap64 (192 + (wrap64 (Int.tdiv a0 64)))) % 256), .int .u8 t163]) (ok := fun _ => True) (okp := fun _ => True) ?hr ?hp (fun _ hk => hk) trivial (Below.refl _ _) (Nat.le_refl _) (by simp) ?_; (case hd => rfl); (case hg => rfl); (case hr => first | (go_simp; done) | (go_simp; rfl)); (case hp => exact (Reps.one (show Kd.M (Kd.int .u8) _ _ _ ((wrap64 (192 + (wrap64 (Int.tdiv a0 64)))) % 256) [.int .u8 ((wrap64 (192 + (wrap64 (Int.tdiv a0 64)))) % 256)] from rfl) (Reps.one (show Kd.M (Kd.int .u8) _ _ _ t163 [.int .u8 t163] from rfl) (Reps.none _ _)))); intro v165 w8 ho9 hb hg_ hnew_; clear hg_ hnew_; (first | rw [← Ny164.out] at ho9 | (simp only [Int.reduceToNat] at ho9; rw [← Ny164.out] at ho9)); have n0_ := Aside0.mk (Kd.R_lower ho9 (below_size (by repeat (first | (with_reducible first | exact HB.out | apply below_alloc | apply pw_below_drewN | apply below_drew1) | exact HB.out)))); have n1_ := Aside0.mk (below_step (by repeat (first | (with_reducible first | exact HB.out | apply below_alloc | apply pw_below_drewN | apply below_drew1) | exact HB.out)) hb); clear HB; have HO166 := n0_; have HB := n1_; clear n0_ n1_; clear hb ho9; have hcv10 := own_string (P := Tryz.prog) Tryz.underlying58 Tryz.underlying5 Tryz.underlying9 (Kd.own_of_R HO166.out)))
     go_ret
     exact ⟨by first | rfl | (simp [errW_none, errW_some] <;> rfl) | (simp [*, errW_none, errW_some] <;> rfl), by repeat (first | (with_reducible first | exact HB.out | apply below_alloc | apply pw_below_drewN | apply below_drew1) | exact HB.out)⟩
   · rw [if_neg c6] at H
     have c6b0 : decide (a0 < 2048) = false := decide_eq_false c6
     clear c6
     by_cases c11 : a0 < 65536
     · rw [if_pos c11] at H
       have c11b0 : decide (a0 < 65536) = true := decide_eq_true c11
       clear c11
       replace H := Option.bind_eq_some_iff.mp H
       obtain ⟨t167, A120, H⟩ := H
       replace H : ((rf01_tail.f k a0 0).bind fun t168 => (some (strOfNums (([(wrap64 (224 + (wrap64 (Int.tdiv a0 4096)))) % 256, t167, t168] : List Int))))) = some r := H
       have A12 := Aside0.mk A120
       clear A120
       replace H := Option.bind_eq_some_iff.mp H
       obtain ⟨t168, A130, H⟩ := H
       replace H : (some (strOfNums (([(wrap64 (224 + (wrap64 (Int.tdiv a0 4096)))) % 256, t167, t168] : List Int)))) = some r := H
       have A13 := Aside0.mk A130
       clear A130
       obtain ⟨y169, hy169⟩ : ∃ y_ : List Int, y_ = (([(wrap64 (224 + (wrap64 (Int.tdiv a0 4096)))) % 256, t167, t168] : List Int)) := ⟨_, rfl⟩
       replace H : (some (strOfNums y169)) = some r := by first | (rw [hy169]; with_reducible exact H) | (have H2_ := (Option.bind_some _ _).symm.trans H; rw [hy169]; with_reducible exact H2_) | (have H2_ := (Option.bind_some _ _).symm.trans H; with_reducible exact H2_) | with_reducible exact H | (rw [hy169]; exact H) | exact H
       have Ny169 := Aside0.mk hy169
       clear hy169
       obtain rfl := Option.some.inj H
       go_enter Tryz.func102, Tryz.ntmps102
       go_wp2_with (first | ((with_reducible refine gate_callee (f := 115) rfl ?_); refine goesL_ (some 26) rfl rfl Tryz.func115 (by kernel_rfl) rfl #[.int .i64 a0, .int .i64 1] rfl (by (try simp only [List.map_toArray, List.map_cons, List.map_nil]); first | done | rfl | (simp only [List.length_drop, List.length_take]; rfl)) ?_; (with_reducible refine (rf01_tail.calls k a0 1 t167 _ A12.out).mono ?_); rintro e w' ⟨rfl, ⟨nd, rfl⟩⟩; refine ⟨_, rfl, ?_⟩) | ((with_reducible refine gate_callee (f := 115) rfl ?_); refine goesL_ (some 28) rfl rfl Tryz.func115 (by kernel_rfl) rfl #[.int .i64 a0, .int .i64 0] rfl (by (try simp only [List.map_toArray, List.map_cons, List.map_nil]); first | done | rfl | (simp only [List.length_drop, List.length_take]; rfl)) ?_; (with_reducible refine (rf01_tail.calls k a0 0 t168 _ A13.out).mono ?_); rintro e w' ⟨rfl, ⟨nd, rfl⟩⟩; refine ⟨_, rfl, ?_⟩) | ((with_reducible refine gate_dst (N := 29) rfl ?_); refine Kd.R_lit (Kd.int .u8) _ 5 ?hg (N := 29) ?hd (xs := ([(wrap64 (224 + (wrap64 (Int.tdiv a0 4096)))) % 256, t167, t168] : List Int)) (inner := [.int .u8 ((wrap64 (224 + (wrap64 (Int.tdiv a0 4096)))) % 256), .int .u8 t167, .int .u8 t168]) (ok := fun _ => True) (okp := fun _ => True) ?hr ?hp (fun _ hk => hk) trivial (Below.refl _ _) (Nat.le_refl _) (by simp) ?_; (case hd => rfl); (case hg => rfl); (case hr => first | (go_simp; done) | (go_simp; rfl)); (case hp => exact (Reps.one (show Kd.M (Kd.int .u8) _ _ _ ((wrap64 (224 + (wrap64 (Int.tdiv a0 4096)))) % 256) [.int .u8 ((wrap64 (224 + (wrap64 (Int.tdiv a0 4096)))) % 256)] from rfl) (Reps.one (show Kd.M (Kd.int .u8) _ _ _ t167 [.int .u8 t167] from rfl) (Reps.one (show Kd.M (Kd.int .u8) _ _ _ t168 [.int .u8 t168] from rfl) (Reps.none _ _))))); intro v170 w14 ho15 hb hg_ hnew_; clear hg_ hnew_; (first | rw [← Ny169.out] at ho15 | (simp only [Int.reduceToNat] at ho15; rw [← Ny169.out] at ho15)); have n0_ := Aside0.mk (Kd.R_lower ho15 (below_size (by repeat (first | (with_reducible first | exact HB.out | apply below_alloc | apply pw_below_drewN | apply below_drew1) | exact HB.out)))); have n1_ := Aside0.mk (below_step (by repeat (first | (with_reducible first | exact HB.out | apply below_alloc | apply pw_below_drewN | apply below_drew1) | exact HB.out)) hb); clear HB; have HO171 := n0_; have HB := n1_; clear n0_ n1_; clear hb ho15; have hcv16 := own_string (P := Tryz.prog) Tryz.underlying58 Tryz.underlying5 Tryz.underlying9 (Kd.own_of_R HO171.out)))
       go_ret
       exact ⟨by first | rfl | (simp [errW_none, errW_some] <;> rfl) | (simp [*, errW_none, errW_some] <;> rfl), by repeat (first | (with_reducible first | exact HB.out | apply below_alloc | apply pw_below_drewN | apply below_drew1) | exact HB.out)⟩
     · rw [if_neg c11] at H
       have c11b0 : decide (a0 < 65536) = false := decide_eq_false c11
       clear c11
       replace H := Option.bind_eq_some_iff.mp H
       obtain ⟨t172, A170, H⟩ := H
       replace H : ((rf01_tail.f k a0 1).bind fun t173 => ((rf01_tail.f k a0 0).bind fun t174 => (some (strOfNums (([(wrap64 (240 + (wrap64 (Int.tdiv a0 262144)))) % 256, t172, t173, t174] : List Int)))))) = some r := H
       have A17 := Aside0.mk A170
       clear A170
       replace H := Option.bind_eq_some_iff.mp H
       obtain ⟨t173, A180, H⟩ := H
       replace H : ((rf01_tail.f k a0 0).bind fun t174 => (some (strOfNums (([(wrap64 (240 + (wrap64 (Int.tdiv a0 262144)))) % 256, t172, t173, t174] : List Int))))) = some r := H
       have A18 := Aside0.mk A180
       clear A180
       replace H := Option.bind_eq_some_iff.mp H
       obtain ⟨t174, A190, H⟩ := H
       replace H : (some (strOfNums (([(wrap64 (240 + (wrap64 (Int.tdiv a0 262144)))) % 256, t172, t173, t174] : List Int)))) = some r := H
       have A19 := Aside0.mk A190
       clear A190
       obtain ⟨y175, hy175⟩ : ∃ y_ : List Int, y_ = (([(wrap64 (240 + (wrap64 (Int.tdiv a0 262144)))) % 256, t172, t173, t174] : List Int)) := ⟨_, rfl⟩
       replace H : (some (strOfNums y175)) = some r := by first | (rw [hy175]; with_reducible exact H) | (have H2_ := (Option.bind_some _ _).symm.trans H; rw [hy175]; with_reducible exact H2_) | (have H2_ := (Option.bind_some _ _).symm.trans H; with_reducible exact H2_) | with_reducible exact H | (rw [hy175]; exact H) | exact H
       have Ny175 := Aside0.mk hy175
       clear hy175
       obtain rfl := Option.some.inj H
       go_enter Tryz.func102, Tryz.ntmps102
       go_wp2_with (first | ((with_reducible refine gate_callee (f := 115) rfl ?_); refine goesL_ (some 36) rfl rfl Tryz.func115 (by kernel_rfl) rfl #[.int .i64 a0, .int .i64 2] rfl (by (try simp only [List.map_toArray, List.map_cons, List.map_nil]); first | done | rfl | (simp only [List.length_drop, List.length_take]; rfl)) ?_; (with_reducible refine (rf01_tail.calls k a0 2 t172 _ A17.out).mono ?_); rintro e w' ⟨rfl, ⟨nd, rfl⟩⟩; refine ⟨_, rfl, ?_⟩) | ((with_reducible refine gate_callee (f := 115) rfl ?_); refine goesL_ (some 38) rfl rfl Tryz.func115 (by kernel_rfl) rfl #[.int .i64 a0, .int .i64 1] rfl (by (try simp only [List.map_toArray, List.map_cons, List.map_nil]); first | done | rfl | (simp only [List.length_drop, List.length_take]; rfl)) ?_; (with_reducible refine (rf01_tail.calls k a0 1 t173 _ A18.out).mono ?_); rintro e w' ⟨rfl, ⟨nd, rfl⟩⟩; refine ⟨_, rfl, ?_⟩) | ((with_reducible refine gate_callee (f := 115) rfl ?_); refine goesL_ (some 40) rfl rfl Tryz.func115 (by kernel_rfl) rfl #[.int .i64 a0, .int .i64 0] rfl (by (try simp only [List.map_toArray, List.map_cons, List.map_nil]); first | done | rfl | (simp only [List.length_drop, List.length_take]; rfl)) ?_; (with_reducible refine (rf01_tail.calls k a0 0 t174 _ A19.out).mono ?_); rintro e w' ⟨rfl, ⟨nd, rfl⟩⟩; refine ⟨_, rfl, ?_⟩) | ((with_reducible refine gate_dst (N := 41) rfl ?_); refine Kd.R_lit (Kd.int .u8) _ 5 ?hg (N := 41) ?hd (xs := ([(wrap64 (240 + (wrap64 (Int.tdiv a0 262144)))) % 256, t172, t173, t174] : List Int)) (inner := [.int .u8 ((wrap64 (240 + (wrap64 (Int.tdiv a0 262144)))) % 256), .int .u8 t172, .int .u8 t173, .int .u8 t174]) (ok := fun _ => True) (okp := fun _ => True) ?hr ?hp (fun _ hk => hk) trivial (Below.refl _ _) (Nat.le_refl _) (by simp) ?_; (case hd => rfl); (case hg => rfl); (case hr => first | (go_simp; done) | (go_simp; rfl)); (case hp => exact (Reps.one (show Kd.M (Kd.int .u8) _ _ _ ((wrap64 (240 + (wrap64 (Int.tdiv a0 262144)))) % 256) [.int .u8 ((wrap64 (240 + (wrap64 (Int.tdiv a0 262144)))) % 256)] from rfl) (Reps.one (show Kd.M (Kd.int .u8) _ _ _ t172 [.int .u8 t172] from rfl) (Reps.one (show Kd.M (Kd.int .u8) _ _ _ t173 [.int .u8 t173] from rfl) (Reps.one (show Kd.M (Kd.int .u8) _ _ _ t174 [.int .u8 t174] from rfl) (Reps.none _ _)))))); intro v176 w20 ho21 hb hg_ hnew_; clear hg_ hnew_; (first | rw [← Ny175.out] at ho21 | (simp only [Int.reduceToNat] at ho21; rw [← Ny175.out] at ho21)); have n0_ := Aside0.mk (Kd.R_lower ho21 (below_size (by repeat (first | (with_reducible first | exact HB.out | apply below_alloc | apply pw_below_drewN | apply below_drew1) | exact HB.out)))); have n1_ := Aside0.mk (below_step (by repeat (first | (with_reducible first | exact HB.out | apply below_alloc | apply pw_below_drewN | apply below_drew1) | exact HB.out)) hb); clear HB; have HO177 := n0_; have HB := n1_; clear n0_ n1_; clear hb ho21; have hcv22 := own_string (P := Tryz.prog) Tryz.underlying58 Tryz.underlying5 Tryz.underlying9 (Kd.own_of_R HO177.out)))
       go_ret
       exact ⟨by first | rfl | (simp [errW_none, errW_some] <;> rfl) | (simp [*, errW_none, errW_some] <;> rfl), by repeat (first | (with_reducible first | exact HB.out | apply below_alloc | apply pw_below_drewN | apply below_drew1) | exact HB.out)⟩
mutual
def rf01_First.l0 : Nat → ByteArray → Int → Int → Option (Int × Int)
 | 0, _, _, _ => none
 | k + 1, x0, x4, x5 => if x5 ≤ 4 then (rf01_First.j1 k x0 x4 x5 (decide (x5 ≤ (x0.size : Int)))) else (rf01_First.j1 k x0 x4 x5 false)
def rf01_First.j1 : Nat → ByteArray → Int → Int → Bool → Option (Int × Int)
 | 0, _, _, _, _ => none
 | k + 1, x0, x4, x5, x14 => if x14 = true then (if 0 ≤ (wrap64 (x5 - 1)) then (if (wrap64 (x5 - 1)) < (x0.size : Int) then (if x5 = 1 then (if (wrap64 (bt x0 (wrap64 (x5 - 1)))) ≥ 192 then (rf01_First.j2 k x0 (wrap64 ((wrap64 (bt x0 (wrap64 (x5 - 1)))) - 192)) x5 (wrap64 (bt x0 (wrap64 (x5 - 1))))) else (rf01_First.j2 k x0 (wrap64 (bt x0 (wrap64 (x5 - 1)))) x5 (wrap64 (bt x0 (wrap64 (x5 - 1)))))) else (rf01_First.j3 k x0 (wrap64 ((wrap64 (64 * x4)) + (Int.tmod (wrap64 (bt x0 (wrap64 (x5 - 1)))) 64))) x5)) else (none)) else (none)) else (some (0, 0))
def rf01_First.j3 : Nat → ByteArray → Int → Int → Option (Int × Int)
 | 0, _, _, _ => none
 | k + 1, x0, x4, x5 => (rf01_May.f x4).bind fun t178 => (if t178 = true then ((rf01_One.f k x4).bind fun t179 => (if 0 ≤ x5 then (if x5 ≤ (x0.size : Int) then (if t179.toList = (x0.extract 0 (x5 : Int).toNat).toList then (some (x4, x5)) else (rf01_First.l0 k x0 x4 (wrap64 (x5 + 1)))) else (none)) else (none))) else (rf01_First.l0 k x0 x4 (wrap64 (x5 + 1))))
def rf01_First.j2 : Nat → ByteArray → Int → Int → Int → Option (Int × Int)
 | 0, _, _, _, _ => none
 | k + 1, x0, x4, x5, x6 => if x6 ≥ 224 then (if x6 ≥ 240 then (rf01_First.j3 k x0 (wrap64 (x6 - 240)) x5) else (rf01_First.j3 k x0 (wrap64 (x6 - 224)) x5)) else (if x6 ≥ 240 then (rf01_First.j3 k x0 (wrap64 (x6 - 240)) x5) else (rf01_First.j3 k x0 x4 x5))
end
def rf01_First.f (k : Nat) (a0 : ByteArray) : Option (Int × Int) := rf01_First.l0 k a0 0 1
def rf01_First.T15 : Bool × List (List Nat × List Nat) := (true, [([], []), ([0], [0]), ([1, 1], [1]), ([2], [2]), ([3, 2, 2], [2, 3]), ([2], [2]), ([2], [2]), ([5, 6, 2], [2, 5, 6]), ([4, 7, 2], [2, 4, 7]), ([2, 8], [2, 8])])
def rf01_First.B15 : List Nat := [0, 1, 3, 7, 15, 7, 7, 103, 255, 511]
theorem rf01_First.tab15 : rtab .any (opsOf Tryz.f84 15) = rf01_First.T15 := by kernel_rfl
theorem rf01_First.bits15 : waitsOk rf01_First.T15.2 rf01_First.B15 = true := by kernel_rfl
set_option maxHeartbeats 8000000 in
set_option maxRecDepth 100000 in
theorem rf01_First.calls (k : Nat) (a0 : ByteArray) (r1 : Int) (r2 : Int) (w : World) (h : rf01_First.f k a0 = some (r1, r2)) :
 Calls Tryz.prog 84 #[.string a0] w fun e w' => e = .returned (.tuple #[.int .i64 r1, .int .i64 r2]) ∧ Below w.heap.size w w' := by
 have HB := Aside0.mk (Below.refl w.heap.size w)
 have H : (rf01_First.l0 k a0 0 1) = some (r1, r2) := h
 clear h
 have H' := Aside0.mk H
 clear H
 go_enter Tryz.func84, Tryz.ntmps84
 go_wp2
 go_loopg [4, 5] k (fun kq v4 v5 w' => ∃ (x4_1 : Int) (x5_1 : Int), v4 = .int .i64 x4_1 ∧ v5 = .int .i64 x5_1 ∧ Aside0 (rf01_First.l0 kq a0 x4_1 x5_1 = some (r1, r2)) ∧ Aside0 (kq ≤ k) ∧ Aside0 (Below w.heap.size w w'))
 case atStart => exact ⟨(0), (1), (by first | rfl | (simp; done) | (simp [*]; done)), (by first | rfl | (simp; done) | (simp [*]; done)), H', ⟨Nat.le_refl _⟩, ⟨by repeat (first | (with_reducible first | exact HB.out | apply below_alloc | apply pw_below_drewN | apply below_drew1) | exact HB.out)⟩⟩
 case round =>
  clear H'
  obtain ⟨x4_1, x5_1, rfl, rfl, HA, HK1, HB⟩ := hrel
  cases gk with
  | zero => exact absurd HA.out (by simp [rf01_First.l0])
  | succ k1 =>
   have H := HA.out
   clear HA
   simp only [rf01_First.l0] at H
   have HC2 := Aside0.mk H
   clear H
   go_upto_region 3 with (fail)
   go_cut [14] (fun v14 wc => ∃ (kq : Nat) (x14_1 : Bool), v14 = .bool x14_1 ∧ Aside0 (rf01_First.j1 kq a0 x4_1 x5_1 x14_1 = some (r1, r2)) ∧ Aside0 (kq ≤ k1) ∧ Aside0 (Below w.heap.size w wc))
   case first =>
    have H := HC2.out
    clear HC2
    by_cases c3 : x5_1 ≤ 4
    · rw [if_pos c3] at H
      have c3b0 : decide (x5_1 ≤ 4) = true := decide_eq_true c3
      clear c3
      (first | rw [c3b0] | (simp only [i64_w, i32_w]; rw [c3b0]) | skip)
      have H' := Aside0.mk H
      clear H
      go_wp2
      go_meet
      case rel => exact ⟨_, (decide (x5_1 ≤ (a0.size : Int))), (by first | rfl | (simp; done) | (simp [*]; done)), H', ⟨by have := HK1.out; first | omega | exact Nat.le_refl _⟩, ⟨by repeat (first | (with_reducible first | exact HB.out | apply below_alloc | apply pw_below_drewN | apply below_drew1) | exact HB.out)⟩⟩
    · rw [if_neg c3] at H
      have c3b0 : decide (x5_1 ≤ 4) = false := decide_eq_false c3
      clear c3
      (first | rw [c3b0] | (simp only [i64_w, i32_w]; rw [c3b0]) | skip)
      have H' := Aside0.mk H
      clear H
      go_wp2
      go_meet
      case rel => exact ⟨_, (false), (by first | rfl | (simp; done) | (simp [*]; done)), H', ⟨by have := HK1.out; first | omega | exact Nat.le_refl _⟩, ⟨by repeat (first | (with_reducible first | exact HB.out | apply below_alloc | apply pw_below_drewN | apply below_drew1) | exact HB.out)⟩⟩
   case rest =>
    clear HC2
    try clear p2
    try clear c3
    try clear c3b0
    obtain ⟨kq, x14_1, rfl, HA, HJ1, HB⟩ := hcut
    cases kq with
    | zero => exact absurd HA.out (by simp [rf01_First.j1])
    | succ kj1 =>
     have H := HA.out
     clear HA
     simp only [rf01_First.j1] at H
     by_cases c4 : x14_1 = true
     · subst c4
       have H1 : (if 0 ≤ (wrap64 (x5_1 - 1)) then (if (wrap64 (x5_1 - 1)) < (a0.size : Int) then (if x5_1 = 1 then (if (wrap64 (bt a0 (wrap64 (x5_1 - 1)))) ≥ 192 then (rf01_First.j2 kj1 a0 (wrap64 ((wrap64 (bt a0 (wrap64 (x5_1 - 1)))) - 192)) x5_1 (wrap64 (bt a0 (wrap64 (x5_1 - 1))))) else (rf01_First.j2 kj1 a0 (wrap64 (bt a0 (wrap64 (x5_1 - 1)))) x5_1 (wrap64 (bt a0 (wrap64 (x5_1 - 1)))))) else (rf01_First.j3 kj1 a0 (wrap64 ((wrap64 (64 * x4_1)) + (Int.tmod (wrap64 (bt a0 (wrap64 (x5_1 - 1)))) 64))) x5_1)) else (none)) else (none)) = some (r1, r2) := by rw [if_pos rfl] at H; exact H
       clear H
       have H := H1
       clear H1
       obtain ⟨ji5, hji5⟩ : ∃ j_ : Int, (wrap64 (x5_1 - 1)) = j_ := ⟨_, rfl⟩
       replace H : (if 0 ≤ (ji5) then (if (ji5) < (a0.size : Int) then (if x5_1 = 1 then (if (wrap64 (bt a0 (ji5))) ≥ 192 then (rf01_First.j2 kj1 a0 (wrap64 ((wrap64 (bt a0 (ji5))) - 192)) x5_1 (wrap64 (bt a0 (ji5)))) else (rf01_First.j2 kj1 a0 (wrap64 (bt a0 (ji5))) x5_1 (wrap64 (bt a0 (ji5))))) else (rf01_First.j3 kj1 a0 (wrap64 ((wrap64 (64 * x4_1)) + (Int.tmod (wrap64 (bt a0 (ji5))) 64))) x5_1)) else (none)) else (none)) = some (r1, r2) := by first | (rw [hji5] at H; exact H) | (simp only [hji5] at H ⊢; exact H)
       have hji5w : (IntKind.i64.wrap (x5_1 - 1)) = ji5 := (i64_w _).trans hji5
       by_cases c6 : 0 ≤ (ji5)
       · rw [if_pos c6] at H
         have c6b0 : decide (0 ≤ (ji5)) = true := decide_eq_true c6
         clear c6
         by_cases c7 : (ji5) < (a0.size : Int)
         · rw [if_pos c7] at H
           have c7b0 : decide ((ji5) < (a0.size : Int)) = true := decide_eq_true c7
           clear c7
           have HC9 := Aside0.mk H
           clear H
           have p8 : 0 ≤ ((ji5) : Int) := of_decide_eq_true (by first | (with_reducible assumption) | assumption)
           have q8 : (ji5) < (a0.size : Int) := of_decide_eq_true (by first | (with_reducible assumption) | assumption)
           have hx8 := bt_at a0 (ji5)
           replace p8 := eq_true p8
           replace q8 := eq_true q8
           go_upto_if 23 with (fail)
           go_cut [4] (fun v4 wc => ∃ (kq : Nat) (x4_8 : Int), v4 = .int .i64 x4_8 ∧ Aside0 (rf01_First.j3 kq a0 x4_8 x5_1 = some (r1, r2)) ∧ Aside0 (kq ≤ kj1) ∧ Aside0 (Below w.heap.size w wc))
           case first =>
            have H := HC9.out
            clear HC9
            by_cases c10 : x5_1 = 1
            · rw [if_pos c10] at H
              have c10b0 : (x5_1 == 1) = true := beq_iff_eq.mpr c10
              have c10b1 : (x5_1 != 1) = false := bne_eq_false_iff_eq.mpr c10
              clear c10
              (first | rw [c10b0] | (simp only [i64_w, i32_w]; rw [c10b0]) | skip)
              have HC11 := Aside0.mk H
              clear H
              go_upto_if 26 with (fail)
              go_cut [4] (fun v4 wc => ∃ (kq : Nat) (x4_10 : Int), v4 = .int .i64 x4_10 ∧ Aside0 (rf01_First.j2 kq a0 x4_10 x5_1 (wrap64 (bt a0 (ji5))) = some (r1, r2)) ∧ Aside0 (kq ≤ kj1) ∧ Aside0 (Below w.heap.size w wc))
              case first =>
               have H := HC11.out
               clear HC11
               by_cases c12 : (wrap64 (bt a0 (ji5))) ≥ 192
               · rw [if_pos c12] at H
                 have c12b0 : decide (192 ≤ (wrap64 (bt a0 (ji5)))) = true := decide_eq_true c12
                 clear c12
                 (first | rw [c12b0] | (simp only [i64_w, i32_w]; rw [c12b0]) | skip)
                 have H' := Aside0.mk H
                 clear H
                 go_wp2
                 go_meet
                 case rel => exact ⟨_, (wrap64 ((wrap64 (bt a0 (ji5))) - 192)), (by first | rfl | (simp; done) | (simp only [← hji5] <;> (first | rfl | simp)) | (simp [*]; done)), H', ⟨by have := HK1.out; have := HJ1.out; first | omega | exact Nat.le_refl _⟩, ⟨by repeat (first | (with_reducible first | exact HB.out | apply below_alloc | apply pw_below_drewN | apply below_drew1) | exact HB.out)⟩⟩
               · rw [if_neg c12] at H
                 have c12b0 : decide (192 ≤ (wrap64 (bt a0 (ji5)))) = false := decide_eq_false c12
                 clear c12
                 (first | rw [c12b0] | (simp only [i64_w, i32_w]; rw [c12b0]) | skip)
                 have H' := Aside0.mk H
                 clear H
                 go_wp2
                 go_meet
                 case rel => exact ⟨_, (wrap64 (bt a0 (ji5))), (by first | rfl | (simp; done) | (simp only [← hji5] <;> (first | rfl | simp)) | (simp [*]; done)), H', ⟨by have := HK1.out; have := HJ1.out; first | omega | exact Nat.le_refl _⟩, ⟨by repeat (first | (with_reducible first | exact HB.out | apply below_alloc | apply pw_below_drewN | apply below_drew1) | exact HB.out)⟩⟩
              case rest =>
               clear HC11
               try clear c1
               try clear p2
               try clear c3
               try clear c3b0
               try clear c4
               try clear c6
               try clear c6b0
               try clear p6
               try clear c7
               try clear c7b0
               try clear c8
               try clear p8
               try clear q8
               try clear hx8
               try clear c10
               try clear c10b0
               try clear c10b1
               try clear c12
               try clear c12b0
               try clear p2
               try clear p8
               try clear q8
               obtain ⟨kq, x4_10, rfl, HA, HJ10, HB⟩ := hcut
               cases kq with
               | zero => exact absurd HA.out (by simp [rf01_First.j2])
               | succ kj10 =>
                have H := HA.out
                clear HA
                simp only [rf01_First.j2] at H
                by_cases c13 : (wrap64 (bt a0 (ji5))) ≥ 224
                · rw [if_pos c13] at H
                  have c13b0 : decide (224 ≤ (wrap64 (bt a0 (ji5)))) = true := decide_eq_true c13
                  clear c13
                  by_cases c14 : (wrap64 (bt a0 (ji5))) ≥ 240
                  · rw [if_pos c14] at H
                    have c14b0 : decide (240 ≤ (wrap64 (bt a0 (ji5)))) = true := decide_eq_true c14
                    clear c14
                    have H' := Aside0.mk H
                    clear H
                    go_wp2
                    go_meet
                    case rel => exact ⟨_, (wrap64 ((wrap64 (bt a0 (ji5))) - 240)), (by first | rfl | (simp; done) | (simp only [← hji5] <;> (first | rfl | simp)) | (simp [*]; done)), H', ⟨by have := HK1.out; have := HJ1.out; have := HJ10.out; first | omega | exact Nat.le_refl _⟩, ⟨by repeat (first | (with_reducible first | exact HB.out | apply below_alloc | apply pw_below_drewN | apply below_drew1) | exact HB.out)⟩⟩
                  · rw [if_neg c14] at H
                    have c14b0 : decide (240 ≤ (wrap64 (bt a0 (ji5)))) = false := decide_eq_false c14
                    clear c14
                    have H' := Aside0.mk H
                    clear H
                    go_wp2
                    go_meet
                    case rel => exact ⟨_, (wrap64 ((wrap64 (bt a0 (ji5))) - 224)), (by first | rfl | (simp; done) | (simp only [← hji5] <;> (first | rfl | simp)) | (simp [*]; done)), H', ⟨by have := HK1.out; have := HJ1.out; have := HJ10.out; first | omega | exact Nat.le_refl _⟩, ⟨by repeat (first | (with_reducible first | exact HB.out | apply below_alloc | apply pw_below_drewN | apply below_drew1) | exact HB.out)⟩⟩
                · rw [if_neg c13] at H
                  have c13b0 : decide (224 ≤ (wrap64 (bt a0 (ji5)))) = false := decide_eq_false c13
                  clear c13
                  by_cases c15 : (wrap64 (bt a0 (ji5))) ≥ 240
                  · rw [if_pos c15] at H
                    have c15b0 : decide (240 ≤ (wrap64 (bt a0 (ji5)))) = true := decide_eq_true c15
                    clear c15
                    have H' := Aside0.mk H
                    clear H
                    go_wp2
                    go_meet
                    case rel => exact ⟨_, (wrap64 ((wrap64 (bt a0 (ji5))) - 240)), (by first | rfl | (simp; done) | (simp only [← hji5] <;> (first | rfl | simp)) | (simp [*]; done)), H', ⟨by have := HK1.out; have := HJ1.out; have := HJ10.out; first | omega | exact Nat.le_refl _⟩, ⟨by repeat (first | (with_reducible first | exact HB.out | apply below_alloc | apply pw_below_drewN | apply below_drew1) | exact HB.out)⟩⟩
                  · rw [if_neg c15] at H
                    have c15b0 : decide (240 ≤ (wrap64 (bt a0 (ji5)))) = false := decide_eq_false c15
                    clear c15
                    have H' := Aside0.mk H
                    clear H
                    go_wp2
                    go_meet
                    case rel => exact ⟨_, (x4_10), (by first | rfl | (simp; done) | (simp [*]; done)), H', ⟨by have := HK1.out; have := HJ1.out; have := HJ10.out; first | omega | exact Nat.le_refl _⟩, ⟨by repeat (first | (with_reducible first | exact HB.out | apply below_alloc | apply pw_below_drewN | apply below_drew1) | exact HB.out)⟩⟩
            · rw [if_neg c10] at H
              have c10b0 : (x5_1 == 1) = false := beq_eq_false_iff_ne.mpr c10
              have c10b1 : (x5_1 != 1) = true := bne_iff_ne.mpr c10
              (first | rw [c10b0] | (simp only [i64_w, i32_w]; rw [c10b0]) | skip)
              have H' := Aside0.mk H
              clear H
              go_wp2
              go_meet
              case rel => exact ⟨_, (wrap64 ((wrap64 (64 * x4_1)) + (Int.tmod (wrap64 (bt a0 (ji5))) 64))), (by first | rfl | (simp; done) | (simp only [← hji5] <;> (first | rfl | simp)) | (simp [*]; done)), H', ⟨by have := HK1.out; have := HJ1.out; first | omega | exact Nat.le_refl _⟩, ⟨by repeat (first | (with_reducible first | exact HB.out | apply below_alloc | apply pw_below_drewN | apply below_drew1) | exact HB.out)⟩⟩
           case rest =>
            clear HC9
            try clear c1
            try clear p2
            try clear c3
            try clear c3b0
            try clear c4
            try clear c6
            try clear c6b0
            try clear p6
            try clear c7
            try clear c7b0
            try clear c8
            try clear p8
            try clear q8
            try clear hx8
            try clear c10
            try clear c10b0
            try clear c10b1
            try clear c12
            try clear c12b0
            try clear c13
            try clear c13b0
            try clear c14
            try clear c14b0
            try clear c15
            try clear c15b0
            try clear p2
            try clear p6
            try clear p8
            try clear q8
            obtain ⟨kq, x4_8, rfl, HA, HJ8, HB⟩ := hcut
            cases kq with
            | zero => exact absurd HA.out (by simp [rf01_First.j3])
            | succ kj8 =>
             have H := HA.out
             clear HA
             simp only [rf01_First.j3] at H
             replace H := Option.bind_eq_some_iff.mp H
             obtain ⟨t178, A160, H⟩ := H
             replace H : (if t178 = true then ((rf01_One.f kj8 x4_8).bind fun t179 => (if 0 ≤ x5_1 then (if x5_1 ≤ (a0.size : Int) then (if t179.toList = (a0.extract 0 (x5_1 : Int).toNat).toList then (some (x4_8, x5_1)) else (rf01_First.l0 kj8 a0 x4_8 (wrap64 (x5_1 + 1)))) else (none)) else (none))) else (rf01_First.l0 kj8 a0 x4_8 (wrap64 (x5_1 + 1)))) = some (r1, r2) := H
             have A16 := Aside0.mk A160
             clear A160
             by_cases c17 : t178 = true
             · subst c17
               have H1 : ((rf01_One.f kj8 x4_8).bind fun t179 => (if 0 ≤ x5_1 then (if x5_1 ≤ (a0.size : Int) then (if t179.toList = (a0.extract 0 (x5_1 : Int).toNat).toList then (some (x4_8, x5_1)) else (rf01_First.l0 kj8 a0 x4_8 (wrap64 (x5_1 + 1)))) else (none)) else (none))) = some (r1, r2) := by rw [if_pos rfl] at H; exact H
               clear H
               have H := H1
               clear H1
               replace H := Option.bind_eq_some_iff.mp H
               obtain ⟨t179, A180, H⟩ := H
               replace H : (if 0 ≤ x5_1 then (if x5_1 ≤ (a0.size : Int) then (if t179.toList = (a0.extract 0 (x5_1 : Int).toNat).toList then (some (x4_8, x5_1)) else (rf01_First.l0 kj8 a0 x4_8 (wrap64 (x5_1 + 1)))) else (none)) else (none)) = some (r1, r2) := H
               have A18 := Aside0.mk A180
               clear A180
               by_cases c19 : 0 ≤ x5_1
               · rw [if_pos c19] at H
                 have c19b0 := eq_true c19
                 have c19b1 : decide (0 ≤ x5_1) = true := decide_eq_true c19
                 clear c19
                 by_cases c20 : x5_1 ≤ (a0.size : Int)
                 · rw [if_pos c20] at H
                   have c20b0 := eq_true c20
                   have c20b1 : decide (x5_1 ≤ (a0.size : Int)) = true := decide_eq_true c20
                   clear c20
                   by_cases c21 : t179.toList = (a0.extract 0 (x5_1 : Int).toNat).toList
                   · rw [if_pos c21] at H
                     have c21b0 : (t179.toList == (a0.extract 0 (x5_1 : Int).toNat).toList) = true := beq_iff_eq.mpr c21
                     have c21b1 : (t179.toList != (a0.extract 0 (x5_1 : Int).toNat).toList) = false := bne_eq_false_iff_eq.mpr c21
                     clear c21
                     simp only [Option.some.injEq, Prod.mk.injEq] at H
                     obtain ⟨rfl, rfl⟩ := H
                     try go_wp2
                     have n0_ := Aside0.mk (below_drew1 HB.out)
                     clear HB
                     have HB := n0_
                     clear n0_
                     refine start_ (n := 10) (S := fun w' => True) (ds := []) #[false, false, false, false, false, false, false, false, false, false] (by kernel_rfl) rfl rfl trivial (fun hHeld => ?_); refine with_tabW rf01_First.tab15 rf01_First.bits15 (fun HT_ HW_ => ?_)
                     generalize wc.drew = w22 at HB hHeld ⊢
                     refine pure_ (i := 0) (N := some 42) (v := ?_) (a' := ?_) #[true, false, false, false, false, false, false, false, false, false] rfl rfl (any_of HT_.out (by kernel_rfl)) (fun _ _ _ h => h) (Or.inl ⟨by rfl, ?_⟩) ?_ ?_
                     rotate_left
                     · intro w'
                       go_simp
                       with_reducible rfl
                     rotate_left
                     · simp only [Act.put, List.setIfInBounds_toArray, List.set_cons_zero, List.set_cons_succ, i64_w, i32_w]
                       rfl
                     refine one_ (i := 1) (N := some 43) #[true, true, false, false, false, false, false, false, false, false] rfl rfl (one_of HT_.out (by kernel_rfl)) (by decide) (fun K hK => ?_)
                     refine goes_ Tryz.func101 (by kernel_rfl) rfl #[.int .i64 x4_8] (by rfl) rfl rfl (by (try simp only [List.map_toArray, List.map_cons, List.map_nil]); first | done | rfl | (simp only [List.length_drop, List.length_take]; rfl)) ?_
                     with_reducible refine (rf01_May.calls x4_8 true _ A16.out).mono ?_
                     rintro e w' ⟨rfl, ⟨nd, rfl⟩⟩
                     refine ⟨_, rfl, ?_⟩
                     refine hK.out _ _ trivial (fun hHeld => ?_)
                     clear hK K
                     refine norm_ (a' := ?_) ?_ ?_
                     rotate_left
                     · show Act.put _ (some 43) _ = _
                       simp only [Act.put, List.setIfInBounds_toArray, List.set_cons_zero, List.set_cons_succ, i64_w, i32_w]
                       rfl
                     refine pure_ (i := 2) (N := some 44) (v := ?_) (a' := ?_) #[true, true, true, false, false, false, false, false, false, false] rfl rfl (any_of HT_.out (by kernel_rfl)) (fun _ _ _ h => h) (Or.inl ⟨by rfl, ?_⟩) ?_ ?_
                     rotate_left
                     · intro w'
                       go_simp
                       with_reducible rfl
                     rotate_left
                     · simp only [Act.put, List.setIfInBounds_toArray, List.set_cons_zero, List.set_cons_succ, i64_w, i32_w]
                       rfl
                     refine pure_ (i := 3) (N := some 45) (v := ?_) (a' := ?_) #[true, true, true, true, false, false, false, false, false, false] rfl rfl (any_of HT_.out (by kernel_rfl)) (fun _ _ _ h => h) (Or.inl ⟨by rfl, ?_⟩) ?_ ?_
                     rotate_left
                     · intro w'
                       go_simp
                       with_reducible rfl
                     rotate_left
                     · simp only [Act.put, List.setIfInBounds_toArray, List.set_cons_zero, List.set_cons_succ, i64_w, i32_w]
                       rfl
                     refine pure_ (i := 5) (N := some 47) (v := ?_) (a' := ?_) #[true, true, true, true, false, true, false, false, false, false] rfl rfl (any_of HT_.out (by kernel_rfl)) (fun _ _ _ h => h) (Or.inl ⟨by rfl, ?_⟩) ?_ ?_
                     rotate_left
                     · intro w'
                       go_simp
                       with_reducible rfl
                     rotate_left
                     · simp only [Act.put, List.setIfInBounds_toArray, List.set_cons_zero, List.set_cons_succ, i64_w, i32_w]
                       rfl
                     refine pure_ (i := 6) (N := some 48) (v := ?_) (a' := ?_) #[true, true, true, true, false, true, true, false, false, false] rfl rfl (any_of HT_.out (by kernel_rfl)) (fun _ _ _ h => h) (Or.inl ⟨by rfl, ?_⟩) ?_ ?_
                     rotate_left
                     · intro w'
                       go_simp
                       with_reducible rfl
                     rotate_left
                     · simp only [Act.put, List.setIfInBounds_toArray, List.set_cons_zero, List.set_cons_succ, i64_w, i32_w]
                       rfl
                     refine pure_ (i := 7) (N := some 49) (v := ?_) (a' := ?_) #[true, true, true, true, false, true, true, true, false, false] rfl rfl (any_of HT_.out (by kernel_rfl)) (fun _ _ _ h => h) (Or.inl ⟨by rfl, ?_⟩) ?_ ?_
                     rotate_left
                     · intro w'
                       go_simp
                       with_reducible rfl
                     rotate_left
                     · simp only [Act.put, List.setIfInBounds_toArray, List.set_cons_zero, List.set_cons_succ, i64_w, i32_w]
                       rfl
                     refine one_ (i := 4) (N := some 46) #[true, true, true, true, true, true, true, true, false, false] rfl rfl (one_of HT_.out (by kernel_rfl)) (by decide) (fun K hK => ?_)
                     refine goes_ Tryz.func102 (by kernel_rfl) rfl #[.int .i64 x4_8] (by rfl) rfl rfl (by (try simp only [List.map_toArray, List.map_cons, List.map_nil]); first | done | rfl | (simp only [List.length_drop, List.length_take]; rfl)) ?_
                     with_reducible refine (rf01_One.calls kj8 x4_8 t179 _ A18.out).mono ?_
                     rintro e w23 ⟨rfl, hb⟩
                     refine ⟨_, rfl, ?_⟩
                     have n0_ := Aside0.mk (below_step (by repeat (first | (with_reducible first | exact HB.out | apply below_alloc | apply pw_below_drewN | apply below_drew1) | exact HB.out)) hb)
                     clear HB
                     have HB := n0_
                     clear n0_
                     (try clear hb)
                     (try clear hb2)
                     (try clear hk)
                     (try clear hi)
                     refine hK.out _ _ trivial (fun hHeld => ?_)
                     clear hK K
                     refine norm_ (a' := ?_) ?_ ?_
                     rotate_left
                     · show Act.put _ (some 46) _ = _
                       simp only [Act.put, List.setIfInBounds_toArray, List.set_cons_zero, List.set_cons_succ, i64_w, i32_w]
                       rfl
                     refine pure_ (i := 8) (N := some 50) (v := ?_) (a' := ?_) #[true, true, true, true, true, true, true, true, true, false] rfl rfl (any_of HT_.out (by kernel_rfl)) (fun _ _ _ h => h) (Or.inl ⟨by rfl, ?_⟩) ?_ ?_
                     rotate_left
                     · intro w'
                       go_simp
                       with_reducible rfl
                     rotate_left
                     · simp only [Act.put, List.setIfInBounds_toArray, List.set_cons_zero, List.set_cons_succ, i64_w, i32_w]
                       rfl
                     refine pure_ (i := 9) (N := some 51) (v := ?_) (a' := ?_) #[true, true, true, true, true, true, true, true, true, true] rfl rfl (any_of HT_.out (by kernel_rfl)) (fun _ _ _ h => h) (Or.inl ⟨by rfl, ?_⟩) ?_ ?_
                     rotate_left
                     · intro w'
                       go_simp
                       with_reducible rfl
                     rotate_left
                     · simp only [Act.put, List.setIfInBounds_toArray, List.set_cons_zero, List.set_cons_succ, i64_w, i32_w]
                       rfl
                     refine done_ (done_of HT_.out (by kernel_rfl)) ?_
                     try go_wp2
                     go_ret2
                     exact ⟨by first | rfl | (simp [errW_none, errW_some] <;> rfl) | (simp only [← hji5]; first | rfl | (simp [errW_none, errW_some] <;> rfl)) | (simp [*, errW_none, errW_some] <;> rfl), by repeat (first | (with_reducible first | exact HB.out | apply below_alloc | apply pw_below_drewN | apply below_drew1) | exact HB.out)⟩
                   · rw [if_neg c21] at H
                     have c21b0 : (t179.toList == (a0.extract 0 (x5_1 : Int).toNat).toList) = false := beq_eq_false_iff_ne.mpr c21
                     have c21b1 : (t179.toList != (a0.extract 0 (x5_1 : Int).toNat).toList) = true := bne_iff_ne.mpr c21
                     have H' := Aside0.mk H
                     clear H
                     try go_wp2
                     have n0_ := Aside0.mk (below_drew1 HB.out)
                     clear HB
                     have HB := n0_
                     clear n0_
                     refine start_ (n := 10) (S := fun w' => True) (ds := []) #[false, false, false, false, false, false, false, false, false, false] (by kernel_rfl) rfl rfl trivial (fun hHeld => ?_); refine with_tabW rf01_First.tab15 rf01_First.bits15 (fun HT_ HW_ => ?_)
                     generalize wc.drew = w24 at HB hHeld ⊢
                     refine pure_ (i := 0) (N := some 42) (v := ?_) (a' := ?_) #[true, false, false, false, false, false, false, false, false, false] rfl rfl (any_of HT_.out (by kernel_rfl)) (fun _ _ _ h => h) (Or.inl ⟨by rfl, ?_⟩) ?_ ?_
                     rotate_left
                     · intro w'
                       go_simp
                       with_reducible rfl
                     rotate_left
                     · simp only [Act.put, List.setIfInBounds_toArray, List.set_cons_zero, List.set_cons_succ, i64_w, i32_w]
                       rfl
                     refine one_ (i := 1) (N := some 43) #[true, true, false, false, false, false, false, false, false, false] rfl rfl (one_of HT_.out (by kernel_rfl)) (by decide) (fun K hK => ?_)
                     refine goes_ Tryz.func101 (by kernel_rfl) rfl #[.int .i64 x4_8] (by rfl) rfl rfl (by (try simp only [List.map_toArray, List.map_cons, List.map_nil]); first | done | rfl | (simp only [List.length_drop, List.length_take]; rfl)) ?_
                     with_reducible refine (rf01_May.calls x4_8 true _ A16.out).mono ?_
                     rintro e w' ⟨rfl, ⟨nd, rfl⟩⟩
                     refine ⟨_, rfl, ?_⟩
                     refine hK.out _ _ trivial (fun hHeld => ?_)
                     clear hK K
                     refine norm_ (a' := ?_) ?_ ?_
                     rotate_left
                     · show Act.put _ (some 43) _ = _
                       simp only [Act.put, List.setIfInBounds_toArray, List.set_cons_zero, List.set_cons_succ, i64_w, i32_w]
                       rfl
                     refine pure_ (i := 2) (N := some 44) (v := ?_) (a' := ?_) #[true, true, true, false, false, false, false, false, false, false] rfl rfl (any_of HT_.out (by kernel_rfl)) (fun _ _ _ h => h) (Or.inl ⟨by rfl, ?_⟩) ?_ ?_
                     rotate_left
                     · intro w'
                       go_simp
                       with_reducible rfl
                     rotate_left
                     · simp only [Act.put, List.setIfInBounds_toArray, List.set_cons_zero, List.set_cons_succ, i64_w, i32_w]
                       rfl
                     refine pure_ (i := 3) (N := some 45) (v := ?_) (a' := ?_) #[true, true, true, true, false, false, false, false, false, false] rfl rfl (any_of HT_.out (by kernel_rfl)) (fun _ _ _ h => h) (Or.inl ⟨by rfl, ?_⟩) ?_ ?_
                     rotate_left
                     · intro w'
                       go_simp
                       with_reducible rfl
                     rotate_left
                     · simp only [Act.put, List.setIfInBounds_toArray, List.set_cons_zero, List.set_cons_succ, i64_w, i32_w]
                       rfl
                     refine pure_ (i := 5) (N := some 47) (v := ?_) (a' := ?_) #[true, true, true, true, false, true, false, false, false, false] rfl rfl (any_of HT_.out (by kernel_rfl)) (fun _ _ _ h => h) (Or.inl ⟨by rfl, ?_⟩) ?_ ?_
                     rotate_left
                     · intro w'
                       go_simp
                       with_reducible rfl
                     rotate_left
                     · simp only [Act.put, List.setIfInBounds_toArray, List.set_cons_zero, List.set_cons_succ, i64_w, i32_w]
                       rfl
                     refine pure_ (i := 6) (N := some 48) (v := ?_) (a' := ?_) #[true, true, true, true, false, true, true, false, false, false] rfl rfl (any_of HT_.out (by kernel_rfl)) (fun _ _ _ h => h) (Or.inl ⟨by rfl, ?_⟩) ?_ ?_
                     rotate_left
                     · intro w'
                       go_simp
                       with_reducible rfl
                     rotate_left
                     · simp only [Act.put, List.setIfInBounds_toArray, List.set_cons_zero, List.set_cons_succ, i64_w, i32_w]
                       rfl
                     refine pure_ (i := 7) (N := some 49) (v := ?_) (a' := ?_) #[true, true, true, true, false, true, true, true, false, false] rfl rfl (any_of HT_.out (by kernel_rfl)) (fun _ _ _ h => h) (Or.inl ⟨by rfl, ?_⟩) ?_ ?_
                     rotate_left
                     · intro w'
                       go_simp
                       with_reducible rfl
                     rotate_left
                     · simp only [Act.put, List.setIfInBounds_toArray, List.set_cons_zero, List.set_cons_succ, i64_w, i32_w]
                       rfl
                     refine one_ (i := 4) (N := some 46) #[true, true, true, true, true, true, true, true, false, false] rfl rfl (one_of HT_.out (by kernel_rfl)) (by decide) (fun K hK => ?_)
                     refine goes_ Tryz.func102 (by kernel_rfl) rfl #[.int .i64 x4_8] (by rfl) rfl rfl (by (try simp only [List.map_toArray, List.map_cons, List.map_nil]); first | done | rfl | (simp only [List.length_drop, List.length_take]; rfl)) ?_
                     with_reducible refine (rf01_One.calls kj8 x4_8 t179 _ A18.out).mono ?_
                     rintro e w25 ⟨rfl, hb⟩
                     refine ⟨_, rfl, ?_⟩
                     have n0_ := Aside0.mk (below_step (by repeat (first | (with_reducible first | exact HB.out | apply below_alloc | apply pw_below_drewN | apply below_drew1) | exact HB.out)) hb)
                     clear HB
                     have HB := n0_
                     clear n0_
                     (try clear hb)
                     (try clear hb2)
                     (try clear hk)
                     (try clear hi)
                     refine hK.out _ _ trivial (fun hHeld => ?_)
                     clear hK K
                     refine norm_ (a' := ?_) ?_ ?_
                     rotate_left
                     · show Act.put _ (some 46) _ = _
                       simp only [Act.put, List.setIfInBounds_toArray, List.set_cons_zero, List.set_cons_succ, i64_w, i32_w]
                       rfl
                     refine pure_ (i := 8) (N := some 50) (v := ?_) (a' := ?_) #[true, true, true, true, true, true, true, true, true, false] rfl rfl (any_of HT_.out (by kernel_rfl)) (fun _ _ _ h => h) (Or.inl ⟨by rfl, ?_⟩) ?_ ?_
                     rotate_left
                     · intro w'
                       go_simp
                       with_reducible rfl
                     rotate_left
                     · simp only [Act.put, List.setIfInBounds_toArray, List.set_cons_zero, List.set_cons_succ, i64_w, i32_w]
                       rfl
                     refine pure_ (i := 9) (N := some 51) (v := ?_) (a' := ?_) #[true, true, true, true, true, true, true, true, true, true] rfl rfl (any_of HT_.out (by kernel_rfl)) (fun _ _ _ h => h) (Or.inl ⟨by rfl, ?_⟩) ?_ ?_
                     rotate_left
                     · intro w'
                       go_simp
                       with_reducible rfl
                     rotate_left
                     · simp only [Act.put, List.setIfInBounds_toArray, List.set_cons_zero, List.set_cons_succ, i64_w, i32_w]
                       rfl
                     refine done_ (done_of HT_.out (by kernel_rfl)) ?_
                     try go_wp2
                     go_roundg kj8
                     case measure => have := HK1.out; have := HJ1.out; have := HJ8.out; omega
                     case rel => exact ⟨(x4_8), (wrap64 (x5_1 + 1)), (by first | rfl | (simp; done) | (simp [*]; done)), (by first | rfl | (simp; done) | (simp [*]; done)), H', ⟨by have := HK1.out; have := HJ1.out; have := HJ8.out; omega⟩, ⟨by repeat (first | (with_reducible first | exact HB.out | apply below_alloc | apply pw_below_drewN | apply below_drew1) | exact HB.out)⟩⟩
                 · rw [if_neg c20] at H
                   exact absurd H (by simp)
               · rw [if_neg c19] at H
                 exact absurd H (by simp)
             · replace c17 := Bool.eq_false_iff.mpr c17
               subst c17
               have H1 : (rf01_First.l0 kj8 a0 x4_8 (wrap64 (x5_1 + 1))) = some (r1, r2) := by rw [if_neg (show ¬ (false = true) by decide)] at H; exact H
               clear H
               have H := H1
               clear H1
               have H' := Aside0.mk H
               clear H
               try go_wp2
               have n0_ := Aside0.mk (below_drew1 HB.out)
               clear HB
               have HB := n0_
               clear n0_
               refine start_ (n := 10) (S := fun w' => True) (ds := []) #[false, false, false, false, false, false, false, false, false, false] (by kernel_rfl) rfl rfl trivial (fun hHeld => ?_); refine with_tabW rf01_First.tab15 rf01_First.bits15 (fun HT_ HW_ => ?_)
               generalize wc.drew = w26 at HB hHeld ⊢
               refine pure_ (i := 0) (N := some 42) (v := ?_) (a' := ?_) #[true, false, false, false, false, false, false, false, false, false] rfl rfl (any_of HT_.out (by kernel_rfl)) (fun _ _ _ h => h) (Or.inl ⟨by rfl, ?_⟩) ?_ ?_
               rotate_left
               · intro w'
                 go_simp
                 with_reducible rfl
               rotate_left
               · simp only [Act.put, List.setIfInBounds_toArray, List.set_cons_zero, List.set_cons_succ, i64_w, i32_w]
                 rfl
               refine one_ (i := 1) (N := some 43) #[true, true, false, false, false, false, false, false, false, false] rfl rfl (one_of HT_.out (by kernel_rfl)) (by decide) (fun K hK => ?_)
               refine goes_ Tryz.func101 (by kernel_rfl) rfl #[.int .i64 x4_8] (by rfl) rfl rfl (by (try simp only [List.map_toArray, List.map_cons, List.map_nil]); first | done | rfl | (simp only [List.length_drop, List.length_take]; rfl)) ?_
               with_reducible refine (rf01_May.calls x4_8 false _ A16.out).mono ?_
               rintro e w' ⟨rfl, ⟨nd, rfl⟩⟩
               refine ⟨_, rfl, ?_⟩
               refine hK.out _ _ trivial (fun hHeld => ?_)
               clear hK K
               refine norm_ (a' := ?_) ?_ ?_
               rotate_left
               · show Act.put _ (some 43) _ = _
                 simp only [Act.put, List.setIfInBounds_toArray, List.set_cons_zero, List.set_cons_succ, i64_w, i32_w]
                 rfl
               refine pure_ (i := 2) (N := some 44) (v := ?_) (a' := ?_) #[true, true, true, false, false, false, false, false, false, false] rfl rfl (any_of HT_.out (by kernel_rfl)) (fun _ _ _ h => h) (Or.inl ⟨by rfl, ?_⟩) ?_ ?_
               rotate_left
               · intro w'
                 go_simp
                 with_reducible rfl
               rotate_left
               · simp only [Act.put, List.setIfInBounds_toArray, List.set_cons_zero, List.set_cons_succ, i64_w, i32_w]
                 rfl
               refine pure_ (i := 3) (N := some 45) (v := undef) (a' := ?_) #[true, true, true, true, false, false, false, false, false, false] rfl rfl (any_of HT_.out (by kernel_rfl)) (fun _ _ _ h => h) (Or.inr ⟨by rfl, rfl⟩) ?_ ?_
               rotate_left
               · simp only [Act.put, List.setIfInBounds_toArray, List.set_cons_zero, List.set_cons_succ, i64_w, i32_w]
                 rfl
               refine pure_ (i := 4) (N := some 46) (v := undef) (a' := ?_) #[true, true, true, true, true, false, false, false, false, false] rfl rfl (any_of HT_.out (by kernel_rfl)) (fun _ _ _ h => h) (Or.inr ⟨by rfl, rfl⟩) ?_ ?_
               rotate_left
               · simp only [Act.put, List.setIfInBounds_toArray, List.set_cons_zero, List.set_cons_succ, i64_w, i32_w]
                 rfl
               refine pure_ (i := 5) (N := some 47) (v := undef) (a' := ?_) #[true, true, true, true, true, true, false, false, false, false] rfl rfl (any_of HT_.out (by kernel_rfl)) (fun _ _ _ h => h) (Or.inr ⟨by rfl, rfl⟩) ?_ ?_
               rotate_left
               · simp only [Act.put, List.setIfInBounds_toArray, List.set_cons_zero, List.set_cons_succ, i64_w, i32_w]
                 rfl
               refine pure_ (i := 6) (N := some 48) (v := undef) (a' := ?_) #[true, true, true, true, true, true, true, false, false, false] rfl rfl (any_of HT_.out (by kernel_rfl)) (fun _ _ _ h => h) (Or.inr ⟨by rfl, rfl⟩) ?_ ?_
               rotate_left
               · simp only [Act.put, List.setIfInBounds_toArray, List.set_cons_zero, List.set_cons_succ, i64_w, i32_w]
                 rfl
               refine pure_ (i := 7) (N := some 49) (v := undef) (a' := ?_) #[true, true, true, true, true, true, true, true, false, false] rfl rfl (any_of HT_.out (by kernel_rfl)) (fun _ _ _ h => h) (Or.inr ⟨by rfl, rfl⟩) ?_ ?_
               rotate_left
               · simp only [Act.put, List.setIfInBounds_toArray, List.set_cons_zero, List.set_cons_succ, i64_w, i32_w]
                 rfl
               refine pure_ (i := 8) (N := some 50) (v := undef) (a' := ?_) #[true, true, true, true, true, true, true, true, true, false] rfl rfl (any_of HT_.out (by kernel_rfl)) (fun _ _ _ h => h) (Or.inr ⟨by rfl, rfl⟩) ?_ ?_
               rotate_left
               · simp only [Act.put, List.setIfInBounds_toArray, List.set_cons_zero, List.set_cons_succ, i64_w, i32_w]
                 rfl
               refine pure_ (i := 9) (N := some 51) (v := ?_) (a' := ?_) #[true, true, true, true, true, true, true, true, true, true] rfl rfl (any_of HT_.out (by kernel_rfl)) (fun _ _ _ h => h) (Or.inl ⟨by rfl, ?_⟩) ?_ ?_
               rotate_left
               · intro w'
                 go_simp
                 with_reducible rfl
               rotate_left
               · simp only [Act.put, List.setIfInBounds_toArray, List.set_cons_zero, List.set_cons_succ, i64_w, i32_w]
                 rfl
               refine done_ (done_of HT_.out (by kernel_rfl)) ?_
               try go_wp2
               go_roundg kj8
               case measure => have := HK1.out; have := HJ1.out; have := HJ8.out; omega
               case rel => exact ⟨(x4_8), (wrap64 (x5_1 + 1)), (by first | rfl | (simp; done) | (simp [*]; done)), (by first | rfl | (simp; done) | (simp [*]; done)), H', ⟨by have := HK1.out; have := HJ1.out; have := HJ8.out; omega⟩, ⟨by repeat (first | (with_reducible first | exact HB.out | apply below_alloc | apply pw_below_drewN | apply below_drew1) | exact HB.out)⟩⟩
         · rw [if_neg c7] at H
           exact absurd H (by simp)
       · rw [if_neg c6] at H
         exact absurd H (by simp)
     · replace c4 := Bool.eq_false_iff.mpr c4
       subst c4
       have H1 : (some (0, 0)) = some (r1, r2) := by rw [if_neg (show ¬ (false = true) by decide)] at H; exact H
       clear H
       have H := H1
       clear H1
       simp only [Option.some.injEq, Prod.mk.injEq] at H
       obtain ⟨rfl, rfl⟩ := H
       go_wp2
       go_ret2
       exact ⟨by first | rfl | (simp [errW_none, errW_some] <;> rfl) | (simp [*, errW_none, errW_some] <;> rfl), by repeat (first | (with_reducible first | exact HB.out | apply below_alloc | apply pw_below_drewN | apply below_drew1) | exact HB.out)⟩
def rf04_May.f (a0 : Int) : Option (Bool) := if a0 < 65536 then (if a0 ≥ 160 then (if a0 ≤ 55295 then (some true) else (if a0 ≥ 57344 then (if a0 ≤ 64975 then (some true) else (if a0 ≥ 65008 then (some (decide (a0 ≤ 65519))) else (some false))) else (if a0 ≥ 65008 then (some (decide (a0 ≤ 65519))) else (some false)))) else (if a0 ≥ 57344 then (if a0 ≤ 64975 then (some true) else (if a0 ≥ 65008 then (some (decide (a0 ≤ 65519))) else (some false))) else (if a0 ≥ 65008 then (some (decide (a0 ≤ 65519))) else (some false)))) else (if a0 ≥ 917504 then (if a0 < 921600 then (some false) else (if a0 ≤ 1114109 then (some (decide ((Int.tmod a0 65536) ≤ 65533))) else (some false))) else (if a0 ≤ 1114109 then (some (decide ((Int.tmod a0 65536) ≤ 65533))) else (some false)))
set_option maxHeartbeats 8000000 in
set_option maxRecDepth 100000 in
theorem rf04_May.calls (a0 : Int) (r : Bool) (w : World) (h : rf04_May.f a0 = some r) :
 Calls Tryz.prog 85 #[.int .i64 a0] w fun e w' => e = .returned (.bool r) ∧ Drawn0 w w' := by
 have H : (if a0 < 65536 then (if a0 ≥ 160 then (if a0 ≤ 55295 then (some true) else (if a0 ≥ 57344 then (if a0 ≤ 64975 then (some true) else (if a0 ≥ 65008 then (some (decide (a0 ≤ 65519))) else (some false))) else (if a0 ≥ 65008 then (some (decide (a0 ≤ 65519))) else (some false)))) else (if a0 ≥ 57344 then (if a0 ≤ 64975 then (some true) else (if a0 ≥ 65008 then (some (decide (a0 ≤ 65519))) else (some false))) else (if a0 ≥ 65008 then (some (decide (a0 ≤ 65519))) else (some false)))) else (if a0 ≥ 917504 then (if a0 < 921600 then (some false) else (if a0 ≤ 1114109 then (some (decide ((Int.tmod a0 65536) ≤ 65533))) else (some false))) else (if a0 ≤ 1114109 then (some (decide ((Int.tmod a0 65536) ≤ 65533))) else (some false)))) = some r := h
 clear h
 by_cases c2 : a0 < 65536
 · rw [if_pos c2] at H
   have c2b0 : decide (a0 < 65536) = true := decide_eq_true c2
   clear c2
   by_cases c3 : a0 ≥ 160
   · rw [if_pos c3] at H
     have c3b0 : decide (160 ≤ a0) = true := decide_eq_true c3
     clear c3
     by_cases c4 : a0 ≤ 55295
     · rw [if_pos c4] at H
       have c4b0 : decide (a0 ≤ 55295) = true := decide_eq_true c4
       clear c4
       obtain rfl := Option.some.inj H
       go_enter Tryz.func85, Tryz.ntmps85
       go_wp2
       go_ret
       exact ⟨by first | rfl | (simp; done) | (simp [*]; done), by repeat (first | exact Drawn0.refl _ | apply Drawn0.step)⟩
     · rw [if_neg c4] at H
       have c4b0 : decide (a0 ≤ 55295) = false := decide_eq_false c4
       clear c4
       by_cases c5 : a0 ≥ 57344
       · rw [if_pos c5] at H
         have c5b0 : decide (57344 ≤ a0) = true := decide_eq_true c5
         clear c5
         by_cases c6 : a0 ≤ 64975
         · rw [if_pos c6] at H
           have c6b0 : decide (a0 ≤ 64975) = true := decide_eq_true c6
           clear c6
           obtain rfl := Option.some.inj H
           go_enter Tryz.func85, Tryz.ntmps85
           go_wp2
           go_ret
           exact ⟨by first | rfl | (simp; done) | (simp [*]; done), by repeat (first | exact Drawn0.refl _ | apply Drawn0.step)⟩
         · rw [if_neg c6] at H
           have c6b0 : decide (a0 ≤ 64975) = false := decide_eq_false c6
           clear c6
           by_cases c7 : a0 ≥ 65008
           · rw [if_pos c7] at H
             have c7b0 : decide (65008 ≤ a0) = true := decide_eq_true c7
             clear c7
             obtain rfl := Option.some.inj H
             go_enter Tryz.func85, Tryz.ntmps85
             go_wp2
             go_ret
             exact ⟨by first | rfl | (simp; done) | (simp [*]; done), by repeat (first | exact Drawn0.refl _ | apply Drawn0.step)⟩
           · rw [if_neg c7] at H
             have c7b0 : decide (65008 ≤ a0) = false := decide_eq_false c7
             clear c7
             obtain rfl := Option.some.inj H
             go_enter Tryz.func85, Tryz.ntmps85
             go_wp2
             go_ret
             exact ⟨by first | rfl | (simp; done) | (simp [*]; done), by repeat (first | exact Drawn0.refl _ | apply Drawn0.step)⟩
       · rw [if_neg c5] at H
         have c5b0 : decide (57344 ≤ a0) = false := decide_eq_false c5
         clear c5
         by_cases c8 : a0 ≥ 65008
         · rw [if_pos c8] at H
           have c8b0 : decide (65008 ≤ a0) = true := decide_eq_true c8
           clear c8
           obtain rfl := Option.some.inj H
           go_enter Tryz.func85, Tryz.ntmps85
           go_wp2
           go_ret
           exact ⟨by first | rfl | (simp; done) | (simp [*]; done), by repeat (first | exact Drawn0.refl _ | apply Drawn0.step)⟩
         · rw [if_neg c8] at H
           have c8b0 : decide (65008 ≤ a0) = false := decide_eq_false c8
           clear c8
           obtain rfl := Option.some.inj H
           go_enter Tryz.func85, Tryz.ntmps85
           go_wp2
           go_ret
           exact ⟨by first | rfl | (simp; done) | (simp [*]; done), by repeat (first | exact Drawn0.refl _ | apply Drawn0.step)⟩
   · rw [if_neg c3] at H
     have c3b0 : decide (160 ≤ a0) = false := decide_eq_false c3
     clear c3
     by_cases c9 : a0 ≥ 57344
     · rw [if_pos c9] at H
       have c9b0 : decide (57344 ≤ a0) = true := decide_eq_true c9
       clear c9
       by_cases c10 : a0 ≤ 64975
       · rw [if_pos c10] at H
         have c10b0 : decide (a0 ≤ 64975) = true := decide_eq_true c10
         clear c10
         obtain rfl := Option.some.inj H
         go_enter Tryz.func85, Tryz.ntmps85
         go_wp2
         go_ret
         exact ⟨by first | rfl | (simp; done) | (simp [*]; done), by repeat (first | exact Drawn0.refl _ | apply Drawn0.step)⟩
       · rw [if_neg c10] at H
         have c10b0 : decide (a0 ≤ 64975) = false := decide_eq_false c10
         clear c10
         by_cases c11 : a0 ≥ 65008
         · rw [if_pos c11] at H
           have c11b0 : decide (65008 ≤ a0) = true := decide_eq_true c11
           clear c11
           obtain rfl := Option.some.inj H
           go_enter Tryz.func85, Tryz.ntmps85
           go_wp2
           go_ret
           exact ⟨by first | rfl | (simp; done) | (simp [*]; done), by repeat (first | exact Drawn0.refl _ | apply Drawn0.step)⟩
         · rw [if_neg c11] at H
           have c11b0 : decide (65008 ≤ a0) = false := decide_eq_false c11
           clear c11
           obtain rfl := Option.some.inj H
           go_enter Tryz.func85, Tryz.ntmps85
           go_wp2
           go_ret
           exact ⟨by first | rfl | (simp; done) | (simp [*]; done), by repeat (first | exact Drawn0.refl _ | apply Drawn0.step)⟩
     · rw [if_neg c9] at H
       have c9b0 : decide (57344 ≤ a0) = false := decide_eq_false c9
       clear c9
       by_cases c12 : a0 ≥ 65008
       · rw [if_pos c12] at H
         have c12b0 : decide (65008 ≤ a0) = true := decide_eq_true c12
         clear c12
         obtain rfl := Option.some.inj H
         go_enter Tryz.func85, Tryz.ntmps85
         go_wp2
         go_ret
         exact ⟨by first | rfl | (simp; done) | (simp [*]; done), by repeat (first | exact Drawn0.refl _ | apply Drawn0.step)⟩
       · rw [if_neg c12] at H
         have c12b0 : decide (65008 ≤ a0) = false := decide_eq_false c12
         clear c12
         obtain rfl := Option.some.inj H
         go_enter Tryz.func85, Tryz.ntmps85
         go_wp2
         go_ret
         exact ⟨by first | rfl | (simp; done) | (simp [*]; done), by repeat (first | exact Drawn0.refl _ | apply Drawn0.step)⟩
 · rw [if_neg c2] at H
   have c2b0 : decide (a0 < 65536) = false := decide_eq_false c2
   clear c2
   by_cases c13 : a0 ≥ 917504
   · rw [if_pos c13] at H
     have c13b0 : decide (917504 ≤ a0) = true := decide_eq_true c13
     clear c13
     by_cases c14 : a0 < 921600
     · rw [if_pos c14] at H
       have c14b0 : decide (a0 < 921600) = true := decide_eq_true c14
       clear c14
       obtain rfl := Option.some.inj H
       go_enter Tryz.func85, Tryz.ntmps85
       go_wp2
       go_ret
       exact ⟨by first | rfl | (simp; done) | (simp [*]; done), by repeat (first | exact Drawn0.refl _ | apply Drawn0.step)⟩
     · rw [if_neg c14] at H
       have c14b0 : decide (a0 < 921600) = false := decide_eq_false c14
       clear c14
       by_cases c15 : a0 ≤ 1114109
       · rw [if_pos c15] at H
         have c15b0 : decide (a0 ≤ 1114109) = true := decide_eq_true c15
         clear c15
         obtain rfl := Option.some.inj H
         go_enter Tryz.func85, Tryz.ntmps85
         go_wp2
         go_ret
         exact ⟨by first | rfl | (simp; done) | (simp [*]; done), by repeat (first | exact Drawn0.refl _ | apply Drawn0.step)⟩
       · rw [if_neg c15] at H
         have c15b0 : decide (a0 ≤ 1114109) = false := decide_eq_false c15
         clear c15
         obtain rfl := Option.some.inj H
         go_enter Tryz.func85, Tryz.ntmps85
         go_wp2
         go_ret
         exact ⟨by first | rfl | (simp; done) | (simp [*]; done), by repeat (first | exact Drawn0.refl _ | apply Drawn0.step)⟩
   · rw [if_neg c13] at H
     have c13b0 : decide (917504 ≤ a0) = false := decide_eq_false c13
     clear c13
     by_cases c16 : a0 ≤ 1114109
     · rw [if_pos c16] at H
       have c16b0 : decide (a0 ≤ 1114109) = true := decide_eq_true c16
       clear c16
       obtain rfl := Option.some.inj H
       go_enter Tryz.func85, Tryz.ntmps85
       go_wp2
       go_ret
       exact ⟨by first | rfl | (simp; done) | (simp [*]; done), by repeat (first | exact Drawn0.refl _ | apply Drawn0.step)⟩
     · rw [if_neg c16] at H
       have c16b0 : decide (a0 ≤ 1114109) = false := decide_eq_false c16
       clear c16
       obtain rfl := Option.some.inj H
       go_enter Tryz.func85, Tryz.ntmps85
       go_wp2
       go_ret
       exact ⟨by first | rfl | (simp; done) | (simp [*]; done), by repeat (first | exact Drawn0.refl _ | apply Drawn0.step)⟩
end Go.Proofs.YtkipkbggnfllkaaGreatDoor.P
end
