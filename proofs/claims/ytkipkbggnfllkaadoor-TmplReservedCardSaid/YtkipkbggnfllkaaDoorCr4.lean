/- The law TmplReserved of the package phalaropelaw07 holds of every text and byte: behind a brace stands an operator, or a variable's begin, and the reserved operators are none. Condition: the laid variables of strconv hold what their makers laid (the card's own condition). -/
import Derived.Test.YtkipkbggnfllkaaDoorCr3
import Derived.ChangeMaps5
section
namespace Go.Proofs.YtkipkbggnfllkaaDoor.P
open Go.RowKit Go.Proofs.YtkipkbggnfllkaaDoorW.PrintWords Go.Proofs.YtkipkbggnfllkaaDoorW.PrintLast Go.Proofs.YtkipkbggnfllkaaDoorW.PrintMore
attribute [local go_sem] max2_int min2_int max_two min_two max_three min_three max_four min_four
set_option linter.unusedVariables false
set_option linter.unusedSimpArgs false
mutual
def lw_TmplReserved.j0 : Nat → ByteArray → Int → Bool → Bool → Option (Bool)
 | 0, _, _, _, _ => none
 | k + 1, x0, x1, x5, x19 => if x19 = true then (some x5) else (if x0.size + 1 ≤ 9223372036854775807 then ((some (([x1] : List Int) : List Int)).bind fun y175 => (if (x0 ++ (⟨#[123]⟩ : ByteArray)).size + (strOfNums y175).size ≤ 9223372036854775807 then (if ((x0 ++ (⟨#[123]⟩ : ByteArray)) ++ (strOfNums y175)).size + 2 ≤ 9223372036854775807 then ((tmpl_Parse.f k (((x0 ++ (⟨#[123]⟩ : ByteArray)) ++ (strOfNums y175)) ++ (⟨#[97, 125]⟩ : ByteArray))).bind fun bt178 => (if x1 = 0 then ((some (([x1] : List Int) : List Int)).bind fun y183 => (if (strOfNums y183).size + 1 ≤ 9223372036854775807 then ((rf05_May.f k ((strOfNums y183) ++ (⟨#[97]⟩ : ByteArray))).bind fun t186 => (lw_TmplReserved.j1 k x0 x1 x5 bt178.2.1 bt178.2.2 t186)) else (none))) else ((tmpl_Operator.f x1).bind fun t187 => (if t187 = true then (lw_TmplReserved.j1 k x0 x1 x5 bt178.2.1 bt178.2.2 true) else ((some (([x1] : List Int) : List Int)).bind fun y188 => (if (strOfNums y188).size + 1 ≤ 9223372036854775807 then ((rf05_May.f k ((strOfNums y188) ++ (⟨#[97]⟩ : ByteArray))).bind fun t191 => (lw_TmplReserved.j1 k x0 x1 x5 bt178.2.1 bt178.2.2 t191)) else (none))))))) else (none)) else (none))) else (none))
def lw_TmplReserved.j1 : Nat → ByteArray → Int → Bool → Int → Int → Bool → Option (Bool)
 | 0, _, _, _, _, _, _ => none
 | k + 1, x0, x1, x5, x7, x8, x9 => (tmpl_Operator.f 61).bind fun t192 => (if t192 = true then (if x5 = true then (some false) else (some false)) else ((tmpl_Operator.f 44).bind fun t193 => (if t193 = true then (if x5 = true then (some false) else (some false)) else ((tmpl_Operator.f 33).bind fun t194 => (if t194 = true then (if x5 = true then (some false) else (some false)) else ((tmpl_Operator.f 64).bind fun t195 => (if t195 = true then (if x5 = true then (some false) else (some false)) else ((tmpl_Operator.f 124).bind fun t196 => (if x5 = true then (if t196 = true then (some false) else (if ((x8 == 0) == x9) = true then (if x9 = true then (some true) else (if x7 = (wrap64 ((x0.size : Int) + 1)) then (some true) else (some (x1 == 37)))) else (some false))) else (some false))))))))))
end
def lw_TmplReserved.f (k : Nat) (a0 : ByteArray) (a1 : Int) : Option (Bool) := (lw_awake.f k).bind fun t173 => (if (a0.size : Int) > 100 then (lw_TmplReserved.j0 k a0 a1 t173 true) else ((rf07_Literal.f k a0).bind fun t174 => (lw_TmplReserved.j0 k a0 a1 t173 (!t174))))
set_option maxHeartbeats 8000000 in
set_option maxRecDepth 100000 in
theorem lw_TmplReserved.calls (k : Nat) (a0 : ByteArray) (a1 : Int) (r : Bool) (w : World) (hG : Gl w) (h : lw_TmplReserved.f k a0 a1 = some r) :
 Calls Tryd.prog 4 #[.string a0, .int .u8 a1] w fun e w' => e = .returned (.bool r) ∧ Below w.heap.size w w' := by
 have HB := Aside0.mk (Below.refl w.heap.size w)
 have H : ((lw_awake.f k).bind fun t173 => (if (a0.size : Int) > 100 then (lw_TmplReserved.j0 k a0 a1 t173 true) else ((rf07_Literal.f k a0).bind fun t174 => (lw_TmplReserved.j0 k a0 a1 t173 (!t174))))) = some r := h
 clear h
 replace H := Option.bind_eq_some_iff.mp H
 obtain ⟨t173, A30, H⟩ := H
 replace H : (if (a0.size : Int) > 100 then (lw_TmplReserved.j0 k a0 a1 t173 true) else ((rf07_Literal.f k a0).bind fun t174 => (lw_TmplReserved.j0 k a0 a1 t173 (!t174)))) = some r := H
 have A3 := Aside0.mk A30
 clear A30
 have HC4 := Aside0.mk H
 clear H
 go_enter Tryd.func4, Tryd.ntmps4
 go_upto_region 2 with (first | ((with_reducible refine gate_callee (f := 7) rfl ?_); refine goesL_ (some 11) rfl rfl Tryd.func7 (by kernel_rfl) rfl #[] rfl (by (try simp only [List.map_toArray, List.map_cons, List.map_nil]); first | done | rfl | (simp only [List.length_drop, List.length_take]; rfl)) ?_; (with_reducible refine (lw_awake.calls k  t173 _ (hG.keepAt (Nat.le_refl _) (by repeat (first | (with_reducible first | exact HB.out | apply below_alloc | apply pw_below_drewN | apply below_drew1) | exact HB.out))) A3.out).mono ?_); rintro e w5 ⟨rfl, hb⟩; refine ⟨_, rfl, ?_⟩; have n0_ := Aside0.mk (below_step (by repeat (first | (with_reducible first | exact HB.out | apply below_alloc | apply pw_below_drewN | apply below_drew1) | exact HB.out)) hb); clear HB; have HB := n0_; clear n0_; (try clear hb); (try clear hb2); (try clear hk); (try clear hi)))
 (try simp only [Act.put, List.setIfInBounds_toArray, List.set_cons_zero, List.set_cons_succ])
 go_cut [19] (fun v19 wc => ∃ (kq : Nat) (x19_3 : Bool), v19 = .bool x19_3 ∧ Aside0 (lw_TmplReserved.j0 kq a0 a1 t173 x19_3 = some r) ∧ Aside0 (kq ≤ k) ∧ Aside0 (Below w.heap.size w wc))
 case first =>
  have H := HC4.out
  clear HC4
  by_cases c6 : (a0.size : Int) > 100
  · rw [if_pos c6] at H
    have c6b0 : decide (100 < (a0.size : Int)) = true := decide_eq_true c6
    have c6b1 : decide (100 < a0.size) = true := decide_eq_true (by omega)
    clear c6
    (first | rw [c6b0] | (simp only [i64_w, i32_w]; rw [c6b0]) | skip)
    have H' := Aside0.mk H
    clear H
    go_wp2
    go_meet
    case rel => exact ⟨_, (true), (by first | rfl | (simp; done) | (simp [*]; done)), H', ⟨by first | omega | exact Nat.le_refl _⟩, ⟨by repeat (first | (with_reducible first | exact HB.out | apply below_alloc | apply pw_below_drewN | apply below_drew1) | exact HB.out)⟩⟩
  · rw [if_neg c6] at H
    have c6b0 : decide (100 < (a0.size : Int)) = false := decide_eq_false c6
    have c6b1 : decide (100 < a0.size) = false := decide_eq_false (by omega)
    clear c6
    (first | rw [c6b0] | (simp only [i64_w, i32_w]; rw [c6b0]) | skip)
    replace H := Option.bind_eq_some_iff.mp H
    obtain ⟨t174, A70, H⟩ := H
    replace H : (lw_TmplReserved.j0 k a0 a1 t173 (!t174)) = some r := H
    have A7 := Aside0.mk A70
    clear A70
    have H' := Aside0.mk H
    clear H
    go_wp2_with (first | (go_at_call 9; (with_reducible refine (rf07_Literal.calls k a0 t174 _ A7.out).mono ?_); rintro e w8 ⟨rfl, hb⟩; have n0_ := Aside0.mk (below_step (by repeat (first | (with_reducible first | exact HB.out | apply below_alloc | apply pw_below_drewN | apply below_drew1) | exact HB.out)) hb); clear HB; have HB := n0_; clear n0_; (try clear hb); (try clear hb2); (try clear hk); (try clear hi)))
    go_meet
    case rel => exact ⟨_, (!t174), (by first | rfl | (simp; done) | (simp [*]; done)), H', ⟨by first | omega | exact Nat.le_refl _⟩, ⟨by repeat (first | (with_reducible first | exact HB.out | apply below_alloc | apply pw_below_drewN | apply below_drew1) | exact HB.out)⟩⟩
 case rest =>
  clear HC4
  try clear p2
  try clear c4
  try clear c6
  try clear c6b0
  try clear c6b1
  try clear c7
  obtain ⟨kq, x19_3, rfl, HA, HJ3, HB⟩ := hcut
  cases kq with
  | zero => exact absurd HA.out (by simp [lw_TmplReserved.j0])
  | succ kj3 =>
   have H := HA.out
   clear HA
   simp only [lw_TmplReserved.j0] at H
   by_cases c9 : x19_3 = true
   · subst c9
     have H1 : (some t173) = some r := by rw [if_pos rfl] at H; exact H
     clear H
     have H := H1
     clear H1
     obtain rfl := Option.some.inj H
     go_wp2
     go_ret
     exact ⟨by first | rfl | (simp [errW_none, errW_some] <;> rfl) | (simp [*, errW_none, errW_some] <;> rfl), by repeat (first | (with_reducible first | exact HB.out | apply below_alloc | apply pw_below_drewN | apply below_drew1) | exact HB.out)⟩
   · replace c9 := Bool.eq_false_iff.mpr c9
     subst c9
     have H1 : (if a0.size + 1 ≤ 9223372036854775807 then ((some (([a1] : List Int) : List Int)).bind fun y175 => (if (a0 ++ (⟨#[123]⟩ : ByteArray)).size + (strOfNums y175).size ≤ 9223372036854775807 then (if ((a0 ++ (⟨#[123]⟩ : ByteArray)) ++ (strOfNums y175)).size + 2 ≤ 9223372036854775807 then ((tmpl_Parse.f kj3 (((a0 ++ (⟨#[123]⟩ : ByteArray)) ++ (strOfNums y175)) ++ (⟨#[97, 125]⟩ : ByteArray))).bind fun bt178 => (if a1 = 0 then ((some (([a1] : List Int) : List Int)).bind fun y183 => (if (strOfNums y183).size + 1 ≤ 9223372036854775807 then ((rf05_May.f kj3 ((strOfNums y183) ++ (⟨#[97]⟩ : ByteArray))).bind fun t186 => (lw_TmplReserved.j1 kj3 a0 a1 t173 bt178.2.1 bt178.2.2 t186)) else (none))) else ((tmpl_Operator.f a1).bind fun t187 => (if t187 = true then (lw_TmplReserved.j1 kj3 a0 a1 t173 bt178.2.1 bt178.2.2 true) else ((some (([a1] : List Int) : List Int)).bind fun y188 => (if (strOfNums y188).size + 1 ≤ 9223372036854775807 then ((rf05_May.f kj3 ((strOfNums y188) ++ (⟨#[97]⟩ : ByteArray))).bind fun t191 => (lw_TmplReserved.j1 kj3 a0 a1 t173 bt178.2.1 bt178.2.2 t191)) else (none))))))) else (none)) else (none))) else (none)) = some r := by rw [if_neg (show ¬ (false = true) by decide)] at H; exact H
     clear H
     have H := H1
     clear H1
     by_cases c10 : a0.size + 1 ≤ 9223372036854775807
     · rw [if_pos c10] at H
       have c10b0 := eq_true c10
       have c10b1 : decide (a0.size + 1 ≤ 9223372036854775807) = true := decide_eq_true c10
       try have c10b2 : (9223372036854775807 < a0.size + 1) = False := eq_false (Nat.not_lt.2 c10)
       obtain ⟨y175, hy175⟩ : ∃ y_ : List Int, y_ = (([a1] : List Int)) := ⟨_, rfl⟩
       replace H : (if (a0 ++ (⟨#[123]⟩ : ByteArray)).size + (strOfNums y175).size ≤ 9223372036854775807 then (if ((a0 ++ (⟨#[123]⟩ : ByteArray)) ++ (strOfNums y175)).size + 2 ≤ 9223372036854775807 then ((tmpl_Parse.f kj3 (((a0 ++ (⟨#[123]⟩ : ByteArray)) ++ (strOfNums y175)) ++ (⟨#[97, 125]⟩ : ByteArray))).bind fun bt178 => (if a1 = 0 then ((some (([a1] : List Int) : List Int)).bind fun y183 => (if (strOfNums y183).size + 1 ≤ 9223372036854775807 then ((rf05_May.f kj3 ((strOfNums y183) ++ (⟨#[97]⟩ : ByteArray))).bind fun t186 => (lw_TmplReserved.j1 kj3 a0 a1 t173 bt178.2.1 bt178.2.2 t186)) else (none))) else ((tmpl_Operator.f a1).bind fun t187 => (if t187 = true then (lw_TmplReserved.j1 kj3 a0 a1 t173 bt178.2.1 bt178.2.2 true) else ((some (([a1] : List Int) : List Int)).bind fun y188 => (if (strOfNums y188).size + 1 ≤ 9223372036854775807 then ((rf05_May.f kj3 ((strOfNums y188) ++ (⟨#[97]⟩ : ByteArray))).bind fun t191 => (lw_TmplReserved.j1 kj3 a0 a1 t173 bt178.2.1 bt178.2.2 t191)) else (none))))))) else (none)) else (none)) = some r := by first | (rw [hy175]; with_reducible exact H) | (have H2_ := (Option.bind_some _ _).symm.trans H; rw [hy175]; with_reducible exact H2_) | (have H2_ := (Option.bind_some _ _).symm.trans H; with_reducible exact H2_) | with_reducible exact H | (rw [hy175]; exact H) | exact H
       have Ny175 := Aside0.mk hy175
       clear hy175
       by_cases c11 : (a0 ++ (⟨#[123]⟩ : ByteArray)).size + (strOfNums y175).size ≤ 9223372036854775807
       · rw [if_pos c11] at H
         have c11b0 := eq_true c11
         have c11b1 : decide ((a0 ++ (⟨#[123]⟩ : ByteArray)).size + (strOfNums y175).size ≤ 9223372036854775807) = true := decide_eq_true c11
         try have c11b2 : (9223372036854775807 < (a0 ++ (⟨#[123]⟩ : ByteArray)).size + (strOfNums y175).size) = False := eq_false (Nat.not_lt.2 c11)
         try have c11b4 : (9223372036854775807 < a0.size + 1 + (strOfNums y175).size) = False := eq_false (Nat.not_lt.2 (by have h_ := c11; simp only [ByteArray.size_append] at h_; exact h_))
         by_cases c12 : ((a0 ++ (⟨#[123]⟩ : ByteArray)) ++ (strOfNums y175)).size + 2 ≤ 9223372036854775807
         · rw [if_pos c12] at H
           have c12b0 := eq_true c12
           have c12b1 : decide (((a0 ++ (⟨#[123]⟩ : ByteArray)) ++ (strOfNums y175)).size + 2 ≤ 9223372036854775807) = true := decide_eq_true c12
           try have c12b2 : (9223372036854775807 < ((a0 ++ (⟨#[123]⟩ : ByteArray)) ++ (strOfNums y175)).size + 2) = False := eq_false (Nat.not_lt.2 c12)
           try have c12b4 : (9223372036854775807 < a0.size + 1 + (strOfNums y175).size + 2) = False := eq_false (Nat.not_lt.2 (by have h_ := c12; simp only [ByteArray.size_append] at h_; exact h_))
           replace H := Option.bind_eq_some_iff.mp H
           obtain ⟨⟨t178, t179, t180⟩, A130, H⟩ := H
           replace H : (if a1 = 0 then ((some (([a1] : List Int) : List Int)).bind fun y183 => (if (strOfNums y183).size + 1 ≤ 9223372036854775807 then ((rf05_May.f kj3 ((strOfNums y183) ++ (⟨#[97]⟩ : ByteArray))).bind fun t186 => (lw_TmplReserved.j1 kj3 a0 a1 t173 t179 t180 t186)) else (none))) else ((tmpl_Operator.f a1).bind fun t187 => (if t187 = true then (lw_TmplReserved.j1 kj3 a0 a1 t173 t179 t180 true) else ((some (([a1] : List Int) : List Int)).bind fun y188 => (if (strOfNums y188).size + 1 ≤ 9223372036854775807 then ((rf05_May.f kj3 ((strOfNums y188) ++ (⟨#[97]⟩ : ByteArray))).bind fun t191 => (lw_TmplReserved.j1 kj3 a0 a1 t173 t179 t180 t191)) else (none)))))) = some r := H
           have A13 := Aside0.mk A130
           clear A130
           have HC14 := Aside0.mk H
           clear H
           go_upto_region 5 with (first | ((with_reducible refine gate_dst (N := 25) rfl ?_); (try (refine gate_guard (by rfl) ?_; dsimp only)); refine Kd.R_lit (Kd.int .u8) _ 5 ?hg (N := 25) ?hd (xs := ([a1] : List Int)) (inner := [.int .u8 a1]) (ok := fun _ => True) (okp := fun _ => True) ?hr ?hp (fun _ hk => hk) trivial (Below.refl _ _) (Nat.le_refl _) (by simp) ?_; (case hd => rfl); (case hg => rfl); (case hr => first | (go_simp; done) | (go_simp; rfl)); (case hp => exact (Reps.one (show Kd.M (Kd.int .u8) _ _ _ a1 [.int .u8 a1] from rfl) (Reps.none _ _))); intro v176 w15 ho16 hb hg_ hnew_; clear hg_ hnew_; (first | rw [← Ny175.out] at ho16 | (simp only [Int.reduceToNat] at ho16; rw [← Ny175.out] at ho16)); have n0_ := Aside0.mk (Kd.R_lower ho16 (below_size (by repeat (first | (with_reducible first | exact HB.out | apply below_alloc | apply pw_below_drewN | apply below_drew1) | exact HB.out)))); have n1_ := Aside0.mk (below_step (by repeat (first | (with_reducible first | exact HB.out | apply below_alloc | apply pw_below_drewN | apply below_drew1) | exact HB.out)) hb); clear HB; have HO177 := n0_; have HB := n1_; clear n0_ n1_; clear hb ho16; have hcv17 := own_string (P := Tryd.prog) Tryd.underlying29 Tryd.underlying5 Tryd.underlying9 (Kd.own_of_R HO177.out)) | ((with_reducible refine gate_callee (f := 8) rfl ?_); refine goesL_ (some 29) rfl rfl Tryd.func8 (by kernel_rfl) rfl #[.string (((a0 ++ (⟨#[123]⟩ : ByteArray)) ++ (strOfNums y175)) ++ (⟨#[97, 125]⟩ : ByteArray))] rfl (by (try simp only [List.map_toArray, List.map_cons, List.map_nil]); first | done | rfl | (simp only [List.length_drop, List.length_take]; rfl)) ?_; (with_reducible refine (tmpl_Parse.calls kj3 (((a0 ++ (⟨#[123]⟩ : ByteArray)) ++ (strOfNums y175)) ++ (⟨#[97, 125]⟩ : ByteArray)) t178 t179 t180 _ (hG.keepAt (Nat.le_refl _) (by repeat (first | (with_reducible first | exact HB.out | apply below_alloc | apply pw_below_drewN | apply below_drew1) | exact HB.out))) A13.out).mono ?_); rintro e w18 ⟨v181, rfl, ho0, hb⟩; refine ⟨_, rfl, ?_⟩; have n0_ := Aside0.mk (Kd.R_below (by (with_reducible repeat (first | apply Kd.R_alloc | apply Kd.R_drewN | apply Kd.R_drew)); exact HO177.out) hb); have n1_ := Aside0.mk (Kd.S_lower ho0 (below_size (by repeat (first | (with_reducible first | exact HB.out | apply below_alloc | apply pw_below_drewN | apply below_drew1) | exact HB.out)))); have n2_ := Aside0.mk (below_step (by repeat (first | (with_reducible first | exact HB.out | apply below_alloc | apply pw_below_drewN | apply below_drew1) | exact HB.out)) hb); clear HO177; clear HB; have HO177 := n0_; have HO182 := n1_; have HB := n2_; clear n0_ n1_ n2_; (try clear hb); (try clear hb2); (try clear hk); (try clear hi); (try clear ho0)))
           (try simp only [Act.put, List.setIfInBounds_toArray, List.set_cons_zero, List.set_cons_succ])
           go_cut [9] (fun v9 wc => ∃ (kq : Nat) (x9_13 : Bool), v9 = .bool x9_13 ∧ Aside0 (lw_TmplReserved.j1 kq a0 a1 t173 t179 t180 x9_13 = some r) ∧ Aside0 (kq ≤ kj3) ∧ Aside0 (Below w.heap.size w wc))
           case first =>
            have H := HC14.out
            clear HC14
            by_cases c19 : a1 = 0
            · rw [if_pos c19] at H
              have c19b0 : (a1 == 0) = true := beq_iff_eq.mpr c19
              have c19b1 : (a1 != 0) = false := bne_eq_false_iff_eq.mpr c19
              clear c19
              (first | rw [c19b0] | (simp only [i64_w, i32_w]; rw [c19b0]) | skip)
              obtain ⟨y183, hy183⟩ : ∃ y_ : List Int, y_ = (([a1] : List Int)) := ⟨_, rfl⟩
              replace H : (if (strOfNums y183).size + 1 ≤ 9223372036854775807 then ((rf05_May.f kj3 ((strOfNums y183) ++ (⟨#[97]⟩ : ByteArray))).bind fun t186 => (lw_TmplReserved.j1 kj3 a0 a1 t173 t179 t180 t186)) else (none)) = some r := by first | (rw [hy183]; with_reducible exact H) | (have H2_ := (Option.bind_some _ _).symm.trans H; rw [hy183]; with_reducible exact H2_) | (have H2_ := (Option.bind_some _ _).symm.trans H; with_reducible exact H2_) | with_reducible exact H | (rw [hy183]; exact H) | exact H
              have Ny183 := Aside0.mk hy183
              clear hy183
              by_cases c20 : (strOfNums y183).size + 1 ≤ 9223372036854775807
              · rw [if_pos c20] at H
                have c20b0 := eq_true c20
                have c20b1 : decide ((strOfNums y183).size + 1 ≤ 9223372036854775807) = true := decide_eq_true c20
                try have c20b2 : (9223372036854775807 < (strOfNums y183).size + 1) = False := eq_false (Nat.not_lt.2 c20)
                replace H := Option.bind_eq_some_iff.mp H
                obtain ⟨t186, A210, H⟩ := H
                replace H : (lw_TmplReserved.j1 kj3 a0 a1 t173 t179 t180 t186) = some r := H
                have A21 := Aside0.mk A210
                clear A210
                have H' := Aside0.mk H
                clear H
                go_wp2_with (first | ((with_reducible refine gate_dst (N := 41) rfl ?_); (try (refine gate_guard (by rfl) ?_; dsimp only)); refine Kd.R_lit (Kd.int .u8) _ 5 ?hg (N := 41) ?hd (xs := ([a1] : List Int)) (inner := [.int .u8 a1]) (ok := fun _ => True) (okp := fun _ => True) ?hr ?hp (fun _ hk => hk) trivial (Below.refl _ _) (Nat.le_refl _) (by simp) ?_; (case hd => rfl); (case hg => rfl); (case hr => first | (go_simp; done) | (go_simp; rfl)); (case hp => exact (Reps.one (show Kd.M (Kd.int .u8) _ _ _ a1 [.int .u8 a1] from rfl) (Reps.none _ _))); intro v184 w22 ho23 hb hg_ hnew_; clear hg_ hnew_; (first | rw [← Ny183.out] at ho23 | (simp only [Int.reduceToNat] at ho23; rw [← Ny183.out] at ho23)); have n0_ := Aside0.mk (Kd.R_elder' (by (with_reducible repeat (first | apply Kd.R_alloc | apply Kd.R_drewN | apply Kd.R_drew)); exact HO177.out) (Kd.R_base ho23) hb); have n1_ := Aside0.mk (Kd.S_below (by (with_reducible repeat (first | apply Kd.S_alloc | apply Kd.S_drewN | apply Kd.S_drew)); exact HO182.out) hb); have n2_ := Aside0.mk (Kd.R_lower (Kd.R_new' ho23 (Kd.R_lt (by (with_reducible repeat (first | apply Kd.R_alloc | apply Kd.R_drewN | apply Kd.R_drew)); exact HO177.out))) (below_size (by repeat (first | (with_reducible first | exact HB.out | apply below_alloc | apply pw_below_drewN | apply below_drew1) | exact HB.out)))); have n3_ := Aside0.mk (below_step (by repeat (first | (with_reducible first | exact HB.out | apply below_alloc | apply pw_below_drewN | apply below_drew1) | exact HB.out)) hb); clear HO177; clear HO182; clear HB; have HO177 := n0_; have HO182 := n1_; have HO185 := n2_; have HB := n3_; clear n0_ n1_ n2_ n3_; clear hb ho23; have hcv24 := own_string (P := Tryd.prog) Tryd.underlying29 Tryd.underlying5 Tryd.underlying9 (Kd.own_of_R HO185.out)) | (go_at_call 11; (with_reducible refine (rf05_May.calls kj3 ((strOfNums y183) ++ (⟨#[97]⟩ : ByteArray)) t186 _ A21.out).mono ?_); rintro e w' ⟨rfl, ⟨nd, rfl⟩⟩))
                go_meet
                case rel => exact ⟨_, (t186), (by first | rfl | (simp; done) | (simp [*]; done)), H', ⟨by have := HJ3.out; first | omega | exact Nat.le_refl _⟩, ⟨by repeat (first | (with_reducible first | exact HB.out | apply below_alloc | apply pw_below_drewN | apply below_drew1) | exact HB.out)⟩⟩
              · rw [if_neg c20] at H
                exact absurd H (by simp)
            · rw [if_neg c19] at H
              have c19b0 : (a1 == 0) = false := beq_eq_false_iff_ne.mpr c19
              have c19b1 : (a1 != 0) = true := bne_iff_ne.mpr c19
              (first | rw [c19b0] | (simp only [i64_w, i32_w]; rw [c19b0]) | skip)
              replace H := Option.bind_eq_some_iff.mp H
              obtain ⟨t187, A250, H⟩ := H
              replace H : (if t187 = true then (lw_TmplReserved.j1 kj3 a0 a1 t173 t179 t180 true) else ((some (([a1] : List Int) : List Int)).bind fun y188 => (if (strOfNums y188).size + 1 ≤ 9223372036854775807 then ((rf05_May.f kj3 ((strOfNums y188) ++ (⟨#[97]⟩ : ByteArray))).bind fun t191 => (lw_TmplReserved.j1 kj3 a0 a1 t173 t179 t180 t191)) else (none)))) = some r := H
              have A25 := Aside0.mk A250
              clear A250
              by_cases c26 : t187 = true
              · subst c26
                have H1 : (lw_TmplReserved.j1 kj3 a0 a1 t173 t179 t180 true) = some r := by rw [if_pos rfl] at H; exact H
                clear H
                have H := H1
                clear H1
                have H' := Aside0.mk H
                clear H
                go_wp2_with (first | (go_at_call 10; (with_reducible refine (tmpl_Operator.calls a1 true _ A25.out).mono ?_); rintro e w' ⟨rfl, ⟨nd, rfl⟩⟩))
                go_meet
                case rel => exact ⟨_, (true), (by first | rfl | (simp; done) | (simp [*]; done)), H', ⟨by have := HJ3.out; first | omega | exact Nat.le_refl _⟩, ⟨by repeat (first | (with_reducible first | exact HB.out | apply below_alloc | apply pw_below_drewN | apply below_drew1) | exact HB.out)⟩⟩
              · replace c26 := Bool.eq_false_iff.mpr c26
                subst c26
                have H1 : ((some (([a1] : List Int) : List Int)).bind fun y188 => (if (strOfNums y188).size + 1 ≤ 9223372036854775807 then ((rf05_May.f kj3 ((strOfNums y188) ++ (⟨#[97]⟩ : ByteArray))).bind fun t191 => (lw_TmplReserved.j1 kj3 a0 a1 t173 t179 t180 t191)) else (none))) = some r := by rw [if_neg (show ¬ (false = true) by decide)] at H; exact H
                clear H
                have H := H1
                clear H1
                obtain ⟨y188, hy188⟩ : ∃ y_ : List Int, y_ = (([a1] : List Int)) := ⟨_, rfl⟩
                replace H : (if (strOfNums y188).size + 1 ≤ 9223372036854775807 then ((rf05_May.f kj3 ((strOfNums y188) ++ (⟨#[97]⟩ : ByteArray))).bind fun t191 => (lw_TmplReserved.j1 kj3 a0 a1 t173 t179 t180 t191)) else (none)) = some r := by first | (rw [hy188]; with_reducible exact H) | (have H2_ := (Option.bind_some _ _).symm.trans H; rw [hy188]; with_reducible exact H2_) | (have H2_ := (Option.bind_some _ _).symm.trans H; with_reducible exact H2_) | with_reducible exact H | (rw [hy188]; exact H) | exact H
                have Ny188 := Aside0.mk hy188
                clear hy188
                by_cases c27 : (strOfNums y188).size + 1 ≤ 9223372036854775807
                · rw [if_pos c27] at H
                  have c27b0 := eq_true c27
                  have c27b1 : decide ((strOfNums y188).size + 1 ≤ 9223372036854775807) = true := decide_eq_true c27
                  try have c27b2 : (9223372036854775807 < (strOfNums y188).size + 1) = False := eq_false (Nat.not_lt.2 c27)
                  replace H := Option.bind_eq_some_iff.mp H
                  obtain ⟨t191, A280, H⟩ := H
                  replace H : (lw_TmplReserved.j1 kj3 a0 a1 t173 t179 t180 t191) = some r := H
                  have A28 := Aside0.mk A280
                  clear A280
                  have H' := Aside0.mk H
                  clear H
                  go_wp2_with (first | (go_at_call 10; (with_reducible refine (tmpl_Operator.calls a1 false _ A25.out).mono ?_); rintro e w' ⟨rfl, ⟨nd, rfl⟩⟩) | ((with_reducible refine gate_dst (N := 41) rfl ?_); (try (refine gate_guard (by rfl) ?_; dsimp only)); refine Kd.R_lit (Kd.int .u8) _ 5 ?hg (N := 41) ?hd (xs := ([a1] : List Int)) (inner := [.int .u8 a1]) (ok := fun _ => True) (okp := fun _ => True) ?hr ?hp (fun _ hk => hk) trivial (Below.refl _ _) (Nat.le_refl _) (by simp) ?_; (case hd => rfl); (case hg => rfl); (case hr => first | (go_simp; done) | (go_simp; rfl)); (case hp => exact (Reps.one (show Kd.M (Kd.int .u8) _ _ _ a1 [.int .u8 a1] from rfl) (Reps.none _ _))); intro v189 w29 ho30 hb hg_ hnew_; clear hg_ hnew_; (first | rw [← Ny188.out] at ho30 | (simp only [Int.reduceToNat] at ho30; rw [← Ny188.out] at ho30)); have n0_ := Aside0.mk (Kd.R_elder' (by (with_reducible repeat (first | apply Kd.R_alloc | apply Kd.R_drewN | apply Kd.R_drew)); exact HO177.out) (Kd.R_base ho30) hb); have n1_ := Aside0.mk (Kd.S_below (by (with_reducible repeat (first | apply Kd.S_alloc | apply Kd.S_drewN | apply Kd.S_drew)); exact HO182.out) hb); have n2_ := Aside0.mk (Kd.R_lower (Kd.R_new' ho30 (Kd.R_lt (by (with_reducible repeat (first | apply Kd.R_alloc | apply Kd.R_drewN | apply Kd.R_drew)); exact HO177.out))) (below_size (by repeat (first | (with_reducible first | exact HB.out | apply below_alloc | apply pw_below_drewN | apply below_drew1) | exact HB.out)))); have n3_ := Aside0.mk (below_step (by repeat (first | (with_reducible first | exact HB.out | apply below_alloc | apply pw_below_drewN | apply below_drew1) | exact HB.out)) hb); clear HO177; clear HO182; clear HB; have HO177 := n0_; have HO182 := n1_; have HO190 := n2_; have HB := n3_; clear n0_ n1_ n2_ n3_; clear hb ho30; have hcv31 := own_string (P := Tryd.prog) Tryd.underlying29 Tryd.underlying5 Tryd.underlying9 (Kd.own_of_R HO190.out)) | (go_at_call 11; (with_reducible refine (rf05_May.calls kj3 ((strOfNums y188) ++ (⟨#[97]⟩ : ByteArray)) t191 _ A28.out).mono ?_); rintro e w' ⟨rfl, ⟨nd, rfl⟩⟩))
                  go_meet
                  case rel => exact ⟨_, (t191), (by first | rfl | (simp; done) | (simp [*]; done)), H', ⟨by have := HJ3.out; first | omega | exact Nat.le_refl _⟩, ⟨by repeat (first | (with_reducible first | exact HB.out | apply below_alloc | apply pw_below_drewN | apply below_drew1) | exact HB.out)⟩⟩
                · rw [if_neg c27] at H
                  exact absurd H (by simp)
           case rest =>
            clear HC14
            try clear c1
            try clear hcv1
            try clear c2
            try clear p2
            try clear hcv2
            try clear hcv3
            try clear c4
            try clear c6
            try clear c6b0
            try clear c6b1
            try clear c7
            try clear c8
            try clear c9
            try clear c10
            try clear c10b0
            try clear c10b1
            try clear c10b2
            try clear c11
            try clear c11b0
            try clear c11b1
            try clear c11b2
            try clear c12
            try clear c12b0
            try clear c12b1
            try clear c12b2
            try clear hcv17
            try clear c19
            try clear c19b0
            try clear c19b1
            try clear c20
            try clear c20b0
            try clear c20b1
            try clear c20b2
            try clear hcv24
            try clear c26
            try clear c27
            try clear c27b0
            try clear c27b1
            try clear c27b2
            try clear hcv31
            try clear p2
            obtain ⟨kq, x9_13, rfl, HA, HJ13, HB⟩ := hcut
            cases kq with
            | zero => exact absurd HA.out (by simp [lw_TmplReserved.j1])
            | succ kj13 =>
             have H := HA.out
             clear HA
             simp only [lw_TmplReserved.j1] at H
             replace H := Option.bind_eq_some_iff.mp H
             obtain ⟨t192, A320, H⟩ := H
             replace H : (if t192 = true then (if t173 = true then (some false) else (some false)) else ((tmpl_Operator.f 44).bind fun t193 => (if t193 = true then (if t173 = true then (some false) else (some false)) else ((tmpl_Operator.f 33).bind fun t194 => (if t194 = true then (if t173 = true then (some false) else (some false)) else ((tmpl_Operator.f 64).bind fun t195 => (if t195 = true then (if t173 = true then (some false) else (some false)) else ((tmpl_Operator.f 124).bind fun t196 => (if t173 = true then (if t196 = true then (some false) else (if ((t180 == 0) == x9_13) = true then (if x9_13 = true then (some true) else (if t179 = (wrap64 ((a0.size : Int) + 1)) then (some true) else (some (a1 == 37)))) else (some false))) else (some false)))))))))) = some r := H
             have A32 := Aside0.mk A320
             clear A320
             by_cases c33 : t192 = true
             · subst c33
               have H1 : (if t173 = true then (some false) else (some false)) = some r := by rw [if_pos rfl] at H; exact H
               clear H
               have H := H1
               clear H1
               by_cases c34 : t173 = true
               · subst c34
                 have H1 : (some false) = some r := by rw [if_pos rfl] at H; exact H
                 clear H
                 have H := H1
                 clear H1
                 obtain rfl := Option.some.inj H
                 go_wp2_with (first | ((with_reducible refine gate_callee (f := 10) rfl ?_); refine goesL_ (some 46) rfl rfl Tryd.func10 (by kernel_rfl) rfl #[.int .u8 61] rfl (by (try simp only [List.map_toArray, List.map_cons, List.map_nil]); first | done | rfl | (simp only [List.length_drop, List.length_take]; rfl)) ?_; (with_reducible refine (tmpl_Operator.calls 61 true _ A32.out).mono ?_); rintro e w' ⟨rfl, ⟨nd, rfl⟩⟩; refine ⟨_, rfl, ?_⟩))
                 go_ret
                 exact ⟨by first | rfl | (simp [errW_none, errW_some] <;> rfl) | (simp [*, errW_none, errW_some] <;> rfl), by repeat (first | (with_reducible first | exact HB.out | apply below_alloc | apply pw_below_drewN | apply below_drew1) | exact HB.out)⟩
               · replace c34 := Bool.eq_false_iff.mpr c34
                 subst c34
                 have H1 : (some false) = some r := by rw [if_neg (show ¬ (false = true) by decide)] at H; exact H
                 clear H
                 have H := H1
                 clear H1
                 obtain rfl := Option.some.inj H
                 go_wp2_with (first | ((with_reducible refine gate_callee (f := 10) rfl ?_); refine goesL_ (some 46) rfl rfl Tryd.func10 (by kernel_rfl) rfl #[.int .u8 61] rfl (by (try simp only [List.map_toArray, List.map_cons, List.map_nil]); first | done | rfl | (simp only [List.length_drop, List.length_take]; rfl)) ?_; (with_reducible refine (tmpl_Operator.calls 61 true _ A32.out).mono ?_); rintro e w' ⟨rfl, ⟨nd, rfl⟩⟩; refine ⟨_, rfl, ?_⟩))
                 go_ret
                 exact ⟨by first | rfl | (simp [errW_none, errW_some] <;> rfl) | (simp [*, errW_none, errW_some] <;> rfl), by repeat (first | (with_reducible first | exact HB.out | apply below_alloc | apply pw_below_drewN | apply below_drew1) | exact HB.out)⟩
             · replace c33 := Bool.eq_false_iff.mpr c33
               subst c33
               have H1 : ((tmpl_Operator.f 44).bind fun t193 => (if t193 = true then (if t173 = true then (some false) else (some false)) else ((tmpl_Operator.f 33).bind fun t194 => (if t194 = true then (if t173 = true then (some false) else (some false)) else ((tmpl_Operator.f 64).bind fun t195 => (if t195 = true then (if t173 = true then (some false) else (some false)) else ((tmpl_Operator.f 124).bind fun t196 => (if t173 = true then (if t196 = true then (some false) else (if ((t180 == 0) == x9_13) = true then (if x9_13 = true then (some true) else (if t179 = (wrap64 ((a0.size : Int) + 1)) then (some true) else (some (a1 == 37)))) else (some false))) else (some false))))))))) = some r := by rw [if_neg (show ¬ (false = true) by decide)] at H; exact H
               clear H
               have H := H1
               clear H1
               replace H := Option.bind_eq_some_iff.mp H
               obtain ⟨t193, A350, H⟩ := H
               replace H : (if t193 = true then (if t173 = true then (some false) else (some false)) else ((tmpl_Operator.f 33).bind fun t194 => (if t194 = true then (if t173 = true then (some false) else (some false)) else ((tmpl_Operator.f 64).bind fun t195 => (if t195 = true then (if t173 = true then (some false) else (some false)) else ((tmpl_Operator.f 124).bind fun t196 => (if t173 = true then (if t196 = true then (some false) else (if ((t180 == 0) == x9_13) = true then (if x9_13 = true then (some true) else (if t179 = (wrap64 ((a0.size : Int) + 1)) then (some true) else (some (a1 == 37)))) else (some false))) else (some false)))))))) = some r := H
               have A35 := Aside0.mk A350
               clear A350
               by_cases c36 : t193 = true
               · subst c36
                 have H1 : (if t173 = true then (some false) else (some false)) = some r := by rw [if_pos rfl] at H; exact H
                 clear H
                 have H := H1
                 clear H1
                 by_cases c37 : t173 = true
                 · subst c37
                   have H1 : (some false) = some r := by rw [if_pos rfl] at H; exact H
                   clear H
                   have H := H1
                   clear H1
                   obtain rfl := Option.some.inj H
                   go_wp2_with (first | ((with_reducible refine gate_callee (f := 10) rfl ?_); refine goesL_ (some 46) rfl rfl Tryd.func10 (by kernel_rfl) rfl #[.int .u8 61] rfl (by (try simp only [List.map_toArray, List.map_cons, List.map_nil]); first | done | rfl | (simp only [List.length_drop, List.length_take]; rfl)) ?_; (with_reducible refine (tmpl_Operator.calls 61 false _ A32.out).mono ?_); rintro e w' ⟨rfl, ⟨nd, rfl⟩⟩; refine ⟨_, rfl, ?_⟩) | (go_at_call 10; (with_reducible refine (tmpl_Operator.calls 44 true _ A35.out).mono ?_); rintro e w' ⟨rfl, ⟨nd, rfl⟩⟩))
                   go_ret
                   exact ⟨by first | rfl | (simp [errW_none, errW_some] <;> rfl) | (simp [*, errW_none, errW_some] <;> rfl), by repeat (first | (with_reducible first | exact HB.out | apply below_alloc | apply pw_below_drewN | apply below_drew1) | exact HB.out)⟩
                 · replace c37 := Bool.eq_false_iff.mpr c37
                   subst c37
                   have H1 : (some false) = some r := by rw [if_neg (show ¬ (false = true) by decide)] at H; exact H
                   clear H
                   have H := H1
                   clear H1
                   obtain rfl := Option.some.inj H
                   go_wp2_with (first | ((with_reducible refine gate_callee (f := 10) rfl ?_); refine goesL_ (some 46) rfl rfl Tryd.func10 (by kernel_rfl) rfl #[.int .u8 61] rfl (by (try simp only [List.map_toArray, List.map_cons, List.map_nil]); first | done | rfl | (simp only [List.length_drop, List.length_take]; rfl)) ?_; (with_reducible refine (tmpl_Operator.calls 61 false _ A32.out).mono ?_); rintro e w' ⟨rfl, ⟨nd, rfl⟩⟩; refine ⟨_, rfl, ?_⟩) | (go_at_call 10; (with_reducible refine (tmpl_Operator.calls 44 true _ A35.out).mono ?_); rintro e w' ⟨rfl, ⟨nd, rfl⟩⟩))
                   go_ret
                   exact ⟨by first | rfl | (simp [errW_none, errW_some] <;> rfl) | (simp [*, errW_none, errW_some] <;> rfl), by repeat (first | (with_reducible first | exact HB.out | apply below_alloc | apply pw_below_drewN | apply below_drew1) | exact HB.out)⟩
               · replace c36 := Bool.eq_false_iff.mpr c36
                 subst c36
                 have H1 : ((tmpl_Operator.f 33).bind fun t194 => (if t194 = true then (if t173 = true then (some false) else (some false)) else ((tmpl_Operator.f 64).bind fun t195 => (if t195 = true then (if t173 = true then (some false) else (some false)) else ((tmpl_Operator.f 124).bind fun t196 => (if t173 = true then (if t196 = true then (some false) else (if ((t180 == 0) == x9_13) = true then (if x9_13 = true then (some true) else (if t179 = (wrap64 ((a0.size : Int) + 1)) then (some true) else (some (a1 == 37)))) else (some false))) else (some false))))))) = some r := by rw [if_neg (show ¬ (false = true) by decide)] at H; exact H
                 clear H
                 have H := H1
                 clear H1
                 replace H := Option.bind_eq_some_iff.mp H
                 obtain ⟨t194, A380, H⟩ := H
                 replace H : (if t194 = true then (if t173 = true then (some false) else (some false)) else ((tmpl_Operator.f 64).bind fun t195 => (if t195 = true then (if t173 = true then (some false) else (some false)) else ((tmpl_Operator.f 124).bind fun t196 => (if t173 = true then (if t196 = true then (some false) else (if ((t180 == 0) == x9_13) = true then (if x9_13 = true then (some true) else (if t179 = (wrap64 ((a0.size : Int) + 1)) then (some true) else (some (a1 == 37)))) else (some false))) else (some false)))))) = some r := H
                 have A38 := Aside0.mk A380
                 clear A380
                 by_cases c39 : t194 = true
                 · subst c39
                   have H1 : (if t173 = true then (some false) else (some false)) = some r := by rw [if_pos rfl] at H; exact H
                   clear H
                   have H := H1
                   clear H1
                   by_cases c40 : t173 = true
                   · subst c40
                     have H1 : (some false) = some r := by rw [if_pos rfl] at H; exact H
                     clear H
                     have H := H1
                     clear H1
                     obtain rfl := Option.some.inj H
                     go_wp2_with (first | ((with_reducible refine gate_callee (f := 10) rfl ?_); refine goesL_ (some 46) rfl rfl Tryd.func10 (by kernel_rfl) rfl #[.int .u8 61] rfl (by (try simp only [List.map_toArray, List.map_cons, List.map_nil]); first | done | rfl | (simp only [List.length_drop, List.length_take]; rfl)) ?_; (with_reducible refine (tmpl_Operator.calls 61 false _ A32.out).mono ?_); rintro e w' ⟨rfl, ⟨nd, rfl⟩⟩; refine ⟨_, rfl, ?_⟩) | (go_at_call 10; (with_reducible refine (tmpl_Operator.calls 44 false _ A35.out).mono ?_); rintro e w' ⟨rfl, ⟨nd, rfl⟩⟩) | (go_at_call 10; (with_reducible refine (tmpl_Operator.calls 33 true _ A38.out).mono ?_); rintro e w' ⟨rfl, ⟨nd, rfl⟩⟩))
                     go_ret
                     exact ⟨by first | rfl | (simp [errW_none, errW_some] <;> rfl) | (simp [*, errW_none, errW_some] <;> rfl), by repeat (first | (with_reducible first | exact HB.out | apply below_alloc | apply pw_below_drewN | apply below_drew1) | exact HB.out)⟩
                   · replace c40 := Bool.eq_false_iff.mpr c40
                     subst c40
                     have H1 : (some false) = some r := by rw [if_neg (show ¬ (false = true) by decide)] at H; exact H
                     clear H
                     have H := H1
                     clear H1
                     obtain rfl := Option.some.inj H
                     go_wp2_with (first | ((with_reducible refine gate_callee (f := 10) rfl ?_); refine goesL_ (some 46) rfl rfl Tryd.func10 (by kernel_rfl) rfl #[.int .u8 61] rfl (by (try simp only [List.map_toArray, List.map_cons, List.map_nil]); first | done | rfl | (simp only [List.length_drop, List.length_take]; rfl)) ?_; (with_reducible refine (tmpl_Operator.calls 61 false _ A32.out).mono ?_); rintro e w' ⟨rfl, ⟨nd, rfl⟩⟩; refine ⟨_, rfl, ?_⟩) | (go_at_call 10; (with_reducible refine (tmpl_Operator.calls 44 false _ A35.out).mono ?_); rintro e w' ⟨rfl, ⟨nd, rfl⟩⟩) | (go_at_call 10; (with_reducible refine (tmpl_Operator.calls 33 true _ A38.out).mono ?_); rintro e w' ⟨rfl, ⟨nd, rfl⟩⟩))
                     go_ret
                     exact ⟨by first | rfl | (simp [errW_none, errW_some] <;> rfl) | (simp [*, errW_none, errW_some] <;> rfl), by repeat (first | (with_reducible first | exact HB.out | apply below_alloc | apply pw_below_drewN | apply below_drew1) | exact HB.out)⟩
                 · replace c39 := Bool.eq_false_iff.mpr c39
                   subst c39
                   have H1 : ((tmpl_Operator.f 64).bind fun t195 => (if t195 = true then (if t173 = true then (some false) else (some false)) else ((tmpl_Operator.f 124).bind fun t196 => (if t173 = true then (if t196 = true then (some false) else (if ((t180 == 0) == x9_13) = true then (if x9_13 = true then (some true) else (if t179 = (wrap64 ((a0.size : Int) + 1)) then (some true) else (some (a1 == 37)))) else (some false))) else (some false))))) = some r := by rw [if_neg (show ¬ (false = true) by decide)] at H; exact H
                   clear H
                   have H := H1
                   clear H1
                   replace H := Option.bind_eq_some_iff.mp H
                   obtain ⟨t195, A410, H⟩ := H
                   replace H : (if t195 = true then (if t173 = true then (some false) else (some false)) else ((tmpl_Operator.f 124).bind fun t196 => (if t173 = true then (if t196 = true then (some false) else (if ((t180 == 0) == x9_13) = true then (if x9_13 = true then (some true) else (if t179 = (wrap64 ((a0.size : Int) + 1)) then (some true) else (some (a1 == 37)))) else (some false))) else (some false)))) = some r := H
                   have A41 := Aside0.mk A410
                   clear A410
                   by_cases c42 : t195 = true
                   · subst c42
                     have H1 : (if t173 = true then (some false) else (some false)) = some r := by rw [if_pos rfl] at H; exact H
                     clear H
                     have H := H1
                     clear H1
                     by_cases c43 : t173 = true
                     · subst c43
                       have H1 : (some false) = some r := by rw [if_pos rfl] at H; exact H
                       clear H
                       have H := H1
                       clear H1
                       obtain rfl := Option.some.inj H
                       go_wp2_with (first | ((with_reducible refine gate_callee (f := 10) rfl ?_); refine goesL_ (some 46) rfl rfl Tryd.func10 (by kernel_rfl) rfl #[.int .u8 61] rfl (by (try simp only [List.map_toArray, List.map_cons, List.map_nil]); first | done | rfl | (simp only [List.length_drop, List.length_take]; rfl)) ?_; (with_reducible refine (tmpl_Operator.calls 61 false _ A32.out).mono ?_); rintro e w' ⟨rfl, ⟨nd, rfl⟩⟩; refine ⟨_, rfl, ?_⟩) | (go_at_call 10; (with_reducible refine (tmpl_Operator.calls 44 false _ A35.out).mono ?_); rintro e w' ⟨rfl, ⟨nd, rfl⟩⟩) | (go_at_call 10; (with_reducible refine (tmpl_Operator.calls 33 false _ A38.out).mono ?_); rintro e w' ⟨rfl, ⟨nd, rfl⟩⟩) | (go_at_call 10; (with_reducible refine (tmpl_Operator.calls 64 true _ A41.out).mono ?_); rintro e w' ⟨rfl, ⟨nd, rfl⟩⟩))
                       go_ret
                       exact ⟨by first | rfl | (simp [errW_none, errW_some] <;> rfl) | (simp [*, errW_none, errW_some] <;> rfl), by repeat (first | (with_reducible first | exact HB.out | apply below_alloc | apply pw_below_drewN | apply below_drew1) | exact HB.out)⟩
                     · replace c43 := Bool.eq_false_iff.mpr c43
                       subst c43
                       have H1 : (some false) = some r := by rw [if_neg (show ¬ (false = true) by decide)] at H; exact H
                       clear H
                       have H := H1
                       clear H1
                       obtain rfl := Option.some.inj H
                       go_wp2_with (first | ((with_reducible refine gate_callee (f := 10) rfl ?_); refine goesL_ (some 46) rfl rfl Tryd.func10 (by kernel_rfl) rfl #[.int .u8 61] rfl (by (try simp only [List.map_toArray, List.map_cons, List.map_nil]); first | done | rfl | (simp only [List.length_drop, List.length_take]; rfl)) ?_; (with_reducible refine (tmpl_Operator.calls 61 false _ A32.out).mono ?_); rintro e w' ⟨rfl, ⟨nd, rfl⟩⟩; refine ⟨_, rfl, ?_⟩) | (go_at_call 10; (with_reducible refine (tmpl_Operator.calls 44 false _ A35.out).mono ?_); rintro e w' ⟨rfl, ⟨nd, rfl⟩⟩) | (go_at_call 10; (with_reducible refine (tmpl_Operator.calls 33 false _ A38.out).mono ?_); rintro e w' ⟨rfl, ⟨nd, rfl⟩⟩) | (go_at_call 10; (with_reducible refine (tmpl_Operator.calls 64 true _ A41.out).mono ?_); rintro e w' ⟨rfl, ⟨nd, rfl⟩⟩))
                       go_ret
                       exact ⟨by first | rfl | (simp [errW_none, errW_some] <;> rfl) | (simp [*, errW_none, errW_some] <;> rfl), by repeat (first | (with_reducible first | exact HB.out | apply below_alloc | apply pw_below_drewN | apply below_drew1) | exact HB.out)⟩
                   · replace c42 := Bool.eq_false_iff.mpr c42
                     subst c42
                     have H1 : ((tmpl_Operator.f 124).bind fun t196 => (if t173 = true then (if t196 = true then (some false) else (if ((t180 == 0) == x9_13) = true then (if x9_13 = true then (some true) else (if t179 = (wrap64 ((a0.size : Int) + 1)) then (some true) else (some (a1 == 37)))) else (some false))) else (some false))) = some r := by rw [if_neg (show ¬ (false = true) by decide)] at H; exact H
                     clear H
                     have H := H1
                     clear H1
                     replace H := Option.bind_eq_some_iff.mp H
                     obtain ⟨t196, A440, H⟩ := H
                     replace H : (if t173 = true then (if t196 = true then (some false) else (if ((t180 == 0) == x9_13) = true then (if x9_13 = true then (some true) else (if t179 = (wrap64 ((a0.size : Int) + 1)) then (some true) else (some (a1 == 37)))) else (some false))) else (some false)) = some r := H
                     have A44 := Aside0.mk A440
                     clear A440
                     by_cases c45 : t173 = true
                     · subst c45
                       have H1 : (if t196 = true then (some false) else (if ((t180 == 0) == x9_13) = true then (if x9_13 = true then (some true) else (if t179 = (wrap64 ((a0.size : Int) + 1)) then (some true) else (some (a1 == 37)))) else (some false))) = some r := by rw [if_pos rfl] at H; exact H
                       clear H
                       have H := H1
                       clear H1
                       by_cases c46 : t196 = true
                       · subst c46
                         have H1 : (some false) = some r := by rw [if_pos rfl] at H; exact H
                         clear H
                         have H := H1
                         clear H1
                         obtain rfl := Option.some.inj H
                         go_wp2_with (first | ((with_reducible refine gate_callee (f := 10) rfl ?_); refine goesL_ (some 46) rfl rfl Tryd.func10 (by kernel_rfl) rfl #[.int .u8 61] rfl (by (try simp only [List.map_toArray, List.map_cons, List.map_nil]); first | done | rfl | (simp only [List.length_drop, List.length_take]; rfl)) ?_; (with_reducible refine (tmpl_Operator.calls 61 false _ A32.out).mono ?_); rintro e w' ⟨rfl, ⟨nd, rfl⟩⟩; refine ⟨_, rfl, ?_⟩) | (go_at_call 10; (with_reducible refine (tmpl_Operator.calls 44 false _ A35.out).mono ?_); rintro e w' ⟨rfl, ⟨nd, rfl⟩⟩) | (go_at_call 10; (with_reducible refine (tmpl_Operator.calls 33 false _ A38.out).mono ?_); rintro e w' ⟨rfl, ⟨nd, rfl⟩⟩) | (go_at_call 10; (with_reducible refine (tmpl_Operator.calls 64 false _ A41.out).mono ?_); rintro e w' ⟨rfl, ⟨nd, rfl⟩⟩) | (go_at_call 10; (with_reducible refine (tmpl_Operator.calls 124 true _ A44.out).mono ?_); rintro e w' ⟨rfl, ⟨nd, rfl⟩⟩))
                         go_ret
                         exact ⟨by first | rfl | (simp [errW_none, errW_some] <;> rfl) | (simp [*, errW_none, errW_some] <;> rfl), by repeat (first | (with_reducible first | exact HB.out | apply below_alloc | apply pw_below_drewN | apply below_drew1) | exact HB.out)⟩
                       · replace c46 := Bool.eq_false_iff.mpr c46
                         subst c46
                         have H1 : (if ((t180 == 0) == x9_13) = true then (if x9_13 = true then (some true) else (if t179 = (wrap64 ((a0.size : Int) + 1)) then (some true) else (some (a1 == 37)))) else (some false)) = some r := by rw [if_neg (show ¬ (false = true) by decide)] at H; exact H
                         clear H
                         have H := H1
                         clear H1
                         by_cases c47 : ((t180 == 0) == x9_13) = true
                         · rw [if_pos c47] at H
                           have c47b0 : ((t180 == 0) == x9_13) = true := c47
                           (try (have c47b1 : decide ((t180 == 0) = x9_13) = true := by simpa using c47))
                           (try (have c47b2 : ((t180 == 0) == x9_13) = true := by simpa using c47))
                           clear c47
                           by_cases c48 : x9_13 = true
                           · subst c48
                             have H1 : (some true) = some r := by rw [if_pos rfl] at H; exact H
                             clear H
                             have H := H1
                             clear H1
                             obtain rfl := Option.some.inj H
                             go_wp2_with (first | ((with_reducible refine gate_callee (f := 10) rfl ?_); refine goesL_ (some 46) rfl rfl Tryd.func10 (by kernel_rfl) rfl #[.int .u8 61] rfl (by (try simp only [List.map_toArray, List.map_cons, List.map_nil]); first | done | rfl | (simp only [List.length_drop, List.length_take]; rfl)) ?_; (with_reducible refine (tmpl_Operator.calls 61 false _ A32.out).mono ?_); rintro e w' ⟨rfl, ⟨nd, rfl⟩⟩; refine ⟨_, rfl, ?_⟩) | (go_at_call 10; (with_reducible refine (tmpl_Operator.calls 44 false _ A35.out).mono ?_); rintro e w' ⟨rfl, ⟨nd, rfl⟩⟩) | (go_at_call 10; (with_reducible refine (tmpl_Operator.calls 33 false _ A38.out).mono ?_); rintro e w' ⟨rfl, ⟨nd, rfl⟩⟩) | (go_at_call 10; (with_reducible refine (tmpl_Operator.calls 64 false _ A41.out).mono ?_); rintro e w' ⟨rfl, ⟨nd, rfl⟩⟩) | (go_at_call 10; (with_reducible refine (tmpl_Operator.calls 124 false _ A44.out).mono ?_); rintro e w' ⟨rfl, ⟨nd, rfl⟩⟩))
                             go_ret
                             exact ⟨by first | rfl | (simp [errW_none, errW_some] <;> rfl) | (simp [*, errW_none, errW_some] <;> rfl), by repeat (first | (with_reducible first | exact HB.out | apply below_alloc | apply pw_below_drewN | apply below_drew1) | exact HB.out)⟩
                           · replace c48 := Bool.eq_false_iff.mpr c48
                             subst c48
                             have H1 : (if t179 = (wrap64 ((a0.size : Int) + 1)) then (some true) else (some (a1 == 37))) = some r := by rw [if_neg (show ¬ (false = true) by decide)] at H; exact H
                             clear H
                             have H := H1
                             clear H1
                             by_cases c49 : t179 = (wrap64 ((a0.size : Int) + 1))
                             · rw [if_pos c49] at H
                               have c49b0 : (t179 == (wrap64 ((a0.size : Int) + 1))) = true := beq_iff_eq.mpr c49
                               have c49b1 : (t179 != (wrap64 ((a0.size : Int) + 1))) = false := bne_eq_false_iff_eq.mpr c49
                               clear c49
                               obtain rfl := Option.some.inj H
                               go_wp2_with (first | ((with_reducible refine gate_callee (f := 10) rfl ?_); refine goesL_ (some 46) rfl rfl Tryd.func10 (by kernel_rfl) rfl #[.int .u8 61] rfl (by (try simp only [List.map_toArray, List.map_cons, List.map_nil]); first | done | rfl | (simp only [List.length_drop, List.length_take]; rfl)) ?_; (with_reducible refine (tmpl_Operator.calls 61 false _ A32.out).mono ?_); rintro e w' ⟨rfl, ⟨nd, rfl⟩⟩; refine ⟨_, rfl, ?_⟩) | (go_at_call 10; (with_reducible refine (tmpl_Operator.calls 44 false _ A35.out).mono ?_); rintro e w' ⟨rfl, ⟨nd, rfl⟩⟩) | (go_at_call 10; (with_reducible refine (tmpl_Operator.calls 33 false _ A38.out).mono ?_); rintro e w' ⟨rfl, ⟨nd, rfl⟩⟩) | (go_at_call 10; (with_reducible refine (tmpl_Operator.calls 64 false _ A41.out).mono ?_); rintro e w' ⟨rfl, ⟨nd, rfl⟩⟩) | (go_at_call 10; (with_reducible refine (tmpl_Operator.calls 124 false _ A44.out).mono ?_); rintro e w' ⟨rfl, ⟨nd, rfl⟩⟩))
                               go_ret
                               exact ⟨by first | rfl | (simp [errW_none, errW_some] <;> rfl) | (simp [*, errW_none, errW_some] <;> rfl), by repeat (first | (with_reducible first | exact HB.out | apply below_alloc | apply pw_below_drewN | apply below_drew1) | exact HB.out)⟩
                             · rw [if_neg c49] at H
                               have c49b0 : (t179 == (wrap64 ((a0.size : Int) + 1))) = false := beq_eq_false_iff_ne.mpr c49
                               have c49b1 : (t179 != (wrap64 ((a0.size : Int) + 1))) = true := bne_iff_ne.mpr c49
                               obtain rfl := Option.some.inj H
                               go_wp2_with (first | ((with_reducible refine gate_callee (f := 10) rfl ?_); refine goesL_ (some 46) rfl rfl Tryd.func10 (by kernel_rfl) rfl #[.int .u8 61] rfl (by (try simp only [List.map_toArray, List.map_cons, List.map_nil]); first | done | rfl | (simp only [List.length_drop, List.length_take]; rfl)) ?_; (with_reducible refine (tmpl_Operator.calls 61 false _ A32.out).mono ?_); rintro e w' ⟨rfl, ⟨nd, rfl⟩⟩; refine ⟨_, rfl, ?_⟩) | (go_at_call 10; (with_reducible refine (tmpl_Operator.calls 44 false _ A35.out).mono ?_); rintro e w' ⟨rfl, ⟨nd, rfl⟩⟩) | (go_at_call 10; (with_reducible refine (tmpl_Operator.calls 33 false _ A38.out).mono ?_); rintro e w' ⟨rfl, ⟨nd, rfl⟩⟩) | (go_at_call 10; (with_reducible refine (tmpl_Operator.calls 64 false _ A41.out).mono ?_); rintro e w' ⟨rfl, ⟨nd, rfl⟩⟩) | (go_at_call 10; (with_reducible refine (tmpl_Operator.calls 124 false _ A44.out).mono ?_); rintro e w' ⟨rfl, ⟨nd, rfl⟩⟩))
                               go_ret
                               exact ⟨by first | rfl | (simp [errW_none, errW_some] <;> rfl) | (simp [*, errW_none, errW_some] <;> rfl), by repeat (first | (with_reducible first | exact HB.out | apply below_alloc | apply pw_below_drewN | apply below_drew1) | exact HB.out)⟩
                         · rw [if_neg c47] at H
                           have c47b0 : ((t180 == 0) == x9_13) = false := by simpa using c47
                           (try (have c47b1 : decide ((t180 == 0) = x9_13) = false := by simpa using c47))
                           (try (have c47b2 : ((t180 == 0) == x9_13) = false := by simpa using c47))
                           (try (have c47b3 : ¬ ((t180 == 0) = x9_13) := by simpa using c47))
                           clear c47
                           obtain rfl := Option.some.inj H
                           go_wp2_with (first | ((with_reducible refine gate_callee (f := 10) rfl ?_); refine goesL_ (some 46) rfl rfl Tryd.func10 (by kernel_rfl) rfl #[.int .u8 61] rfl (by (try simp only [List.map_toArray, List.map_cons, List.map_nil]); first | done | rfl | (simp only [List.length_drop, List.length_take]; rfl)) ?_; (with_reducible refine (tmpl_Operator.calls 61 false _ A32.out).mono ?_); rintro e w' ⟨rfl, ⟨nd, rfl⟩⟩; refine ⟨_, rfl, ?_⟩) | (go_at_call 10; (with_reducible refine (tmpl_Operator.calls 44 false _ A35.out).mono ?_); rintro e w' ⟨rfl, ⟨nd, rfl⟩⟩) | (go_at_call 10; (with_reducible refine (tmpl_Operator.calls 33 false _ A38.out).mono ?_); rintro e w' ⟨rfl, ⟨nd, rfl⟩⟩) | (go_at_call 10; (with_reducible refine (tmpl_Operator.calls 64 false _ A41.out).mono ?_); rintro e w' ⟨rfl, ⟨nd, rfl⟩⟩) | (go_at_call 10; (with_reducible refine (tmpl_Operator.calls 124 false _ A44.out).mono ?_); rintro e w' ⟨rfl, ⟨nd, rfl⟩⟩))
                           go_ret
                           exact ⟨by first | rfl | (simp [errW_none, errW_some] <;> rfl) | (simp [*, errW_none, errW_some] <;> rfl), by repeat (first | (with_reducible first | exact HB.out | apply below_alloc | apply pw_below_drewN | apply below_drew1) | exact HB.out)⟩
                     · replace c45 := Bool.eq_false_iff.mpr c45
                       subst c45
                       have H1 : (some false) = some r := by rw [if_neg (show ¬ (false = true) by decide)] at H; exact H
                       clear H
                       have H := H1
                       clear H1
                       obtain rfl := Option.some.inj H
                       go_wp2_with (first | ((with_reducible refine gate_callee (f := 10) rfl ?_); refine goesL_ (some 46) rfl rfl Tryd.func10 (by kernel_rfl) rfl #[.int .u8 61] rfl (by (try simp only [List.map_toArray, List.map_cons, List.map_nil]); first | done | rfl | (simp only [List.length_drop, List.length_take]; rfl)) ?_; (with_reducible refine (tmpl_Operator.calls 61 false _ A32.out).mono ?_); rintro e w' ⟨rfl, ⟨nd, rfl⟩⟩; refine ⟨_, rfl, ?_⟩) | (go_at_call 10; (with_reducible refine (tmpl_Operator.calls 44 false _ A35.out).mono ?_); rintro e w' ⟨rfl, ⟨nd, rfl⟩⟩) | (go_at_call 10; (with_reducible refine (tmpl_Operator.calls 33 false _ A38.out).mono ?_); rintro e w' ⟨rfl, ⟨nd, rfl⟩⟩) | (go_at_call 10; (with_reducible refine (tmpl_Operator.calls 64 false _ A41.out).mono ?_); rintro e w' ⟨rfl, ⟨nd, rfl⟩⟩) | (go_at_call 10; (with_reducible refine (tmpl_Operator.calls 124 t196 _ A44.out).mono ?_); rintro e w' ⟨rfl, ⟨nd, rfl⟩⟩))
                       go_ret
                       exact ⟨by first | rfl | (simp [errW_none, errW_some] <;> rfl) | (simp [*, errW_none, errW_some] <;> rfl), by repeat (first | (with_reducible first | exact HB.out | apply below_alloc | apply pw_below_drewN | apply below_drew1) | exact HB.out)⟩
         · rw [if_neg c12] at H
           exact absurd H (by simp)
       · rw [if_neg c11] at H
         exact absurd H (by simp)
     · rw [if_neg c10] at H
       exact absurd H (by simp)
end Go.Proofs.YtkipkbggnfllkaaDoor.P
end
section
namespace Go.Proofs.YtkipkbggnfllkaaDoor.P
open Go.RowKit Go.Proofs.YtkipkbggnfllkaaDoorW.PrintWords Go.Proofs.YtkipkbggnfllkaaDoorW.PrintLast Go.Proofs.YtkipkbggnfllkaaDoorW.PrintMore
set_option linter.unusedVariables false
theorem lit_awake_ev : Ev (fun k => lw_awake.f k) true := Ev.of (fun k => lw_awake.mono k) (show lw_awake.f 60 = some true by kernel_rfl)
theorem ref_literal_from : ∀ (n : Nat) (s : ByteArray), s.size ≤ n → s.size ≤ 1099511627776 → ∃ r, Ev (fun k => rf07_Literal.l0 k s) r ∧ (r = true → run step .top (bs s) = some .top) := by
 intro n
 induction n with
 | zero =>
  intro s hn hs
  rcases bs_cases s with ⟨-, g2, g3⟩ | ⟨b, r, -, -, -, g4, -⟩
  · exact ⟨true, Ev.step (f := fun _ => some true) (fun k => by simp only [rf07_Literal.l0]; rw [if_pos g3]) (Ev.now _), fun _ => by rw [g2]; rfl⟩
  · omega
 | succ n ih =>
  intro s hn hs
  rcases bs_cases s with ⟨-, g2, g3⟩ | ⟨b, r, hb, g2, g3, g4, g5, g6, g7⟩
  · exact ⟨true, Ev.step (f := fun _ => some true) (fun k => by simp only [rf07_Literal.l0]; rw [if_pos g3]) (Ev.now _), fun _ => by rw [g2]; rfl⟩
  · have hp := ref_piece s hs
    by_cases h0 : pieceN (bs s) = 0
    · rw [h0] at hp
      refine ⟨false, Ev.step (f := fun k => (rf07_Piece.f k s).bind fun t => if t = 0 then some false else (if 0 ≤ t then (if t ≤ (s.size : Int) then rf07_Literal.l0 k (s.extract t.toNat s.size) else none) else none)) (fun k => by simp only [rf07_Literal.l0]; rw [if_neg g6]) (hp.bind (Ev.pos rfl (Ev.now _))), fun h => by cases h⟩
    · obtain ⟨q1, q2, -⟩ := piece_top h0
      rw [bs_length] at q1
      obtain ⟨r', h1, h2⟩ := ih (s.extract (pieceN (bs s)) s.size) (by rw [bs_size_from]; omega) (by rw [bs_size_from]; omega)
      rw [bs_from] at h2
      refine ⟨r', Ev.step (f := fun k => (rf07_Piece.f k s).bind fun t => if t = 0 then some false else (if 0 ≤ t then (if t ≤ (s.size : Int) then rf07_Literal.l0 k (s.extract t.toNat s.size) else none) else none)) (fun k => by simp only [rf07_Literal.l0]; rw [if_neg g6]) (hp.bind (Ev.neg (by omega) (Ev.pos (by omega) (Ev.pos (by omega) ?_)))), fun h => ?_⟩
      · rw [Int.toNat_natCast]
        exact h1
      · conv => lhs; rw [← List.take_append_drop (pieceN (bs s)) (bs s)]
        rw [run_append, q2, Option.bind_some]
        exact h2 h
theorem ref_literal (s : ByteArray) (hs : s.size ≤ 1099511627776) : ∃ r, Ev (fun k => rf07_Literal.f k s) r ∧ (r = true → run step .top (bs s) = some .top) := by
 unfold rf07_Literal.f
 by_cases h : s.toList = ([] : List UInt8)
 · exact ⟨false, Ev.pos h (Ev.now _), fun g => by cases g⟩
 · obtain ⟨r, h1, h2⟩ := ref_literal_from s.size s (Nat.le_refl _) hs
   exact ⟨r, Ev.neg h h1, h2⟩
def isTop : Option Q → Bool
 | some .top => true
 | _ => false
theorem isTop_iff (q : Option Q) : isTop q = true ↔ q = some .top := by
 cases q with
 | none => simp [isTop]
 | some q => cases q <;> simp [isTop]
theorem brace_top {c : Nat} (h : c < 256) : isTop (run step .e0 [c, 97, 125]) = (isOp c || isWord c) ∧ ((isOp c || isWord c) = false → c ≠ 37 → far step .e0 [c, 97, 125] = 0) ∧ nameFrom .ns [c, 97] = isWord c := by
 have : ∀ b : Fin 256, isTop (run step .e0 [b.1, 97, 125]) = (isOp b.1 || isWord b.1) ∧ ((isOp b.1 || isWord b.1) = false → b.1 ≠ 37 → far step .e0 [b.1, 97, 125] = 0) ∧ nameFrom .ns [b.1, 97] = isWord b.1 := by decide +kernel
 exact this ⟨c, h⟩
theorem reserved_j1 (k : Nat) (s : ByteArray) (c n e : Int) (r : Bool) : lw_TmplReserved.j1 (k + 1) s c true n e r = some (if ((e == 0) == r) = true then (if r = true then true else (if n = (wrap64 ((s.size : Int) + 1)) then true else (c == 37))) else false) := by
 have o1 : tmpl_Operator.f 61 = some false := by kernel_rfl
 have o2 : tmpl_Operator.f 44 = some false := by kernel_rfl
 have o3 : tmpl_Operator.f 33 = some false := by kernel_rfl
 have o4 : tmpl_Operator.f 64 = some false := by kernel_rfl
 have o5 : tmpl_Operator.f 124 = some false := by kernel_rfl
 simp only [lw_TmplReserved.j1, o1, o2, o3, o4, o5, Option.bind_some, Bool.false_eq_true, if_false, if_true]
 split
 · split
   · rfl
   · split <;> rfl
 · rfl
theorem reserved_pure (s : ByteArray) (c : Int) (hc : 0 ≤ c ∧ c ≤ 255) : ∃ k, lw_TmplReserved.f k s c = some true := by
 refine Ev.rounds (g := fun k => lw_TmplReserved.f k s c) ?_
 unfold lw_TmplReserved.f
 refine lit_awake_ev.bind ?_
 have hout : Ev (fun k => lw_TmplReserved.j0 k s c true true) true := Ev.step (f := fun _ => some true) (fun k => by simp only [lw_TmplReserved.j0]; rw [if_pos trivial]) (Ev.now _)
 by_cases hs : (s.size : Int) > 100
 · exact Ev.pos hs hout
 refine Ev.neg hs ?_
 obtain ⟨lit, hl1, hl2⟩ := ref_literal s (by omega)
 refine hl1.bind ?_
 cases lit with
 | false => exact hout
 | true =>
  have hrun := hl2 rfl
  obtain ⟨b, hb⟩ : ∃ b : Nat, c = (b : Int) := ⟨c.toNat, by omega⟩
  have hb256 : b < 256 := by omega
  subst hb
  have hy : bs (strOfNums [(b : Int)]) = [b] := by
   rw [bs_strOfNums]
   · simp
   · intro x hx
     simp at hx
     omega
  have hys : (strOfNums [(b : Int)]).size = 1 := by rw [strOfNums_size]; rfl
  have e1 : (s ++ (⟨#[123]⟩ : ByteArray)).size = s.size + 1 := by rw [ByteArray.size_append]; rfl
  have e2 : ((s ++ (⟨#[123]⟩ : ByteArray)) ++ strOfNums [(b : Int)]).size = s.size + 2 := by rw [ByteArray.size_append, e1, hys]
  have e3 : (((s ++ (⟨#[123]⟩ : ByteArray)) ++ strOfNums [(b : Int)]) ++ (⟨#[97, 125]⟩ : ByteArray)).size = s.size + 4 := by rw [ByteArray.size_append, e2]; rfl
  have hbs : bs (((s ++ (⟨#[123]⟩ : ByteArray)) ++ strOfNums [(b : Int)]) ++ (⟨#[97, 125]⟩ : ByteArray)) = bs s ++ (123 :: [b, 97, 125]) := by
   rw [bs_append, bs_append, bs_append, hy, List.append_assoc, List.append_assoc]
   rfl
  obtain ⟨ps, e, h1, h2, h3⟩ := prog_parse1 (((s ++ (⟨#[123]⟩ : ByteArray)) ++ strOfNums [(b : Int)]) ++ (⟨#[97, 125]⟩ : ByteArray)) (by omega)
  rw [hbs] at h1 h2 h3
  obtain ⟨b1, b2, b3⟩ := brace_top hb256
  have hr : run step .top (bs s ++ (123 :: [b, 97, 125])) = run step .e0 [b, 97, 125] := by rw [run_append, hrun, Option.bind_some, run_some step_open_brace]
  have hf : far step .top (bs s ++ (123 :: [b, 97, 125])) = s.size + (far step .e0 [b, 97, 125] + 1) := by rw [far_append _ _ hrun, far_some step_open_brace, bs_length]
  have hmay : Ev (fun k => rf05_May.f k (strOfNums [(b : Int)] ++ (⟨#[97]⟩ : ByteArray))) (isWord b) := by
   have := ref_may (strOfNums [(b : Int)] ++ (⟨#[97]⟩ : ByteArray))
   rw [bs_append, hy] at this
   rw [← b3]
   exact this
  have hw0 : isWord 0 = false := by decide
  have hfin : ∀ r, r = (isOp b || isWord b) → Ev (fun k => lw_TmplReserved.j1 k s (b : Int) true ((far step .top (bs s ++ (123 :: [b, 97, 125])) : Nat) : Int) e r) true := by
   intro r hr2
   refine Ev.step (f := fun _ => some _) (fun k => reserved_j1 k s _ _ _ _) ?_
   have : (if ((e == 0) == r) = true then (if r = true then true else (if ((far step .top (bs s ++ (123 :: [b, 97, 125])) : Nat) : Int) = (wrap64 ((s.size : Int) + 1)) then true else ((b : Int) == 37))) else false) = true := by
    cases hg : (isOp b || isWord b) with
    | true =>
     rw [hg] at b1 hr2
     obtain ⟨he, -⟩ := h2 (by rw [hr]; exact (isTop_iff _).1 b1)
     rw [hr2, he]
     rfl
    | false =>
     rw [hg] at b1 hr2
     obtain ⟨he, -⟩ := h3 (by rw [hr]; intro g; rw [(isTop_iff _).2 g] at b1; cases b1)
     rw [hr2, he, if_pos (by decide), if_neg (by decide)]
     by_cases h37 : b = 37
     · split
       · rfl
       · rw [beq_iff_eq]
         omega
     · rw [hf, b2 hg h37, if_pos]
       rw [w64 (by omega) (by omega)]
       omega
   rw [this]
   exact Ev.now _
  refine Ev.step (f := fun k => (tmpl_Parse.f k (((s ++ (⟨#[123]⟩ : ByteArray)) ++ strOfNums [(b : Int)]) ++ (⟨#[97, 125]⟩ : ByteArray))).bind fun bt178 => (if (b : Int) = 0 then ((rf05_May.f k (strOfNums [(b : Int)] ++ (⟨#[97]⟩ : ByteArray))).bind fun t186 => (lw_TmplReserved.j1 k s (b : Int) true bt178.2.1 bt178.2.2 t186)) else ((tmpl_Operator.f (b : Int)).bind fun t187 => (if t187 = true then (lw_TmplReserved.j1 k s (b : Int) true bt178.2.1 bt178.2.2 true) else ((rf05_May.f k (strOfNums [(b : Int)] ++ (⟨#[97]⟩ : ByteArray))).bind fun t191 => (lw_TmplReserved.j1 k s (b : Int) true bt178.2.1 bt178.2.2 t191)))))) (fun k => ?_) ?_
  · have c1 : (s.size + 1 ≤ 9223372036854775807) = True := eq_true (by omega)
    have c2 : (s.size + 1 + 1 ≤ 9223372036854775807) = True := eq_true (by omega)
    have c3 : (s.size + 2 + 2 ≤ 9223372036854775807) = True := eq_true (by omega)
    have c4 : ((1 : Nat) + 1 ≤ 9223372036854775807) = True := eq_true (by omega)
    simp only [lw_TmplReserved.j0, Bool.not_true, Bool.false_eq_true, if_false, Option.bind_some, e1, e2, hys, c1, c2, c3, c4, if_true]
  · refine h1.bind ?_
    by_cases hb0 : b = 0
    · refine Ev.pos (by omega) (hmay.bind (hfin _ ?_))
      subst hb0
      rfl
    · refine Ev.neg (by omega) ?_
      rw [prog_oper hb256, beq_eq_false_iff_ne.2 hb0, Bool.false_or]
      cases ho : isOp b with
      | true =>
       simp only [Option.bind_some]
       refine Ev.pos trivial (hfin true ?_)
       rw [ho, Bool.true_or]
      | false =>
       simp only [Option.bind_some]
       refine Ev.neg (by simp) (hmay.bind (hfin _ ?_))
       rw [ho, Bool.false_or]
end Go.Proofs.YtkipkbggnfllkaaDoor.P
end
section
namespace Go.Proofs.YtkipkbggnfllkaaDoor
open Go.ChangeShapes Go.WideShapes Go.ChangeAt Go.RowKit
open Go.ChangeMaps (open_string shut_string)
set_option linter.unusedVariables false
set_option maxRecDepth 100000
theorem reserved_law (s0 : ByteArray) (s1 : Int) (h1 : 0 ≤ s1 ∧ s1 ≤ 255) (w : World) (hG : P.Gl w) : Calls Tryd.prog 4 #[.string s0, .int .u8 s1] w fun e w' => e = .returned (.bool true) ∧ Below w.heap.size w w' := by
 obtain ⟨k, hk⟩ := P.reserved_pure s0 s1 h1
 exact P.lw_TmplReserved.calls k s0 s1 true w hG hk
theorem reserved_own : ownKnob Tryd.prog.godebug = none := by kernel_rfl
theorem reserved_lifted (os : Os) (started : os.Started) (H : Type) (enc : TypeId × Value → H) :
 ReturnsInHanded {} Tryd.checked os 4 .any (fun w args => (Rows.tmplReservedSpec.pre enc Tryd.prog Tryd.f4 [] false w args ∧ laidMetH Tryd.prog Rows.tmplReservedRow.laid w) ∧ sizedMet enc Tryd.prog Tryd.f4 (OpenSpec.ofChange Rows.tmplReservedSpec) false w args)
  (Rows.tmplReservedSpec.post enc Tryd.prog Tryd.f4 false true false false) := by
 refine returnsInHanded_of_change_and (C := Tryd.checked) (X := fun w _ => laidMetH Tryd.prog Rows.tmplReservedRow.laid w) (fun _ _ _ hh h => h.of_heap hh) reserved_own started (by kernel_rfl) Tryd.func4
  (ChangeSpec.witness_shaped (enc := enc) (C := Tryd.checked) (os := os) (X := fun w _ => laidMetH Tryd.prog Rows.tmplReservedRow.laid w) false (World.laidAll Tryd.prog os Rows.tmplReservedRow.laid) #[.string ByteArray.empty, .int .u8 0] 8 (World.laidAll_os _ _ _)
   (World.shaped_of_ZipB (by kernel_rfl) (by kernel_rfl)) (by kernel_rfl) (by kernel_rfl) (by kernel_rfl)
   (by rw [MakeChecks.laidMetH_plain _ _ _ (by kernel_rfl)]; exact laidMet_laidAll _ (by kernel_rfl) (by kernel_rfl))) ?_
 intro W base args ds gs before hval0 hW _ _ hX _
 have hval : ∀ (j : Nat) t v, Tryd.f4.params[j]? = some t → args[j]? = some v → Value.okWide Tryd.prog W .any base t v := hval0
 have hW' := hW
 obtain ⟨p, q, hA0, hV, rfl, _, _⟩ := hW
 have hA : DataW.TrodAll enc Tryd.prog W 0 (fun _ => true) true Tryd.f4.params.toList args.toList ds p := hA0
 rw [Tryd.params4] at hA hval
 obtain ⟨v0, v1, d0, d1, p0, p1, rfl, rfl, rfl, h0, h1⟩ := trodAll_two hA
 obtain ⟨rfl, rfl⟩ := trodVars_none hV
 obtain ⟨x0, rfl, rfl, rfl, y0⟩ := open_string Tryd.underlying9 (hval 0 9 v0 rfl rfl) h0
 obtain ⟨x1, rfl, rfl, rfl, y1⟩ := open_int Tryd.underlying5 (hval 1 5 v1 rfl rfl) h1
 simp only [List.append_nil] at hW'
 rw [MakeChecks.laidMetH_plain _ _ _ (by kernel_rfl)] at hX
 refine (reserved_law x0 x1 (by have h := y1; simp [Lit.wf, IntKind.min, IntKind.max, IntKind.signed, IntKind.bits] at h; omega) W (gl_of_laid hX)).mono fun e W' ⟨he, hb⟩ => ?_
 subst he
 exact ⟨_, rfl, _, _, _, [], [], [], hW', trodAll_mk1 (shut_bool Tryd.underlying4 _), trodAll_mk2 (shut_string Tryd.underlying9 y0) (shut_int Tryd.underlying5 y1), rfl, hb.frame _, fun h => by cases h⟩
theorem reserved_holds : Rows.TmplReservedSaid :=
 OpenClaim.holds_of_wide 4 Tryd.f4 rfl rfl rfl rfl rfl rfl rfl ⟨rfl, rfl, rfl, rfl, rfl⟩ rfl rfl rfl rfl rfl (by kernel_rfl) Tryd.func4 (by kernel_rfl)
  (of_decide_eq_true (by kernel_rfl)) (by unfold Func.isWrapper; first | (rw [if_pos (by decide +kernel)]; kernel_rfl) | (rw [if_neg (by decide +kernel)]; exact ⟨rfl, rfl⟩))
  (fun os started H enc _ => reserved_lifted os started H enc)
theorem reserved_card : Rows.TmplReservedCardSaid :=
 Claim7.holds_tied_plain_at .later [] [.data, .data, .data, .sentinel, .sentinel] true _ true
  reserved_holds (fun _ h => by cases h) (by kernel_rfl) (fun _ h => by cases h) tmplReserved_row_tie rfl ⟨rfl, rfl⟩ (by kernel_rfl) rfl
  (fun f fn hf hfn => by
   have e1 : f = 4 := Option.some.inj (hf.symm.trans (by kernel_rfl))
   subst e1
   obtain rfl : fn = Tryd.f4 := (Option.some.inj (Tryd.func4.symm.trans hfn)).symm
   exact ⟨by kernel_rfl, fun j t ht => by
    rw [Tryd.params4] at ht
    have hm : t ∈ [9, 5] := by simpa using Array.mem_of_getElem? ht
    simp only [List.mem_cons, List.not_mem_nil, or_false] at hm
    rcases hm with rfl | rfl
    · exact (show Tryd.prog.wantsStandIn 9 = false by kernel_rfl)
    · exact (show Tryd.prog.wantsStandIn 5 = false by kernel_rfl)⟩)
  (by kernel_rfl)
end Go.Proofs.YtkipkbggnfllkaaDoor
end
