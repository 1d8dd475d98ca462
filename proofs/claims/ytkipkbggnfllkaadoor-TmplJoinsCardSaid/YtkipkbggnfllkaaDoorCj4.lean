/- The law TmplJoins of the package phalaropelaw07 holds of every two texts: a template, and another one behind it, is one, and has both's variables. Condition: the laid variables of strconv hold what their makers laid (the card's own condition). -/
import Derived.Test.YtkipkbggnfllkaaDoorCj3
import Derived.ChangeMaps5
section
namespace Go.Proofs.YtkipkbggnfllkaaDoor.P
open Go.RowKit Go.Proofs.YtkipkbggnfllkaaDoorW.PrintWords Go.Proofs.YtkipkbggnfllkaaDoorW.PrintLast Go.Proofs.YtkipkbggnfllkaaDoorW.PrintMore
attribute [local go_sem] max2_int min2_int max_two min_two max_three min_three max_four min_four
set_option linter.unusedVariables false
set_option linter.unusedSimpArgs false
mutual
def lw_TmplJoins.j0 : Nat → ByteArray → ByteArray → Bool → Bool → Option (Bool)
 | 0, _, _, _, _ => none
 | k + 1, x0, x1, x5, x24 => if x24 = true then (some x5) else ((tmpl_Parse.f k x0).bind fun bt228 => ((tmpl_Parse.f k x1).bind fun bt233 => (if x0.size + x1.size ≤ 9223372036854775807 then ((tmpl_Parse.f k (x0 ++ x1)).bind fun bt238 => (if bt228.2.2 = 0 then (lw_TmplJoins.j1 k x5 bt228.1 bt233.1 bt238.1 bt238.2.2 (bt233.2.2 != 0)) else (lw_TmplJoins.j1 k x5 bt228.1 bt233.1 bt238.1 bt238.2.2 true))) else (none))))
def lw_TmplJoins.j1 : Nat → Bool → List (S41) → List (S41) → List (S41) → Int → Bool → Option (Bool)
 | 0, _, _, _, _, _, _ => none
 | k + 1, x5, x6, x9, x12, x14, x51 => if x51 = true then (some x5) else ((some (([] : List (S41)) : List (S41))).bind fun y243 => (if y243.length + x6.length < 2932031007402 then ((some (y243 ++ x6 : List (S41))).bind fun y246 => (if y246.length + x9.length < 2932031007402 then ((some (y246 ++ x9 : List (S41))).bind fun y249 => (if x5 = true then (if x14 = 0 then ((tmpl_Names.f k x12).bind fun t252 => ((rf07_Names.f k y249).bind fun t255 => ((rf05_Texts.f k t252 t255).bind fun t258 => (if t258 = true then ((tmpl_Once.f k x12).bind fun t259 => ((tmpl_Once.f k y249).bind fun t260 => (some (t259 == t260)))) else (some false))))) else (some false)) else (some false))) else (none))) else (none)))
end
def lw_TmplJoins.f (k : Nat) (a0 : ByteArray) (a1 : ByteArray) : Option (Bool) := (lw_awake.f k).bind fun t227 => (if (a0.size : Int) > 100 then (lw_TmplJoins.j0 k a0 a1 t227 true) else (lw_TmplJoins.j0 k a0 a1 t227 (decide ((a1.size : Int) > 100))))
set_option maxHeartbeats 8000000 in
set_option maxRecDepth 100000 in
theorem lw_TmplJoins.calls (k : Nat) (a0 : ByteArray) (a1 : ByteArray) (r : Bool) (w : World) (hG : Gl w) (h : lw_TmplJoins.f k a0 a1 = some r) :
 Calls Tryd.prog 5 #[.string a0, .string a1] w fun e w' => e = .returned (.bool r) ∧ Below w.heap.size w w' := by
 have HB := Aside0.mk (Below.refl w.heap.size w)
 have H : ((lw_awake.f k).bind fun t227 => (if (a0.size : Int) > 100 then (lw_TmplJoins.j0 k a0 a1 t227 true) else (lw_TmplJoins.j0 k a0 a1 t227 (decide ((a1.size : Int) > 100))))) = some r := h
 clear h
 replace H := Option.bind_eq_some_iff.mp H
 obtain ⟨t227, A30, H⟩ := H
 replace H : (if (a0.size : Int) > 100 then (lw_TmplJoins.j0 k a0 a1 t227 true) else (lw_TmplJoins.j0 k a0 a1 t227 (decide ((a1.size : Int) > 100)))) = some r := H
 have A3 := Aside0.mk A30
 clear A30
 have HC4 := Aside0.mk H
 clear H
 go_enter Tryd.func5, Tryd.ntmps5
 go_upto_region 2 with (first | ((with_reducible refine gate_callee (f := 7) rfl ?_); refine goesL_ (some 16) rfl rfl Tryd.func7 (by kernel_rfl) rfl #[] rfl (by (try simp only [List.map_toArray, List.map_cons, List.map_nil]); first | done | rfl | (simp only [List.length_drop, List.length_take]; rfl)) ?_; (with_reducible refine (lw_awake.calls k  t227 _ (hG.keepAt (Nat.le_refl _) (by repeat (first | (with_reducible first | exact HB.out | apply below_alloc | apply pw_below_drewN | apply below_drew1) | exact HB.out))) A3.out).mono ?_); rintro e w5 ⟨rfl, hb⟩; refine ⟨_, rfl, ?_⟩; have n0_ := Aside0.mk (below_step (by repeat (first | (with_reducible first | exact HB.out | apply below_alloc | apply pw_below_drewN | apply below_drew1) | exact HB.out)) hb); clear HB; have HB := n0_; clear n0_; (try clear hb); (try clear hb2); (try clear hk); (try clear hi)))
 (try simp only [Act.put, List.setIfInBounds_toArray, List.set_cons_zero, List.set_cons_succ])
 go_cut [24] (fun v24 wc => ∃ (kq : Nat) (x24_3 : Bool), v24 = .bool x24_3 ∧ Aside0 (lw_TmplJoins.j0 kq a0 a1 t227 x24_3 = some r) ∧ Aside0 (kq ≤ k) ∧ Aside0 (Below w.heap.size w wc))
 case first =>
  have H := HC4.out
  clear HC4
  by_cases c6 : (a0.size : Int) > 100
  · rw [if_pos c6] at H
    have c6b0 : decide (100 < (a0.size : Int)) = true := decide_eq_true c6
    have c6b1 : decide (100 < a0.size) = true := decide_eq_true (by omega)
    clear c6
    (first | rw [c6b0] | (simp only [i64_w, i32_w]; rw [c6b0]) | skip)
    have H' := Aside0.mk H
    clear H
    go_wp2
    go_meet
    case rel => exact ⟨_, (true), (by first | rfl | (simp; done) | (simp [*]; done)), H', ⟨by first | omega | exact Nat.le_refl _⟩, ⟨by repeat (first | (with_reducible first | exact HB.out | apply below_alloc | apply pw_below_drewN | apply below_drew1) | exact HB.out)⟩⟩
  · rw [if_neg c6] at H
    have c6b0 : decide (100 < (a0.size : Int)) = false := decide_eq_false c6
    have c6b1 : decide (100 < a0.size) = false := decide_eq_false (by omega)
    clear c6
    (first | rw [c6b0] | (simp only [i64_w, i32_w]; rw [c6b0]) | skip)
    have H' := Aside0.mk H
    clear H
    go_wp2
    go_meet
    case rel => exact ⟨_, (decide ((a1.size : Int) > 100)), (by first | rfl | (simp; done) | (simp [*]; done)), H', ⟨by first | omega | exact Nat.le_refl _⟩, ⟨by repeat (first | (with_reducible first | exact HB.out | apply below_alloc | apply pw_below_drewN | apply below_drew1) | exact HB.out)⟩⟩
 case rest =>
  clear HC4
  try clear p2
  try clear c5
  try clear c6
  try clear c6b0
  try clear c6b1
  obtain ⟨kq, x24_3, rfl, HA, HJ3, HB⟩ := hcut
  cases kq with
  | zero => exact absurd HA.out (by simp [lw_TmplJoins.j0])
  | succ kj3 =>
   have H := HA.out
   clear HA
   simp only [lw_TmplJoins.j0] at H
   by_cases c7 : x24_3 = true
   · subst c7
     have H1 : (some t227) = some r := by rw [if_pos rfl] at H; exact H
     clear H
     have H := H1
     clear H1
     obtain rfl := Option.some.inj H
     go_wp2
     go_ret
     exact ⟨by first | rfl | (simp [errW_none, errW_some] <;> rfl) | (simp [*, errW_none, errW_some] <;> rfl), by repeat (first | (with_reducible first | exact HB.out | apply below_alloc | apply pw_below_drewN | apply below_drew1) | exact HB.out)⟩
   · replace c7 := Bool.eq_false_iff.mpr c7
     subst c7
     have H1 : ((tmpl_Parse.f kj3 a0).bind fun bt228 => ((tmpl_Parse.f kj3 a1).bind fun bt233 => (if a0.size + a1.size ≤ 9223372036854775807 then ((tmpl_Parse.f kj3 (a0 ++ a1)).bind fun bt238 => (if bt228.2.2 = 0 then (lw_TmplJoins.j1 kj3 t227 bt228.1 bt233.1 bt238.1 bt238.2.2 (bt233.2.2 != 0)) else (lw_TmplJoins.j1 kj3 t227 bt228.1 bt233.1 bt238.1 bt238.2.2 true))) else (none)))) = some r := by rw [if_neg (show ¬ (false = true) by decide)] at H; exact H
     clear H
     have H := H1
     clear H1
     replace H := Option.bind_eq_some_iff.mp H
     obtain ⟨⟨t228, t229, t230⟩, A80, H⟩ := H
     replace H : ((tmpl_Parse.f kj3 a1).bind fun bt233 => (if a0.size + a1.size ≤ 9223372036854775807 then ((tmpl_Parse.f kj3 (a0 ++ a1)).bind fun bt238 => (if t230 = 0 then (lw_TmplJoins.j1 kj3 t227 t228 bt233.1 bt238.1 bt238.2.2 (bt233.2.2 != 0)) else (lw_TmplJoins.j1 kj3 t227 t228 bt233.1 bt238.1 bt238.2.2 true))) else (none))) = some r := H
     have A8 := Aside0.mk A80
     clear A80
     replace H := Option.bind_eq_some_iff.mp H
     obtain ⟨⟨t233, t234, t235⟩, A90, H⟩ := H
     replace H : (if a0.size + a1.size ≤ 9223372036854775807 then ((tmpl_Parse.f kj3 (a0 ++ a1)).bind fun bt238 => (if t230 = 0 then (lw_TmplJoins.j1 kj3 t227 t228 t233 bt238.1 bt238.2.2 (t235 != 0)) else (lw_TmplJoins.j1 kj3 t227 t228 t233 bt238.1 bt238.2.2 true))) else (none)) = some r := H
     have A9 := Aside0.mk A90
     clear A90
     by_cases c10 : a0.size + a1.size ≤ 9223372036854775807
     · rw [if_pos c10] at H
       have c10b0 := eq_true c10
       have c10b1 : decide (a0.size + a1.size ≤ 9223372036854775807) = true := decide_eq_true c10
       try have c10b2 : (9223372036854775807 < a0.size + a1.size) = False := eq_false (Nat.not_lt.2 c10)
       replace H := Option.bind_eq_some_iff.mp H
       obtain ⟨⟨t238, t239, t240⟩, A110, H⟩ := H
       replace H : (if t230 = 0 then (lw_TmplJoins.j1 kj3 t227 t228 t233 t238 t240 (t235 != 0)) else (lw_TmplJoins.j1 kj3 t227 t228 t233 t238 t240 true)) = some r := H
       have A11 := Aside0.mk A110
       clear A110
       have HC12 := Aside0.mk H
       clear H
       go_upto_region 7 with (first | ((with_reducible refine gate_callee (f := 8) rfl ?_); refine goesL_ (some 28) rfl rfl Tryd.func8 (by kernel_rfl) rfl #[.string a0] rfl (by (try simp only [List.map_toArray, List.map_cons, List.map_nil]); first | done | rfl | (simp only [List.length_drop, List.length_take]; rfl)) ?_; (with_reducible refine (tmpl_Parse.calls kj3 a0 t228 t229 t230 _ (hG.keepAt (Nat.le_refl _) (by repeat (first | (with_reducible first | exact HB.out | apply below_alloc | apply pw_below_drewN | apply below_drew1) | exact HB.out))) A8.out).mono ?_); rintro e w13 ⟨v231, rfl, ho0, hb⟩; refine ⟨_, rfl, ?_⟩; have n0_ := Aside0.mk (Kd.N_lower (Kd.N_mono (ok' := fun k_ => True) (Kd.S_N (Kd.S_bound ho0)) (fun k_ hk_ => trivial)) (below_size (by repeat (first | (with_reducible first | exact HB.out | apply below_alloc | apply pw_below_drewN | apply below_drew1) | exact HB.out)))); have n1_ := Aside0.mk (below_step (by repeat (first | (with_reducible first | exact HB.out | apply below_alloc | apply pw_below_drewN | apply below_drew1) | exact HB.out)) hb); clear HB; have HO232 := n0_; have HB := n1_; clear n0_ n1_; (try clear hb); (try clear hb2); (try clear hk); (try clear hi); (try clear ho0)) | ((with_reducible refine gate_callee (f := 8) rfl ?_); refine goesL_ (some 34) rfl rfl Tryd.func8 (by kernel_rfl) rfl #[.string a1] rfl (by (try simp only [List.map_toArray, List.map_cons, List.map_nil]); first | done | rfl | (simp only [List.length_drop, List.length_take]; rfl)) ?_; (with_reducible refine (tmpl_Parse.calls kj3 a1 t233 t234 t235 _ (hG.keepAt (Nat.le_refl _) (by repeat (first | (with_reducible first | exact HB.out | apply below_alloc | apply pw_below_drewN | apply below_drew1) | exact HB.out))) A9.out).mono ?_); rintro e w14 ⟨v236, rfl, ho0, hb⟩; refine ⟨_, rfl, ?_⟩; have n0_ := Aside0.mk (Kd.N_elder' (by (with_reducible repeat (first | apply Kd.N_alloc | apply Kd.N_drewN | apply Kd.N_drew)); exact HO232.out) (by first | exact Kd.N_base ho0 | exact Kd.N_base (Kd.S_N (Kd.S_bound ho0))) hb); have n1_ := Aside0.mk (Kd.N_lower (Kd.N_mono (ok' := fun k_ => some k_ ≠ (v231 : Value).ownBlock) (Kd.S_N (Kd.S_bound ho0)) (fun k_ hk_ => (Kd.fresh' (Kd.N_lt (by (with_reducible repeat (first | apply Kd.N_alloc | apply Kd.N_drewN | apply Kd.N_drew)); exact HO232.out)) k_ hk_.2.1))) (below_size (by repeat (first | (with_reducible first | exact HB.out | apply below_alloc | apply pw_below_drewN | apply below_drew1) | exact HB.out)))); have n2_ := Aside0.mk (below_step (by repeat (first | (with_reducible first | exact HB.out | apply below_alloc | apply pw_below_drewN | apply below_drew1) | exact HB.out)) hb); clear HO232; clear HB; have HO232 := n0_; have HO237 := n1_; have HB := n2_; clear n0_ n1_ n2_; (try clear hb); (try clear hb2); (try clear hk); (try clear hi); (try clear ho0)) | ((with_reducible refine gate_callee (f := 8) rfl ?_); refine goesL_ (some 42) rfl rfl Tryd.func8 (by kernel_rfl) rfl #[.string (a0 ++ a1)] rfl (by (try simp only [List.map_toArray, List.map_cons, List.map_nil]); first | done | rfl | (simp only [List.length_drop, List.length_take]; rfl)) ?_; (with_reducible refine (tmpl_Parse.calls kj3 (a0 ++ a1) t238 t239 t240 _ (hG.keepAt (Nat.le_refl _) (by repeat (first | (with_reducible first | exact HB.out | apply below_alloc | apply pw_below_drewN | apply below_drew1) | exact HB.out))) A11.out).mono ?_); rintro e w15 ⟨v241, rfl, ho0, hb⟩; refine ⟨_, rfl, ?_⟩; have n0_ := Aside0.mk (Kd.N_elder' (by (with_reducible repeat (first | apply Kd.N_alloc | apply Kd.N_drewN | apply Kd.N_drew)); exact HO232.out) (by first | exact Kd.N_base ho0 | exact Kd.N_base (Kd.S_N (Kd.S_bound ho0))) hb); have n1_ := Aside0.mk (Kd.N_elder' (by (with_reducible repeat (first | apply Kd.N_alloc | apply Kd.N_drewN | apply Kd.N_drew)); exact HO237.out) (by first | exact Kd.N_base ho0 | exact Kd.N_base (Kd.S_N (Kd.S_bound ho0))) hb); have n2_ := Aside0.mk (Kd.N_lower (Kd.N_mono (ok' := fun k_ => some k_ ≠ (v231 : Value).ownBlock ∧ some k_ ≠ (v236 : Value).ownBlock) (Kd.S_N (Kd.S_bound ho0)) (fun k_ hk_ => ⟨(Kd.fresh' (Kd.N_lt (by (with_reducible repeat (first | apply Kd.N_alloc | apply Kd.N_drewN | apply Kd.N_drew)); exact HO232.out)) k_ hk_.2.1), (Kd.fresh' (Kd.N_lt (by (with_reducible repeat (first | apply Kd.N_alloc | apply Kd.N_drewN | apply Kd.N_drew)); exact HO237.out)) k_ hk_.2.1)⟩)) (below_size (by repeat (first | (with_reducible first | exact HB.out | apply below_alloc | apply pw_below_drewN | apply below_drew1) | exact HB.out)))); have n3_ := Aside0.mk (below_step (by repeat (first | (with_reducible first | exact HB.out | apply below_alloc | apply pw_below_drewN | apply below_drew1) | exact HB.out)) hb); clear HO232; clear HO237; clear HB; have HO232 := n0_; have HO237 := n1_; have HO242 := n2_; have HB := n3_; clear n0_ n1_ n2_ n3_; (try clear hb); (try clear hb2); (try clear hk); (try clear hi); (try clear ho0)))
       (try simp only [Act.put, List.setIfInBounds_toArray, List.set_cons_zero, List.set_cons_succ])
       go_cut [51] (fun v51 wc => ∃ (kq : Nat) (x51_11 : Bool), v51 = .bool x51_11 ∧ Aside0 (lw_TmplJoins.j1 kq t227 t228 t233 t238 t240 x51_11 = some r) ∧ Aside0 (kq ≤ kj3) ∧ Aside0 (Kd.N k41 41 wc w.heap.size (fun k_ => some k_ ≠ (v236 : Value).ownBlock ∧ some k_ ≠ (v241 : Value).ownBlock) v231 t228) ∧ Aside0 (Kd.N k41 41 wc w.heap.size (fun k_ => some k_ ≠ (v231 : Value).ownBlock ∧ some k_ ≠ (v241 : Value).ownBlock) v236 t233) ∧ Aside0 (Kd.N k41 41 wc w.heap.size (fun k_ => some k_ ≠ (v231 : Value).ownBlock ∧ some k_ ≠ (v236 : Value).ownBlock) v241 t238) ∧ Aside0 (Below w.heap.size w wc))
       case first =>
        have H := HC12.out
        clear HC12
        by_cases c16 : t230 = 0
        · rw [if_pos c16] at H
          have c16b0 : (t230 == 0) = true := beq_iff_eq.mpr c16
          have c16b1 : (t230 != 0) = false := bne_eq_false_iff_eq.mpr c16
          clear c16
          (first | rw [c16b0] | (simp only [i64_w, i32_w]; rw [c16b0]) | skip)
          have H' := Aside0.mk H
          clear H
          go_wp2
          go_meet
          case rel => exact ⟨_, ((t235 != 0)), (by first | rfl | (simp; done) | (simp [*]; done)), H', ⟨by have := HJ3.out; first | omega | exact Nat.le_refl _⟩, ⟨by (with_reducible repeat (first | apply Kd.N_alloc | apply Kd.N_drewN | apply Kd.N_drew)); exact Kd.N_mono HO232.out (fun _ hk => ⟨hk.1.2, hk.2⟩)⟩, ⟨by (with_reducible repeat (first | apply Kd.N_alloc | apply Kd.N_drewN | apply Kd.N_drew)); exact HO237.out⟩, ⟨by (with_reducible repeat (first | apply Kd.N_alloc | apply Kd.N_drewN | apply Kd.N_drew)); exact HO242.out⟩, ⟨by repeat (first | (with_reducible first | exact HB.out | apply below_alloc | apply pw_below_drewN | apply below_drew1) | exact HB.out)⟩⟩
        · rw [if_neg c16] at H
          have c16b0 : (t230 == 0) = false := beq_eq_false_iff_ne.mpr c16
          have c16b1 : (t230 != 0) = true := bne_iff_ne.mpr c16
          (first | rw [c16b0] | (simp only [i64_w, i32_w]; rw [c16b0]) | skip)
          have H' := Aside0.mk H
          clear H
          go_wp2
          go_meet
          case rel => exact ⟨_, (true), (by first | rfl | (simp; done) | (simp [*]; done)), H', ⟨by have := HJ3.out; first | omega | exact Nat.le_refl _⟩, ⟨by (with_reducible repeat (first | apply Kd.N_alloc | apply Kd.N_drewN | apply Kd.N_drew)); exact Kd.N_mono HO232.out (fun _ hk => ⟨hk.1.2, hk.2⟩)⟩, ⟨by (with_reducible repeat (first | apply Kd.N_alloc | apply Kd.N_drewN | apply Kd.N_drew)); exact HO237.out⟩, ⟨by (with_reducible repeat (first | apply Kd.N_alloc | apply Kd.N_drewN | apply Kd.N_drew)); exact HO242.out⟩, ⟨by repeat (first | (with_reducible first | exact HB.out | apply below_alloc | apply pw_below_drewN | apply below_drew1) | exact HB.out)⟩⟩
       case rest =>
        clear HC12
        try clear c1
        try clear p2
        try clear c5
        try clear c6
        try clear c6b0
        try clear c6b1
        try clear c7
        try clear c8
        try clear c10
        try clear c10b0
        try clear c10b1
        try clear c10b2
        try clear c16
        try clear c16b0
        try clear c16b1
        try clear p2
        obtain ⟨kq, x51_11, rfl, HA, HJ11, HO_6, HO_9, HO_12, HB⟩ := hcut
        cases kq with
        | zero => exact absurd HA.out (by simp [lw_TmplJoins.j1])
        | succ kj11 =>
         have H := HA.out
         clear HA
         simp only [lw_TmplJoins.j1] at H
         by_cases c17 : x51_11 = true
         · subst c17
           have H1 : (some t227) = some r := by rw [if_pos rfl] at H; exact H
           clear H
           have H := H1
           clear H1
           obtain rfl := Option.some.inj H
           go_wp2
           go_ret
           exact ⟨by first | rfl | (simp [errW_none, errW_some] <;> rfl) | (simp [*, errW_none, errW_some] <;> rfl), by repeat (first | (with_reducible first | exact HB.out | apply below_alloc | apply pw_below_drewN | apply below_drew1) | exact HB.out)⟩
         · replace c17 := Bool.eq_false_iff.mpr c17
           subst c17
           have H1 : ((some (([] : List (S41)) : List (S41))).bind fun y243 => (if y243.length + t228.length < 2932031007402 then ((some (y243 ++ t228 : List (S41))).bind fun y246 => (if y246.length + t233.length < 2932031007402 then ((some (y246 ++ t233 : List (S41))).bind fun y249 => (if t227 = true then (if t240 = 0 then ((tmpl_Names.f kj11 t238).bind fun t252 => ((rf07_Names.f kj11 y249).bind fun t255 => ((rf05_Texts.f kj11 t252 t255).bind fun t258 => (if t258 = true then ((tmpl_Once.f kj11 t238).bind fun t259 => ((tmpl_Once.f kj11 y249).bind fun t260 => (some (t259 == t260)))) else (some false))))) else (some false)) else (some false))) else (none))) else (none))) = some r := by rw [if_neg (show ¬ (false = true) by decide)] at H; exact H
           clear H
           have H := H1
           clear H1
           obtain ⟨y243, hy243⟩ : ∃ y_ : List (S41), y_ = (([] : List (S41))) := ⟨_, rfl⟩
           replace H : (if y243.length + t228.length < 2932031007402 then ((some (y243 ++ t228 : List (S41))).bind fun y246 => (if y246.length + t233.length < 2932031007402 then ((some (y246 ++ t233 : List (S41))).bind fun y249 => (if t227 = true then (if t240 = 0 then ((tmpl_Names.f kj11 t238).bind fun t252 => ((rf07_Names.f kj11 y249).bind fun t255 => ((rf05_Texts.f kj11 t252 t255).bind fun t258 => (if t258 = true then ((tmpl_Once.f kj11 t238).bind fun t259 => ((tmpl_Once.f kj11 y249).bind fun t260 => (some (t259 == t260)))) else (some false))))) else (some false)) else (some false))) else (none))) else (none)) = some r := by first | (rw [hy243]; with_reducible exact H) | (have H2_ := (Option.bind_some _ _).symm.trans H; rw [hy243]; with_reducible exact H2_) | (have H2_ := (Option.bind_some _ _).symm.trans H; with_reducible exact H2_) | with_reducible exact H | (rw [hy243]; exact H) | exact H
           have Ny243 := Aside0.mk hy243
           clear hy243
           by_cases c18 : y243.length + t228.length < 2932031007402
           · rw [if_pos c18] at H
             have LMc18 := Aside0.mk c18
             clear c18
             obtain ⟨y246, hy246⟩ : ∃ y_ : List (S41), y_ = (y243 ++ t228) := ⟨_, rfl⟩
             replace H : (if y246.length + t233.length < 2932031007402 then ((some (y246 ++ t233 : List (S41))).bind fun y249 => (if t227 = true then (if t240 = 0 then ((tmpl_Names.f kj11 t238).bind fun t252 => ((rf07_Names.f kj11 y249).bind fun t255 => ((rf05_Texts.f kj11 t252 t255).bind fun t258 => (if t258 = true then ((tmpl_Once.f kj11 t238).bind fun t259 => ((tmpl_Once.f kj11 y249).bind fun t260 => (some (t259 == t260)))) else (some false))))) else (some false)) else (some false))) else (none)) = some r := by first | (rw [hy246]; with_reducible exact H) | (have H2_ := (Option.bind_some _ _).symm.trans H; rw [hy246]; with_reducible exact H2_) | (have H2_ := (Option.bind_some _ _).symm.trans H; with_reducible exact H2_) | with_reducible exact H | (rw [hy246]; exact H) | exact H
             have Ny246 := Aside0.mk hy246
             clear hy246
             by_cases c19 : y246.length + t233.length < 2932031007402
             · rw [if_pos c19] at H
               have LMc19 := Aside0.mk c19
               clear c19
               obtain ⟨y249, hy249⟩ : ∃ y_ : List (S41), y_ = (y246 ++ t233) := ⟨_, rfl⟩
               replace H : (if t227 = true then (if t240 = 0 then ((tmpl_Names.f kj11 t238).bind fun t252 => ((rf07_Names.f kj11 y249).bind fun t255 => ((rf05_Texts.f kj11 t252 t255).bind fun t258 => (if t258 = true then ((tmpl_Once.f kj11 t238).bind fun t259 => ((tmpl_Once.f kj11 y249).bind fun t260 => (some (t259 == t260)))) else (some false))))) else (some false)) else (some false)) = some r := by first | (rw [hy249]; with_reducible exact H) | (have H2_ := (Option.bind_some _ _).symm.trans H; rw [hy249]; with_reducible exact H2_) | (have H2_ := (Option.bind_some _ _).symm.trans H; with_reducible exact H2_) | with_reducible exact H | (rw [hy249]; exact H) | exact H
               have Ny249 := Aside0.mk hy249
               clear hy249
               by_cases c20 : t227 = true
               · subst c20
                 have H1 : (if t240 = 0 then ((tmpl_Names.f kj11 t238).bind fun t252 => ((rf07_Names.f kj11 y249).bind fun t255 => ((rf05_Texts.f kj11 t252 t255).bind fun t258 => (if t258 = true then ((tmpl_Once.f kj11 t238).bind fun t259 => ((tmpl_Once.f kj11 y249).bind fun t260 => (some (t259 == t260)))) else (some false))))) else (some false)) = some r := by rw [if_pos rfl] at H; exact H
                 clear H
                 have H := H1
                 clear H1
                 by_cases c21 : t240 = 0
                 · rw [if_pos c21] at H
                   have c21b0 : (t240 == 0) = true := beq_iff_eq.mpr c21
                   have c21b1 : (t240 != 0) = false := bne_eq_false_iff_eq.mpr c21
                   clear c21
                   replace H := Option.bind_eq_some_iff.mp H
                   obtain ⟨t252, A220, H⟩ := H
                   replace H : ((rf07_Names.f kj11 y249).bind fun t255 => ((rf05_Texts.f kj11 t252 t255).bind fun t258 => (if t258 = true then ((tmpl_Once.f kj11 t238).bind fun t259 => ((tmpl_Once.f kj11 y249).bind fun t260 => (some (t259 == t260)))) else (some false)))) = some r := H
                   have A22 := Aside0.mk A220
                   clear A220
                   replace H := Option.bind_eq_some_iff.mp H
                   obtain ⟨t255, A230, H⟩ := H
                   replace H : ((rf05_Texts.f kj11 t252 t255).bind fun t258 => (if t258 = true then ((tmpl_Once.f kj11 t238).bind fun t259 => ((tmpl_Once.f kj11 y249).bind fun t260 => (some (t259 == t260)))) else (some false))) = some r := H
                   have A23 := Aside0.mk A230
                   clear A230
                   replace H := Option.bind_eq_some_iff.mp H
                   obtain ⟨t258, A240, H⟩ := H
                   replace H : (if t258 = true then ((tmpl_Once.f kj11 t238).bind fun t259 => ((tmpl_Once.f kj11 y249).bind fun t260 => (some (t259 == t260)))) else (some false)) = some r := H
                   have A24 := Aside0.mk A240
                   clear A240
                   by_cases c25 : t258 = true
                   · subst c25
                     have H1 : ((tmpl_Once.f kj11 t238).bind fun t259 => ((tmpl_Once.f kj11 y249).bind fun t260 => (some (t259 == t260)))) = some r := by rw [if_pos rfl] at H; exact H
                     clear H
                     have H := H1
                     clear H1
                     replace H := Option.bind_eq_some_iff.mp H
                     obtain ⟨t259, A260, H⟩ := H
                     replace H : ((tmpl_Once.f kj11 y249).bind fun t260 => (some (t259 == t260))) = some r := H
                     have A26 := Aside0.mk A260
                     clear A260
                     replace H := Option.bind_eq_some_iff.mp H
                     obtain ⟨t260, A270, H⟩ := H
                     replace H : (some (t259 == t260)) = some r := H
                     have A27 := Aside0.mk A270
                     clear A270
                     obtain rfl := Option.some.inj H
                     go_wp2_with (first | ((with_reducible refine gate_dst (N := 53) rfl ?_); (try (refine gate_guard (by rfl) ?_; dsimp only)); refine Kd.N_lit k41 _ 41 ?hg (N' := 53) ?hd (xs := ([] : List (S41))) (inner := []) (ok := (fun k_ => some k_ ≠ (v231 : Value).ownBlock ∧ some k_ ≠ (v236 : Value).ownBlock ∧ some k_ ≠ (v241 : Value).ownBlock)) (okp := (fun k_ => some k_ ≠ (v231 : Value).ownBlock ∧ some k_ ≠ (v236 : Value).ownBlock ∧ some k_ ≠ (v241 : Value).ownBlock)) ?hr ?hp (fun _ hk => hk) ((show ∀ k_, wc.heap.size ≤ k_ → (fun k_ => some k_ ≠ (v231 : Value).ownBlock ∧ some k_ ≠ (v236 : Value).ownBlock ∧ some k_ ≠ (v241 : Value).ownBlock) k_ from fun k_ hk => ⟨Kd.fresh' (Kd.N_lt (by (with_reducible repeat (first | apply Kd.N_alloc | apply Kd.N_drewN | apply Kd.N_drew)); exact HO_6.out)) k_ hk, Kd.fresh' (Kd.N_lt (by (with_reducible repeat (first | apply Kd.N_alloc | apply Kd.N_drewN | apply Kd.N_drew)); exact HO_9.out)) k_ hk, Kd.fresh' (Kd.N_lt (by (with_reducible repeat (first | apply Kd.N_alloc | apply Kd.N_drewN | apply Kd.N_drew)); exact HO_12.out)) k_ hk⟩) _ (Nat.le_refl _)) (Below.refl _ _) (Nat.le_refl _) (by simp) ?_; (case hd => rfl); (case hg => rfl); (case hr => first | (go_simp; done) | (go_simp; rfl)); (case hp => exact (Reps.none _ _)); intro v244 w28 ho29 hb hg_ hnew_; clear hg_ hnew_; (first | rw [← Ny243.out] at ho29 | (simp only [Int.reduceToNat] at ho29; rw [← Ny243.out] at ho29)); have n0_ := Aside0.mk (Kd.N_elder' (by (with_reducible repeat (first | apply Kd.N_alloc | apply Kd.N_drewN | apply Kd.N_drew)); exact HO_6.out) (Kd.N_base ho29) hb); have n1_ := Aside0.mk (Kd.N_elder' (by (with_reducible repeat (first | apply Kd.N_alloc | apply Kd.N_drewN | apply Kd.N_drew)); exact HO_9.out) (Kd.N_base ho29) hb); have n2_ := Aside0.mk (Kd.N_elder' (by (with_reducible repeat (first | apply Kd.N_alloc | apply Kd.N_drewN | apply Kd.N_drew)); exact HO_12.out) (Kd.N_base ho29) hb); have n3_ := Aside0.mk (Kd.N_lower ho29 (below_size (by repeat (first | (with_reducible first | exact HB.out | apply below_alloc | apply pw_below_drewN | apply below_drew1) | exact HB.out)))); have n4_ := Aside0.mk (below_step (by repeat (first | (with_reducible first | exact HB.out | apply below_alloc | apply pw_below_drewN | apply below_drew1) | exact HB.out)) hb); clear HO_6; clear HO_9; clear HO_12; clear HB; have HO_6 := n0_; have HO_9 := n1_; have HO_12 := n2_; have HO245 := n3_; have HB := n4_; clear n0_ n1_ n2_ n3_ n4_; clear hb ho29; obtain ⟨Ao31, co31, eo31⟩ := Kd.N_slice HO_6.out; subst eo31) | ((with_reducible refine gate_builtin (b := .append) (xs := #[.tmp 53, .tmp 54]) rfl ?_); (try (refine gate_guard (by rfl) ?_; dsimp only)); at_builtin; refine Kd.N_append_rows k41 (w0 := w) w.heap.size rfl (.tmp 53) (.tmp 54) 23 41 (.agg #[(.string ⟨#[]⟩), (.int .u8 0), (.slice none 0 0)]) 48 rfl Tryd.underlying23 info41 rfl (by decide) (by omega) v244 y243 t228 _ _ _ (fun k_ => some k_ ≠ (v236 : Value).ownBlock ∧ some k_ ≠ (v241 : Value).ownBlock) (fun k_ => ((fun k_ => some k_ ≠ (v236 : Value).ownBlock ∧ some k_ ≠ (v241 : Value).ownBlock)) k_ ∧ some k_ ≠ (v244 : Value).ownBlock) rfl rfl ?aO ?aR (fun _ hk => hk) ?aF ?aB ?aS ?aL ?_; (case aR => exact (by skip; exact Kd.N_F (Kd.N_mono (ok' := (fun k_ => ((fun k_ => some k_ ≠ (v236 : Value).ownBlock ∧ some k_ ≠ (v241 : Value).ownBlock)) k_ ∧ some k_ ≠ (v244 : Value).ownBlock)) (HO_6.out) (fun k_ hk => ⟨⟨hk.1.1, hk.1.2⟩, hk.2⟩)))); (case aB => exact (by repeat (first | (with_reducible first | exact HB.out | apply below_alloc | apply pw_below_drewN | apply below_drew1) | exact HB.out))); (case aF => exact (fun k_ hk => ⟨Kd.fresh' (Kd.N_lt (by (with_reducible repeat (first | apply Kd.N_alloc | apply Kd.N_drewN | apply Kd.N_drew)); exact HO_9.out)) k_ hk, Kd.fresh' (Kd.N_lt (by (with_reducible repeat (first | apply Kd.N_alloc | apply Kd.N_drewN | apply Kd.N_drew)); exact HO_12.out)) k_ hk⟩)); (case aO => exact (by (with_reducible repeat (first | apply Kd.N_alloc | apply Kd.N_drewN | apply Kd.N_drew)); exact Kd.N_mono HO245.out (fun _ hk => ⟨hk.2.1, hk.2.2⟩))); (case aS => exact (below_size (by repeat (first | (with_reducible first | exact HB.out | apply below_alloc | apply pw_below_drewN | apply below_drew1) | exact HB.out)))); (case aL => have := LMc18.out; omega); intro v247 w30 ho hb hg hat; rw [← Ny246.out] at ho; have n0_ := Aside0.mk (Kd.N_afterv (ok := (fun k_ => some k_ ≠ (v236 : Value).ownBlock ∧ some k_ ≠ (v241 : Value).ownBlock)) (by (with_reducible repeat (first | apply Kd.N_alloc | apply Kd.N_drewN | apply Kd.N_drew)); exact HO_6.out) hg hat); have n1_ := Aside0.mk (Kd.N_afterv (ok := (fun k_ => some k_ ≠ (.slice Ao31 t228.length co31 : Value).ownBlock ∧ some k_ ≠ (v241 : Value).ownBlock)) (by (with_reducible repeat (first | apply Kd.N_alloc | apply Kd.N_drewN | apply Kd.N_drew)); exact HO_9.out) hg hat); have n2_ := Aside0.mk (Kd.N_afterv (ok := (fun k_ => some k_ ≠ (.slice Ao31 t228.length co31 : Value).ownBlock ∧ some k_ ≠ (v236 : Value).ownBlock)) (by (with_reducible repeat (first | apply Kd.N_alloc | apply Kd.N_drewN | apply Kd.N_drew)); exact HO_12.out) hg hat); have n3_ := Aside0.mk (hb); have n4_ := Aside0.mk (ho); clear HO_6; clear HO_9; clear HO_12; clear HB; clear HO245; have HO_6 := n0_; have HO_9 := n1_; have HO_12 := n2_; have HB := n3_; have HO248 := n4_; clear n0_ n1_ n2_ n3_ n4_; clear ho hb hg hat; obtain ⟨Ao33, co33, eo33⟩ := Kd.N_slice HO_9.out; subst eo33) | ((with_reducible refine gate_builtin (b := .append) (xs := #[.tmp 55, .tmp 56]) rfl ?_); (try (refine gate_guard (by rfl) ?_; dsimp only)); at_builtin; refine Kd.N_append_rows k41 (w0 := w) w.heap.size rfl (.tmp 55) (.tmp 56) 23 41 (.agg #[(.string ⟨#[]⟩), (.int .u8 0), (.slice none 0 0)]) 48 rfl Tryd.underlying23 info41 rfl (by decide) (by omega) v247 y246 t233 _ _ _ (fun k_ => some k_ ≠ (v241 : Value).ownBlock) (fun k_ => ((fun k_ => some k_ ≠ (v241 : Value).ownBlock)) k_ ∧ some k_ ≠ (v247 : Value).ownBlock) rfl rfl ?aO ?aR (fun _ hk => hk) ?aF ?aB ?aS ?aL ?_; (case aR => exact (by skip; exact Kd.N_F (Kd.N_mono (ok' := (fun k_ => ((fun k_ => some k_ ≠ (v241 : Value).ownBlock)) k_ ∧ some k_ ≠ (v247 : Value).ownBlock)) (HO_9.out) (fun k_ hk => ⟨hk.1.2, hk.2⟩)))); (case aB => exact (by repeat (first | (with_reducible first | exact HB.out | apply below_alloc | apply pw_below_drewN | apply below_drew1) | exact HB.out))); (case aF => exact (fun k_ hk => Kd.fresh' (Kd.N_lt (by (with_reducible repeat (first | apply Kd.N_alloc | apply Kd.N_drewN | apply Kd.N_drew)); exact HO_12.out)) k_ hk)); (case aO => exact (by (with_reducible repeat (first | apply Kd.N_alloc | apply Kd.N_drewN | apply Kd.N_drew)); exact Kd.N_mono HO248.out (fun _ hk => hk.2))); (case aS => exact (below_size (by repeat (first | (with_reducible first | exact HB.out | apply below_alloc | apply pw_below_drewN | apply below_drew1) | exact HB.out)))); (case aL => have := LMc19.out; omega); intro v250 w32 ho hb hg hat; rw [← Ny249.out] at ho; have n0_ := Aside0.mk (Kd.N_afterv (ok := (fun k_ => some k_ ≠ (.slice Ao33 t233.length co33 : Value).ownBlock ∧ some k_ ≠ (v241 : Value).ownBlock)) (by (with_reducible repeat (first | apply Kd.N_alloc | apply Kd.N_drewN | apply Kd.N_drew)); exact HO_6.out) hg hat); have n1_ := Aside0.mk (Kd.N_afterv (ok := (fun k_ => some k_ ≠ (.slice Ao31 t228.length co31 : Value).ownBlock ∧ some k_ ≠ (v241 : Value).ownBlock)) (by (with_reducible repeat (first | apply Kd.N_alloc | apply Kd.N_drewN | apply Kd.N_drew)); exact HO_9.out) hg hat); have n2_ := Aside0.mk (Kd.N_afterv (ok := (fun k_ => some k_ ≠ (.slice Ao31 t228.length co31 : Value).ownBlock ∧ some k_ ≠ (.slice Ao33 t233.length co33 : Value).ownBlock)) (by (with_reducible repeat (first | apply Kd.N_alloc | apply Kd.N_drewN | apply Kd.N_drew)); exact HO_12.out) hg hat); have n3_ := Aside0.mk (hb); have n4_ := Aside0.mk (ho); clear HO_6; clear HO_9; clear HO_12; clear HB; clear HO248; have HO_6 := n0_; have HO_9 := n1_; have HO_12 := n2_; have HB := n3_; have HO251 := n4_; clear n0_ n1_ n2_ n3_ n4_; clear ho hb hg hat; obtain ⟨Ao34, co34, eo34⟩ := Kd.N_slice HO_12.out; subst eo34) | (go_at_call 13; (with_reducible refine (tmpl_Names.calls kj11 _ _ t238 t252 _ ?side1 ?side2 A22.out).mono ?_); (case side1 => repeat (first | exact (Kd.N_reads' HO_12.out).2.2 | (with_reducible refine Kd.C_alloc ?_ _) | (with_reducible refine Kd.C_drewN ?_ _) | (with_reducible refine Kd.C_drew ?_))); (case side2 => exact (Kd.N_reads' HO_12.out).2.1); rintro e w35 ⟨v253, rfl, ho0, hb⟩; have n0_ := Aside0.mk (Kd.N_elder' (by (with_reducible repeat (first | apply Kd.N_alloc | apply Kd.N_drewN | apply Kd.N_drew)); exact HO_6.out) (Kd.R_base ho0) hb); have n1_ := Aside0.mk (Kd.N_elder' (by (with_reducible repeat (first | apply Kd.N_alloc | apply Kd.N_drewN | apply Kd.N_drew)); exact HO_9.out) (Kd.R_base ho0) hb); have n2_ := Aside0.mk (Kd.N_elder' (by (with_reducible repeat (first | apply Kd.N_alloc | apply Kd.N_drewN | apply Kd.N_drew)); exact HO_12.out) (Kd.R_base ho0) hb); have n3_ := Aside0.mk (Kd.N_elder' (by (with_reducible repeat (first | apply Kd.N_alloc | apply Kd.N_drewN | apply Kd.N_drew)); exact HO251.out) (Kd.R_base ho0) hb); have n4_ := Aside0.mk (Kd.R_lower ho0 (below_size (by repeat (first | (with_reducible first | exact HB.out | apply below_alloc | apply pw_below_drewN | apply below_drew1) | exact HB.out)))); have n5_ := Aside0.mk (below_step (by repeat (first | (with_reducible first | exact HB.out | apply below_alloc | apply pw_below_drewN | apply below_drew1) | exact HB.out)) hb); clear HO_6; clear HO_9; clear HO_12; clear HO251; clear HB; have HO_6 := n0_; have HO_9 := n1_; have HO_12 := n2_; have HO251 := n3_; have HO254 := n4_; have HB := n5_; clear n0_ n1_ n2_ n3_ n4_ n5_; (try clear hb); (try clear hb2); (try clear hk); (try clear hi); (try clear ho0); obtain ⟨Ao36, co36, eo36⟩ := Kd.N_slice HO251.out; subst eo36) | (go_at_call 14; (with_reducible refine (rf07_Names.calls kj11 _ _ y249 t255 _ ?side1 ?side2 A23.out).mono ?_); (case side1 => repeat (first | exact (Kd.N_reads' HO251.out).2.2 | (with_reducible refine Kd.C_alloc ?_ _) | (with_reducible refine Kd.C_drewN ?_ _) | (with_reducible refine Kd.C_drew ?_))); (case side2 => exact (Kd.N_reads' HO251.out).2.1); rintro e w37 ⟨v256, rfl, ho0, hb⟩; have n0_ := Aside0.mk (Kd.N_elder' (by (with_reducible repeat (first | apply Kd.N_alloc | apply Kd.N_drewN | apply Kd.N_drew)); exact HO_6.out) (Kd.R_base ho0) hb); have n1_ := Aside0.mk (Kd.N_elder' (by (with_reducible repeat (first | apply Kd.N_alloc | apply Kd.N_drewN | apply Kd.N_drew)); exact HO_9.out) (Kd.R_base ho0) hb); have n2_ := Aside0.mk (Kd.N_elder' (by (with_reducible repeat (first | apply Kd.N_alloc | apply Kd.N_drewN | apply Kd.N_drew)); exact HO_12.out) (Kd.R_base ho0) hb); have n3_ := Aside0.mk (Kd.N_elder' (by (with_reducible repeat (first | apply Kd.N_alloc | apply Kd.N_drewN | apply Kd.N_drew)); exact HO251.out) (Kd.R_base ho0) hb); have n4_ := Aside0.mk (Kd.R_elder' (by (with_reducible repeat (first | apply Kd.R_alloc | apply Kd.R_drewN | apply Kd.R_drew)); exact HO254.out) (Kd.R_base ho0) hb); have n5_ := Aside0.mk (Kd.R_lower (Kd.R_new' ho0 (Kd.R_lt (by (with_reducible repeat (first | apply Kd.R_alloc | apply Kd.R_drewN | apply Kd.R_drew)); exact HO254.out))) (below_size (by repeat (first | (with_reducible first | exact HB.out | apply below_alloc | apply pw_below_drewN | apply below_drew1) | exact HB.out)))); have n6_ := Aside0.mk (below_step (by repeat (first | (with_reducible first | exact HB.out | apply below_alloc | apply pw_below_drewN | apply below_drew1) | exact HB.out)) hb); clear HO_6; clear HO_9; clear HO_12; clear HO251; clear HO254; clear HB; have HO_6 := n0_; have HO_9 := n1_; have HO_12 := n2_; have HO251 := n3_; have HO254 := n4_; have HO257 := n5_; have HB := n6_; clear n0_ n1_ n2_ n3_ n4_ n5_ n6_; (try clear hb); (try clear hb2); (try clear hk); (try clear hi); (try clear ho0); obtain ⟨Ao38, co38, eo38⟩ := Kd.R_slice HO254.out; subst eo38; obtain ⟨Ao39, co39, eo39⟩ := Kd.R_slice HO257.out; subst eo39) | (go_at_call 12; (with_reducible refine (rf05_Texts.calls kj11 _ _ t252 _ _ t255 true _ ?side1 ?side2 ?side3 ?side4 A24.out).mono ?_); (case side1 => repeat (first | exact (Kd.R_reads' HO254.out).2.2 | (with_reducible refine Kd.C_alloc ?_ _) | (with_reducible refine Kd.C_drewN ?_ _) | (with_reducible refine Kd.C_drew ?_))); (case side2 => exact (Kd.R_reads' HO254.out).2.1); (case side3 => repeat (first | exact (Kd.R_reads' HO257.out).2.2 | (with_reducible refine Kd.C_alloc ?_ _) | (with_reducible refine Kd.C_drewN ?_ _) | (with_reducible refine Kd.C_drew ?_))); (case side4 => exact (Kd.R_reads' HO257.out).2.1); rintro e w' ⟨rfl, ⟨nd, rfl⟩⟩) | (go_at_call 15; (with_reducible refine (tmpl_Once.calls kj11 _ _ t238 t259 _ ?side1 ?side2 A26.out).mono ?_); (case side1 => repeat (first | exact (Kd.N_reads' HO_12.out).2.2 | (with_reducible refine Kd.C_alloc ?_ _) | (with_reducible refine Kd.C_drewN ?_ _) | (with_reducible refine Kd.C_drew ?_))); (case side2 => exact (Kd.N_reads' HO_12.out).2.1); rintro e w40 ⟨rfl, hb⟩; have n0_ := Aside0.mk (Kd.N_below (by (with_reducible repeat (first | apply Kd.N_alloc | apply Kd.N_drewN | apply Kd.N_drew)); exact HO_6.out) hb); have n1_ := Aside0.mk (Kd.N_below (by (with_reducible repeat (first | apply Kd.N_alloc | apply Kd.N_drewN | apply Kd.N_drew)); exact HO_9.out) hb); have n2_ := Aside0.mk (Kd.N_below (by (with_reducible repeat (first | apply Kd.N_alloc | apply Kd.N_drewN | apply Kd.N_drew)); exact HO_12.out) hb); have n3_ := Aside0.mk (Kd.N_below (by (with_reducible repeat (first | apply Kd.N_alloc | apply Kd.N_drewN | apply Kd.N_drew)); exact HO251.out) hb); have n4_ := Aside0.mk (Kd.R_below (by (with_reducible repeat (first | apply Kd.R_alloc | apply Kd.R_drewN | apply Kd.R_drew)); exact HO254.out) hb); have n5_ := Aside0.mk (Kd.R_below (by (with_reducible repeat (first | apply Kd.R_alloc | apply Kd.R_drewN | apply Kd.R_drew)); exact HO257.out) hb); have n6_ := Aside0.mk (below_step (by repeat (first | (with_reducible first | exact HB.out | apply below_alloc | apply pw_below_drewN | apply below_drew1) | exact HB.out)) hb); clear HO_6; clear HO_9; clear HO_12; clear HO251; clear HO254; clear HO257; clear HB; have HO_6 := n0_; have HO_9 := n1_; have HO_12 := n2_; have HO251 := n3_; have HO254 := n4_; have HO257 := n5_; have HB := n6_; clear n0_ n1_ n2_ n3_ n4_ n5_ n6_; (try clear hb); (try clear hb2); (try clear hk); (try clear hi)) | (go_at_call 15; (with_reducible refine (tmpl_Once.calls kj11 _ _ y249 t260 _ ?side1 ?side2 A27.out).mono ?_); (case side1 => repeat (first | exact (Kd.N_reads' HO251.out).2.2 | (with_reducible refine Kd.C_alloc ?_ _) | (with_reducible refine Kd.C_drewN ?_ _) | (with_reducible refine Kd.C_drew ?_))); (case side2 => exact (Kd.N_reads' HO251.out).2.1); rintro e w41 ⟨rfl, hb⟩; have n0_ := Aside0.mk (Kd.N_below (by (with_reducible repeat (first | apply Kd.N_alloc | apply Kd.N_drewN | apply Kd.N_drew)); exact HO_6.out) hb); have n1_ := Aside0.mk (Kd.N_below (by (with_reducible repeat (first | apply Kd.N_alloc | apply Kd.N_drewN | apply Kd.N_drew)); exact HO_9.out) hb); have n2_ := Aside0.mk (Kd.N_below (by (with_reducible repeat (first | apply Kd.N_alloc | apply Kd.N_drewN | apply Kd.N_drew)); exact HO_12.out) hb); have n3_ := Aside0.mk (Kd.N_below (by (with_reducible repeat (first | apply Kd.N_alloc | apply Kd.N_drewN | apply Kd.N_drew)); exact HO251.out) hb); have n4_ := Aside0.mk (Kd.R_below (by (with_reducible repeat (first | apply Kd.R_alloc | apply Kd.R_drewN | apply Kd.R_drew)); exact HO254.out) hb); have n5_ := Aside0.mk (Kd.R_below (by (with_reducible repeat (first | apply Kd.R_alloc | apply Kd.R_drewN | apply Kd.R_drew)); exact HO257.out) hb); have n6_ := Aside0.mk (below_step (by repeat (first | (with_reducible first | exact HB.out | apply below_alloc | apply pw_below_drewN | apply below_drew1) | exact HB.out)) hb); clear HO_6; clear HO_9; clear HO_12; clear HO251; clear HO254; clear HO257; clear HB; have HO_6 := n0_; have HO_9 := n1_; have HO_12 := n2_; have HO251 := n3_; have HO254 := n4_; have HO257 := n5_; have HB := n6_; clear n0_ n1_ n2_ n3_ n4_ n5_ n6_; (try clear hb); (try clear hb2); (try clear hk); (try clear hi)))
                     go_ret
                     exact ⟨by first | rfl | (simp [errW_none, errW_some] <;> rfl) | (simp [*, errW_none, errW_some] <;> rfl), by repeat (first | (with_reducible first | exact HB.out | apply below_alloc | apply pw_below_drewN | apply below_drew1) | exact HB.out)⟩
                   · replace c25 := Bool.eq_false_iff.mpr c25
                     subst c25
                     have H1 : (some false) = some r := by rw [if_neg (show ¬ (false = true) by decide)] at H; exact H
                     clear H
                     have H := H1
                     clear H1
                     obtain rfl := Option.some.inj H
                     go_wp2_with (first | ((with_reducible refine gate_dst (N := 53) rfl ?_); (try (refine gate_guard (by rfl) ?_; dsimp only)); refine Kd.N_lit k41 _ 41 ?hg (N' := 53) ?hd (xs := ([] : List (S41))) (inner := []) (ok := (fun k_ => some k_ ≠ (v231 : Value).ownBlock ∧ some k_ ≠ (v236 : Value).ownBlock ∧ some k_ ≠ (v241 : Value).ownBlock)) (okp := (fun k_ => some k_ ≠ (v231 : Value).ownBlock ∧ some k_ ≠ (v236 : Value).ownBlock ∧ some k_ ≠ (v241 : Value).ownBlock)) ?hr ?hp (fun _ hk => hk) ((show ∀ k_, wc.heap.size ≤ k_ → (fun k_ => some k_ ≠ (v231 : Value).ownBlock ∧ some k_ ≠ (v236 : Value).ownBlock ∧ some k_ ≠ (v241 : Value).ownBlock) k_ from fun k_ hk => ⟨Kd.fresh' (Kd.N_lt (by (with_reducible repeat (first | apply Kd.N_alloc | apply Kd.N_drewN | apply Kd.N_drew)); exact HO_6.out)) k_ hk, Kd.fresh' (Kd.N_lt (by (with_reducible repeat (first | apply Kd.N_alloc | apply Kd.N_drewN | apply Kd.N_drew)); exact HO_9.out)) k_ hk, Kd.fresh' (Kd.N_lt (by (with_reducible repeat (first | apply Kd.N_alloc | apply Kd.N_drewN | apply Kd.N_drew)); exact HO_12.out)) k_ hk⟩) _ (Nat.le_refl _)) (Below.refl _ _) (Nat.le_refl _) (by simp) ?_; (case hd => rfl); (case hg => rfl); (case hr => first | (go_simp; done) | (go_simp; rfl)); (case hp => exact (Reps.none _ _)); intro v244 w42 ho43 hb hg_ hnew_; clear hg_ hnew_; (first | rw [← Ny243.out] at ho43 | (simp only [Int.reduceToNat] at ho43; rw [← Ny243.out] at ho43)); have n0_ := Aside0.mk (Kd.N_elder' (by (with_reducible repeat (first | apply Kd.N_alloc | apply Kd.N_drewN | apply Kd.N_drew)); exact HO_6.out) (Kd.N_base ho43) hb); have n1_ := Aside0.mk (Kd.N_elder' (by (with_reducible repeat (first | apply Kd.N_alloc | apply Kd.N_drewN | apply Kd.N_drew)); exact HO_9.out) (Kd.N_base ho43) hb); have n2_ := Aside0.mk (Kd.N_elder' (by (with_reducible repeat (first | apply Kd.N_alloc | apply Kd.N_drewN | apply Kd.N_drew)); exact HO_12.out) (Kd.N_base ho43) hb); have n3_ := Aside0.mk (Kd.N_lower ho43 (below_size (by repeat (first | (with_reducible first | exact HB.out | apply below_alloc | apply pw_below_drewN | apply below_drew1) | exact HB.out)))); have n4_ := Aside0.mk (below_step (by repeat (first | (with_reducible first | exact HB.out | apply below_alloc | apply pw_below_drewN | apply below_drew1) | exact HB.out)) hb); clear HO_6; clear HO_9; clear HO_12; clear HB; have HO_6 := n0_; have HO_9 := n1_; have HO_12 := n2_; have HO245 := n3_; have HB := n4_; clear n0_ n1_ n2_ n3_ n4_; clear hb ho43; obtain ⟨Ao45, co45, eo45⟩ := Kd.N_slice HO_6.out; subst eo45) | ((with_reducible refine gate_builtin (b := .append) (xs := #[.tmp 53, .tmp 54]) rfl ?_); (try (refine gate_guard (by rfl) ?_; dsimp only)); at_builtin; refine Kd.N_append_rows k41 (w0 := w) w.heap.size rfl (.tmp 53) (.tmp 54) 23 41 (.agg #[(.string ⟨#[]⟩), (.int .u8 0), (.slice none 0 0)]) 48 rfl Tryd.underlying23 info41 rfl (by decide) (by omega) v244 y243 t228 _ _ _ (fun k_ => some k_ ≠ (v236 : Value).ownBlock ∧ some k_ ≠ (v241 : Value).ownBlock) (fun k_ => ((fun k_ => some k_ ≠ (v236 : Value).ownBlock ∧ some k_ ≠ (v241 : Value).ownBlock)) k_ ∧ some k_ ≠ (v244 : Value).ownBlock) rfl rfl ?aO ?aR (fun _ hk => hk) ?aF ?aB ?aS ?aL ?_; (case aR => exact (by skip; exact Kd.N_F (Kd.N_mono (ok' := (fun k_ => ((fun k_ => some k_ ≠ (v236 : Value).ownBlock ∧ some k_ ≠ (v241 : Value).ownBlock)) k_ ∧ some k_ ≠ (v244 : Value).ownBlock)) (HO_6.out) (fun k_ hk => ⟨⟨hk.1.1, hk.1.2⟩, hk.2⟩)))); (case aB => exact (by repeat (first | (with_reducible first | exact HB.out | apply below_alloc | apply pw_below_drewN | apply below_drew1) | exact HB.out))); (case aF => exact (fun k_ hk => ⟨Kd.fresh' (Kd.N_lt (by (with_reducible repeat (first | apply Kd.N_alloc | apply Kd.N_drewN | apply Kd.N_drew)); exact HO_9.out)) k_ hk, Kd.fresh' (Kd.N_lt (by (with_reducible repeat (first | apply Kd.N_alloc | apply Kd.N_drewN | apply Kd.N_drew)); exact HO_12.out)) k_ hk⟩)); (case aO => exact (by (with_reducible repeat (first | apply Kd.N_alloc | apply Kd.N_drewN | apply Kd.N_drew)); exact Kd.N_mono HO245.out (fun _ hk => ⟨hk.2.1, hk.2.2⟩))); (case aS => exact (below_size (by repeat (first | (with_reducible first | exact HB.out | apply below_alloc | apply pw_below_drewN | apply below_drew1) | exact HB.out)))); (case aL => have := LMc18.out; omega); intro v247 w44 ho hb hg hat; rw [← Ny246.out] at ho; have n0_ := Aside0.mk (Kd.N_afterv (ok := (fun k_ => some k_ ≠ (v236 : Value).ownBlock ∧ some k_ ≠ (v241 : Value).ownBlock)) (by (with_reducible repeat (first | apply Kd.N_alloc | apply Kd.N_drewN | apply Kd.N_drew)); exact HO_6.out) hg hat); have n1_ := Aside0.mk (Kd.N_afterv (ok := (fun k_ => some k_ ≠ (.slice Ao45 t228.length co45 : Value).ownBlock ∧ some k_ ≠ (v241 : Value).ownBlock)) (by (with_reducible repeat (first | apply Kd.N_alloc | apply Kd.N_drewN | apply Kd.N_drew)); exact HO_9.out) hg hat); have n2_ := Aside0.mk (Kd.N_afterv (ok := (fun k_ => some k_ ≠ (.slice Ao45 t228.length co45 : Value).ownBlock ∧ some k_ ≠ (v236 : Value).ownBlock)) (by (with_reducible repeat (first | apply Kd.N_alloc | apply Kd.N_drewN | apply Kd.N_drew)); exact HO_12.out) hg hat); have n3_ := Aside0.mk (hb); have n4_ := Aside0.mk (ho); clear HO_6; clear HO_9; clear HO_12; clear HB; clear HO245; have HO_6 := n0_; have HO_9 := n1_; have HO_12 := n2_; have HB := n3_; have HO248 := n4_; clear n0_ n1_ n2_ n3_ n4_; clear ho hb hg hat; obtain ⟨Ao47, co47, eo47⟩ := Kd.N_slice HO_9.out; subst eo47) | ((with_reducible refine gate_builtin (b := .append) (xs := #[.tmp 55, .tmp 56]) rfl ?_); (try (refine gate_guard (by rfl) ?_; dsimp only)); at_builtin; refine Kd.N_append_rows k41 (w0 := w) w.heap.size rfl (.tmp 55) (.tmp 56) 23 41 (.agg #[(.string ⟨#[]⟩), (.int .u8 0), (.slice none 0 0)]) 48 rfl Tryd.underlying23 info41 rfl (by decide) (by omega) v247 y246 t233 _ _ _ (fun k_ => some k_ ≠ (v241 : Value).ownBlock) (fun k_ => ((fun k_ => some k_ ≠ (v241 : Value).ownBlock)) k_ ∧ some k_ ≠ (v247 : Value).ownBlock) rfl rfl ?aO ?aR (fun _ hk => hk) ?aF ?aB ?aS ?aL ?_; (case aR => exact (by skip; exact Kd.N_F (Kd.N_mono (ok' := (fun k_ => ((fun k_ => some k_ ≠ (v241 : Value).ownBlock)) k_ ∧ some k_ ≠ (v247 : Value).ownBlock)) (HO_9.out) (fun k_ hk => ⟨hk.1.2, hk.2⟩)))); (case aB => exact (by repeat (first | (with_reducible first | exact HB.out | apply below_alloc | apply pw_below_drewN | apply below_drew1) | exact HB.out))); (case aF => exact (fun k_ hk => Kd.fresh' (Kd.N_lt (by (with_reducible repeat (first | apply Kd.N_alloc | apply Kd.N_drewN | apply Kd.N_drew)); exact HO_12.out)) k_ hk)); (case aO => exact (by (with_reducible repeat (first | apply Kd.N_alloc | apply Kd.N_drewN | apply Kd.N_drew)); exact Kd.N_mono HO248.out (fun _ hk => hk.2))); (case aS => exact (below_size (by repeat (first | (with_reducible first | exact HB.out | apply below_alloc | apply pw_below_drewN | apply below_drew1) | exact HB.out)))); (case aL => have := LMc19.out; omega); intro v250 w46 ho hb hg hat; rw [← Ny249.out] at ho; have n0_ := Aside0.mk (Kd.N_afterv (ok := (fun k_ => some k_ ≠ (.slice Ao47 t233.length co47 : Value).ownBlock ∧ some k_ ≠ (v241 : Value).ownBlock)) (by (with_reducible repeat (first | apply Kd.N_alloc | apply Kd.N_drewN | apply Kd.N_drew)); exact HO_6.out) hg hat); have n1_ := Aside0.mk (Kd.N_afterv (ok := (fun k_ => some k_ ≠ (.slice Ao45 t228.length co45 : Value).ownBlock ∧ some k_ ≠ (v241 : Value).ownBlock)) (by (with_reducible repeat (first | apply Kd.N_alloc | apply Kd.N_drewN | apply Kd.N_drew)); exact HO_9.out) hg hat); have n2_ := Aside0.mk (Kd.N_afterv (ok := (fun k_ => some k_ ≠ (.slice Ao45 t228.length co45 : Value).ownBlock ∧ some k_ ≠ (.slice Ao47 t233.length co47 : Value).ownBlock)) (by (with_reducible repeat (first | apply Kd.N_alloc | apply Kd.N_drewN | apply Kd.N_drew)); exact HO_12.out) hg hat); have n3_ := Aside0.mk (hb); have n4_ := Aside0.mk (ho); clear HO_6; clear HO_9; clear HO_12; clear HB; clear HO248; have HO_6 := n0_; have HO_9 := n1_; have HO_12 := n2_; have HB := n3_; have HO251 := n4_; clear n0_ n1_ n2_ n3_ n4_; clear ho hb hg hat; obtain ⟨Ao48, co48, eo48⟩ := Kd.N_slice HO_12.out; subst eo48) | (go_at_call 13; (with_reducible refine (tmpl_Names.calls kj11 _ _ t238 t252 _ ?side1 ?side2 A22.out).mono ?_); (case side1 => repeat (first | exact (Kd.N_reads' HO_12.out).2.2 | (with_reducible refine Kd.C_alloc ?_ _) | (with_reducible refine Kd.C_drewN ?_ _) | (with_reducible refine Kd.C_drew ?_))); (case side2 => exact (Kd.N_reads' HO_12.out).2.1); rintro e w49 ⟨v253, rfl, ho0, hb⟩; have n0_ := Aside0.mk (Kd.N_elder' (by (with_reducible repeat (first | apply Kd.N_alloc | apply Kd.N_drewN | apply Kd.N_drew)); exact HO_6.out) (Kd.R_base ho0) hb); have n1_ := Aside0.mk (Kd.N_elder' (by (with_reducible repeat (first | apply Kd.N_alloc | apply Kd.N_drewN | apply Kd.N_drew)); exact HO_9.out) (Kd.R_base ho0) hb); have n2_ := Aside0.mk (Kd.N_elder' (by (with_reducible repeat (first | apply Kd.N_alloc | apply Kd.N_drewN | apply Kd.N_drew)); exact HO_12.out) (Kd.R_base ho0) hb); have n3_ := Aside0.mk (Kd.N_elder' (by (with_reducible repeat (first | apply Kd.N_alloc | apply Kd.N_drewN | apply Kd.N_drew)); exact HO251.out) (Kd.R_base ho0) hb); have n4_ := Aside0.mk (Kd.R_lower ho0 (below_size (by repeat (first | (with_reducible first | exact HB.out | apply below_alloc | apply pw_below_drewN | apply below_drew1) | exact HB.out)))); have n5_ := Aside0.mk (below_step (by repeat (first | (with_reducible first | exact HB.out | apply below_alloc | apply pw_below_drewN | apply below_drew1) | exact HB.out)) hb); clear HO_6; clear HO_9; clear HO_12; clear HO251; clear HB; have HO_6 := n0_; have HO_9 := n1_; have HO_12 := n2_; have HO251 := n3_; have HO254 := n4_; have HB := n5_; clear n0_ n1_ n2_ n3_ n4_ n5_; (try clear hb); (try clear hb2); (try clear hk); (try clear hi); (try clear ho0); obtain ⟨Ao50, co50, eo50⟩ := Kd.N_slice HO251.out; subst eo50) | (go_at_call 14; (with_reducible refine (rf07_Names.calls kj11 _ _ y249 t255 _ ?side1 ?side2 A23.out).mono ?_); (case side1 => repeat (first | exact (Kd.N_reads' HO251.out).2.2 | (with_reducible refine Kd.C_alloc ?_ _) | (with_reducible refine Kd.C_drewN ?_ _) | (with_reducible refine Kd.C_drew ?_))); (case side2 => exact (Kd.N_reads' HO251.out).2.1); rintro e w51 ⟨v256, rfl, ho0, hb⟩; have n0_ := Aside0.mk (Kd.N_elder' (by (with_reducible repeat (first | apply Kd.N_alloc | apply Kd.N_drewN | apply Kd.N_drew)); exact HO_6.out) (Kd.R_base ho0) hb); have n1_ := Aside0.mk (Kd.N_elder' (by (with_reducible repeat (first | apply Kd.N_alloc | apply Kd.N_drewN | apply Kd.N_drew)); exact HO_9.out) (Kd.R_base ho0) hb); have n2_ := Aside0.mk (Kd.N_elder' (by (with_reducible repeat (first | apply Kd.N_alloc | apply Kd.N_drewN | apply Kd.N_drew)); exact HO_12.out) (Kd.R_base ho0) hb); have n3_ := Aside0.mk (Kd.N_elder' (by (with_reducible repeat (first | apply Kd.N_alloc | apply Kd.N_drewN | apply Kd.N_drew)); exact HO251.out) (Kd.R_base ho0) hb); have n4_ := Aside0.mk (Kd.R_elder' (by (with_reducible repeat (first | apply Kd.R_alloc | apply Kd.R_drewN | apply Kd.R_drew)); exact HO254.out) (Kd.R_base ho0) hb); have n5_ := Aside0.mk (Kd.R_lower (Kd.R_new' ho0 (Kd.R_lt (by (with_reducible repeat (first | apply Kd.R_alloc | apply Kd.R_drewN | apply Kd.R_drew)); exact HO254.out))) (below_size (by repeat (first | (with_reducible first | exact HB.out | apply below_alloc | apply pw_below_drewN | apply below_drew1) | exact HB.out)))); have n6_ := Aside0.mk (below_step (by repeat (first | (with_reducible first | exact HB.out | apply below_alloc | apply pw_below_drewN | apply below_drew1) | exact HB.out)) hb); clear HO_6; clear HO_9; clear HO_12; clear HO251; clear HO254; clear HB; have HO_6 := n0_; have HO_9 := n1_; have HO_12 := n2_; have HO251 := n3_; have HO254 := n4_; have HO257 := n5_; have HB := n6_; clear n0_ n1_ n2_ n3_ n4_ n5_ n6_; (try clear hb); (try clear hb2); (try clear hk); (try clear hi); (try clear ho0); obtain ⟨Ao52, co52, eo52⟩ := Kd.R_slice HO254.out; subst eo52; obtain ⟨Ao53, co53, eo53⟩ := Kd.R_slice HO257.out; subst eo53) | (go_at_call 12; (with_reducible refine (rf05_Texts.calls kj11 _ _ t252 _ _ t255 false _ ?side1 ?side2 ?side3 ?side4 A24.out).mono ?_); (case side1 => repeat (first | exact (Kd.R_reads' HO254.out).2.2 | (with_reducible refine Kd.C_alloc ?_ _) | (with_reducible refine Kd.C_drewN ?_ _) | (with_reducible refine Kd.C_drew ?_))); (case side2 => exact (Kd.R_reads' HO254.out).2.1); (case side3 => repeat (first | exact (Kd.R_reads' HO257.out).2.2 | (with_reducible refine Kd.C_alloc ?_ _) | (with_reducible refine Kd.C_drewN ?_ _) | (with_reducible refine Kd.C_drew ?_))); (case side4 => exact (Kd.R_reads' HO257.out).2.1); rintro e w' ⟨rfl, ⟨nd, rfl⟩⟩))
                     go_ret
                     exact ⟨by first | rfl | (simp [errW_none, errW_some] <;> rfl) | (simp [*, errW_none, errW_some] <;> rfl), by repeat (first | (with_reducible first | exact HB.out | apply below_alloc | apply pw_below_drewN | apply below_drew1) | exact HB.out)⟩
                 · rw [if_neg c21] at H
                   have c21b0 : (t240 == 0) = false := beq_eq_false_iff_ne.mpr c21
                   have c21b1 : (t240 != 0) = true := bne_iff_ne.mpr c21
                   obtain rfl := Option.some.inj H
                   go_wp2_with (first | ((with_reducible refine gate_dst (N := 53) rfl ?_); (try (refine gate_guard (by rfl) ?_; dsimp only)); refine Kd.N_lit k41 _ 41 ?hg (N' := 53) ?hd (xs := ([] : List (S41))) (inner := []) (ok := (fun k_ => some k_ ≠ (v231 : Value).ownBlock ∧ some k_ ≠ (v236 : Value).ownBlock ∧ some k_ ≠ (v241 : Value).ownBlock)) (okp := (fun k_ => some k_ ≠ (v231 : Value).ownBlock ∧ some k_ ≠ (v236 : Value).ownBlock ∧ some k_ ≠ (v241 : Value).ownBlock)) ?hr ?hp (fun _ hk => hk) ((show ∀ k_, wc.heap.size ≤ k_ → (fun k_ => some k_ ≠ (v231 : Value).ownBlock ∧ some k_ ≠ (v236 : Value).ownBlock ∧ some k_ ≠ (v241 : Value).ownBlock) k_ from fun k_ hk => ⟨Kd.fresh' (Kd.N_lt (by (with_reducible repeat (first | apply Kd.N_alloc | apply Kd.N_drewN | apply Kd.N_drew)); exact HO_6.out)) k_ hk, Kd.fresh' (Kd.N_lt (by (with_reducible repeat (first | apply Kd.N_alloc | apply Kd.N_drewN | apply Kd.N_drew)); exact HO_9.out)) k_ hk, Kd.fresh' (Kd.N_lt (by (with_reducible repeat (first | apply Kd.N_alloc | apply Kd.N_drewN | apply Kd.N_drew)); exact HO_12.out)) k_ hk⟩) _ (Nat.le_refl _)) (Below.refl _ _) (Nat.le_refl _) (by simp) ?_; (case hd => rfl); (case hg => rfl); (case hr => first | (go_simp; done) | (go_simp; rfl)); (case hp => exact (Reps.none _ _)); intro v244 w54 ho55 hb hg_ hnew_; clear hg_ hnew_; (first | rw [← Ny243.out] at ho55 | (simp only [Int.reduceToNat] at ho55; rw [← Ny243.out] at ho55)); have n0_ := Aside0.mk (Kd.N_elder' (by (with_reducible repeat (first | apply Kd.N_alloc | apply Kd.N_drewN | apply Kd.N_drew)); exact HO_6.out) (Kd.N_base ho55) hb); have n1_ := Aside0.mk (Kd.N_elder' (by (with_reducible repeat (first | apply Kd.N_alloc | apply Kd.N_drewN | apply Kd.N_drew)); exact HO_9.out) (Kd.N_base ho55) hb); have n2_ := Aside0.mk (Kd.N_elder' (by (with_reducible repeat (first | apply Kd.N_alloc | apply Kd.N_drewN | apply Kd.N_drew)); exact HO_12.out) (Kd.N_base ho55) hb); have n3_ := Aside0.mk (Kd.N_lower ho55 (below_size (by repeat (first | (with_reducible first | exact HB.out | apply below_alloc | apply pw_below_drewN | apply below_drew1) | exact HB.out)))); have n4_ := Aside0.mk (below_step (by repeat (first | (with_reducible first | exact HB.out | apply below_alloc | apply pw_below_drewN | apply below_drew1) | exact HB.out)) hb); clear HO_6; clear HO_9; clear HO_12; clear HB; have HO_6 := n0_; have HO_9 := n1_; have HO_12 := n2_; have HO245 := n3_; have HB := n4_; clear n0_ n1_ n2_ n3_ n4_; clear hb ho55; obtain ⟨Ao57, co57, eo57⟩ := Kd.N_slice HO_6.out; subst eo57) | ((with_reducible refine gate_builtin (b := .append) (xs := #[.tmp 53, .tmp 54]) rfl ?_); (try (refine gate_guard (by rfl) ?_; dsimp only)); at_builtin; refine Kd.N_append_rows k41 (w0 := w) w.heap.size rfl (.tmp 53) (.tmp 54) 23 41 (.agg #[(.string ⟨#[]⟩), (.int .u8 0), (.slice none 0 0)]) 48 rfl Tryd.underlying23 info41 rfl (by decide) (by omega) v244 y243 t228 _ _ _ (fun k_ => some k_ ≠ (v236 : Value).ownBlock ∧ some k_ ≠ (v241 : Value).ownBlock) (fun k_ => ((fun k_ => some k_ ≠ (v236 : Value).ownBlock ∧ some k_ ≠ (v241 : Value).ownBlock)) k_ ∧ some k_ ≠ (v244 : Value).ownBlock) rfl rfl ?aO ?aR (fun _ hk => hk) ?aF ?aB ?aS ?aL ?_; (case aR => exact (by skip; exact Kd.N_F (Kd.N_mono (ok' := (fun k_ => ((fun k_ => some k_ ≠ (v236 : Value).ownBlock ∧ some k_ ≠ (v241 : Value).ownBlock)) k_ ∧ some k_ ≠ (v244 : Value).ownBlock)) (HO_6.out) (fun k_ hk => ⟨⟨hk.1.1, hk.1.2⟩, hk.2⟩)))); (case aB => exact (by repeat (first | (with_reducible first | exact HB.out | apply below_alloc | apply pw_below_drewN | apply below_drew1) | exact HB.out))); (case aF => exact (fun k_ hk => ⟨Kd.fresh' (Kd.N_lt (by (with_reducible repeat (first | apply Kd.N_alloc | apply Kd.N_drewN | apply Kd.N_drew)); exact HO_9.out)) k_ hk, Kd.fresh' (Kd.N_lt (by (with_reducible repeat (first | apply Kd.N_alloc | apply Kd.N_drewN | apply Kd.N_drew)); exact HO_12.out)) k_ hk⟩)); (case aO => exact (by (with_reducible repeat (first | apply Kd.N_alloc | apply Kd.N_drewN | apply Kd.N_drew)); exact Kd.N_mono HO245.out (fun _ hk => ⟨hk.2.1, hk.2.2⟩))); (case aS => exact (below_size (by repeat (first | (with_reducible first | exact HB.out | apply below_alloc | apply pw_below_drewN | apply below_drew1) | exact HB.out)))); (case aL => have := LMc18.out; omega); intro v247 w56 ho hb hg hat; rw [← Ny246.out] at ho; have n0_ := Aside0.mk (Kd.N_afterv (ok := (fun k_ => some k_ ≠ (v236 : Value).ownBlock ∧ some k_ ≠ (v241 : Value).ownBlock)) (by (with_reducible repeat (first | apply Kd.N_alloc | apply Kd.N_drewN | apply Kd.N_drew)); exact HO_6.out) hg hat); have n1_ := Aside0.mk (Kd.N_afterv (ok := (fun k_ => some k_ ≠ (.slice Ao57 t228.length co57 : Value).ownBlock ∧ some k_ ≠ (v241 : Value).ownBlock)) (by (with_reducible repeat (first | apply Kd.N_alloc | apply Kd.N_drewN | apply Kd.N_drew)); exact HO_9.out) hg hat); have n2_ := Aside0.mk (Kd.N_afterv (ok := (fun k_ => some k_ ≠ (.slice Ao57 t228.length co57 : Value).ownBlock ∧ some k_ ≠ (v236 : Value).ownBlock)) (by (with_reducible repeat (first | apply Kd.N_alloc | apply Kd.N_drewN | apply Kd.N_drew)); exact HO_12.out) hg hat); have n3_ := Aside0.mk (hb); have n4_ := Aside0.mk (ho); clear HO_6; clear HO_9; clear HO_12; clear HB; clear HO245; have HO_6 := n0_; have HO_9 := n1_; have HO_12 := n2_; have HB := n3_; have HO248 := n4_; clear n0_ n1_ n2_ n3_ n4_; clear ho hb hg hat; obtain ⟨Ao59, co59, eo59⟩ := Kd.N_slice HO_9.out; subst eo59) | ((with_reducible refine gate_builtin (b := .append) (xs := #[.tmp 55, .tmp 56]) rfl ?_); (try (refine gate_guard (by rfl) ?_; dsimp only)); at_builtin; refine Kd.N_append_rows k41 (w0 := w) w.heap.size rfl (.tmp 55) (.tmp 56) 23 41 (.agg #[(.string ⟨#[]⟩), (.int .u8 0), (.slice none 0 0)]) 48 rfl Tryd.underlying23 info41 rfl (by decide) (by omega) v247 y246 t233 _ _ _ (fun k_ => some k_ ≠ (v241 : Value).ownBlock) (fun k_ => ((fun k_ => some k_ ≠ (v241 : Value).ownBlock)) k_ ∧ some k_ ≠ (v247 : Value).ownBlock) rfl rfl ?aO ?aR (fun _ hk => hk) ?aF ?aB ?aS ?aL ?_; (case aR => exact (by skip; exact Kd.N_F (Kd.N_mono (ok' := (fun k_ => ((fun k_ => some k_ ≠ (v241 : Value).ownBlock)) k_ ∧ some k_ ≠ (v247 : Value).ownBlock)) (HO_9.out) (fun k_ hk => ⟨hk.1.2, hk.2⟩)))); (case aB => exact (by repeat (first | (with_reducible first | exact HB.out | apply below_alloc | apply pw_below_drewN | apply below_drew1) | exact HB.out))); (case aF => exact (fun k_ hk => Kd.fresh' (Kd.N_lt (by (with_reducible repeat (first | apply Kd.N_alloc | apply Kd.N_drewN | apply Kd.N_drew)); exact HO_12.out)) k_ hk)); (case aO => exact (by (with_reducible repeat (first | apply Kd.N_alloc | apply Kd.N_drewN | apply Kd.N_drew)); exact Kd.N_mono HO248.out (fun _ hk => hk.2))); (case aS => exact (below_size (by repeat (first | (with_reducible first | exact HB.out | apply below_alloc | apply pw_below_drewN | apply below_drew1) | exact HB.out)))); (case aL => have := LMc19.out; omega); intro v250 w58 ho hb hg hat; rw [← Ny249.out] at ho; have n0_ := Aside0.mk (Kd.N_afterv (ok := (fun k_ => some k_ ≠ (.slice Ao59 t233.length co59 : Value).ownBlock ∧ some k_ ≠ (v241 : Value).ownBlock)) (by (with_reducible repeat (first | apply Kd.N_alloc | apply Kd.N_drewN | apply Kd.N_drew)); exact HO_6.out) hg hat); have n1_ := Aside0.mk (Kd.N_afterv (ok := (fun k_ => some k_ ≠ (.slice Ao57 t228.length co57 : Value).ownBlock ∧ some k_ ≠ (v241 : Value).ownBlock)) (by (with_reducible repeat (first | apply Kd.N_alloc | apply Kd.N_drewN | apply Kd.N_drew)); exact HO_9.out) hg hat); have n2_ := Aside0.mk (Kd.N_afterv (ok := (fun k_ => some k_ ≠ (.slice Ao57 t228.length co57 : Value).ownBlock ∧ some k_ ≠ (.slice Ao59 t233.length co59 : Value).ownBlock)) (by (with_reducible repeat (first | apply Kd.N_alloc | apply Kd.N_drewN | apply Kd.N_drew)); exact HO_12.out) hg hat); have n3_ := Aside0.mk (hb); have n4_ := Aside0.mk (ho); clear HO_6; clear HO_9; clear HO_12; clear HB; clear HO248; have HO_6 := n0_; have HO_9 := n1_; have HO_12 := n2_; have HB := n3_; have HO251 := n4_; clear n0_ n1_ n2_ n3_ n4_; clear ho hb hg hat))
                   go_ret
                   exact ⟨by first | rfl | (simp [errW_none, errW_some] <;> rfl) | (simp [*, errW_none, errW_some] <;> rfl), by repeat (first | (with_reducible first | exact HB.out | apply below_alloc | apply pw_below_drewN | apply below_drew1) | exact HB.out)⟩
               · replace c20 := Bool.eq_false_iff.mpr c20
                 subst c20
                 have H1 : (some false) = some r := by rw [if_neg (show ¬ (false = true) by decide)] at H; exact H
                 clear H
                 have H := H1
                 clear H1
                 obtain rfl := Option.some.inj H
                 go_wp2_with (first | ((with_reducible refine gate_dst (N := 53) rfl ?_); (try (refine gate_guard (by rfl) ?_; dsimp only)); refine Kd.N_lit k41 _ 41 ?hg (N' := 53) ?hd (xs := ([] : List (S41))) (inner := []) (ok := (fun k_ => some k_ ≠ (v231 : Value).ownBlock ∧ some k_ ≠ (v236 : Value).ownBlock ∧ some k_ ≠ (v241 : Value).ownBlock)) (okp := (fun k_ => some k_ ≠ (v231 : Value).ownBlock ∧ some k_ ≠ (v236 : Value).ownBlock ∧ some k_ ≠ (v241 : Value).ownBlock)) ?hr ?hp (fun _ hk => hk) ((show ∀ k_, wc.heap.size ≤ k_ → (fun k_ => some k_ ≠ (v231 : Value).ownBlock ∧ some k_ ≠ (v236 : Value).ownBlock ∧ some k_ ≠ (v241 : Value).ownBlock) k_ from fun k_ hk => ⟨Kd.fresh' (Kd.N_lt (by (with_reducible repeat (first | apply Kd.N_alloc | apply Kd.N_drewN | apply Kd.N_drew)); exact HO_6.out)) k_ hk, Kd.fresh' (Kd.N_lt (by (with_reducible repeat (first | apply Kd.N_alloc | apply Kd.N_drewN | apply Kd.N_drew)); exact HO_9.out)) k_ hk, Kd.fresh' (Kd.N_lt (by (with_reducible repeat (first | apply Kd.N_alloc | apply Kd.N_drewN | apply Kd.N_drew)); exact HO_12.out)) k_ hk⟩) _ (Nat.le_refl _)) (Below.refl _ _) (Nat.le_refl _) (by simp) ?_; (case hd => rfl); (case hg => rfl); (case hr => first | (go_simp; done) | (go_simp; rfl)); (case hp => exact (Reps.none _ _)); intro v244 w60 ho61 hb hg_ hnew_; clear hg_ hnew_; (first | rw [← Ny243.out] at ho61 | (simp only [Int.reduceToNat] at ho61; rw [← Ny243.out] at ho61)); have n0_ := Aside0.mk (Kd.N_elder' (by (with_reducible repeat (first | apply Kd.N_alloc | apply Kd.N_drewN | apply Kd.N_drew)); exact HO_6.out) (Kd.N_base ho61) hb); have n1_ := Aside0.mk (Kd.N_elder' (by (with_reducible repeat (first | apply Kd.N_alloc | apply Kd.N_drewN | apply Kd.N_drew)); exact HO_9.out) (Kd.N_base ho61) hb); have n2_ := Aside0.mk (Kd.N_elder' (by (with_reducible repeat (first | apply Kd.N_alloc | apply Kd.N_drewN | apply Kd.N_drew)); exact HO_12.out) (Kd.N_base ho61) hb); have n3_ := Aside0.mk (Kd.N_lower ho61 (below_size (by repeat (first | (with_reducible first | exact HB.out | apply below_alloc | apply pw_below_drewN | apply below_drew1) | exact HB.out)))); have n4_ := Aside0.mk (below_step (by repeat (first | (with_reducible first | exact HB.out | apply below_alloc | apply pw_below_drewN | apply below_drew1) | exact HB.out)) hb); clear HO_6; clear HO_9; clear HO_12; clear HB; have HO_6 := n0_; have HO_9 := n1_; have HO_12 := n2_; have HO245 := n3_; have HB := n4_; clear n0_ n1_ n2_ n3_ n4_; clear hb ho61; obtain ⟨Ao63, co63, eo63⟩ := Kd.N_slice HO_6.out; subst eo63) | ((with_reducible refine gate_builtin (b := .append) (xs := #[.tmp 53, .tmp 54]) rfl ?_); (try (refine gate_guard (by rfl) ?_; dsimp only)); at_builtin; refine Kd.N_append_rows k41 (w0 := w) w.heap.size rfl (.tmp 53) (.tmp 54) 23 41 (.agg #[(.string ⟨#[]⟩), (.int .u8 0), (.slice none 0 0)]) 48 rfl Tryd.underlying23 info41 rfl (by decide) (by omega) v244 y243 t228 _ _ _ (fun k_ => some k_ ≠ (v236 : Value).ownBlock ∧ some k_ ≠ (v241 : Value).ownBlock) (fun k_ => ((fun k_ => some k_ ≠ (v236 : Value).ownBlock ∧ some k_ ≠ (v241 : Value).ownBlock)) k_ ∧ some k_ ≠ (v244 : Value).ownBlock) rfl rfl ?aO ?aR (fun _ hk => hk) ?aF ?aB ?aS ?aL ?_; (case aR => exact (by skip; exact Kd.N_F (Kd.N_mono (ok' := (fun k_ => ((fun k_ => some k_ ≠ (v236 : Value).ownBlock ∧ some k_ ≠ (v241 : Value).ownBlock)) k_ ∧ some k_ ≠ (v244 : Value).ownBlock)) (HO_6.out) (fun k_ hk => ⟨⟨hk.1.1, hk.1.2⟩, hk.2⟩)))); (case aB => exact (by repeat (first | (with_reducible first | exact HB.out | apply below_alloc | apply pw_below_drewN | apply below_drew1) | exact HB.out))); (case aF => exact (fun k_ hk => ⟨Kd.fresh' (Kd.N_lt (by (with_reducible repeat (first | apply Kd.N_alloc | apply Kd.N_drewN | apply Kd.N_drew)); exact HO_9.out)) k_ hk, Kd.fresh' (Kd.N_lt (by (with_reducible repeat (first | apply Kd.N_alloc | apply Kd.N_drewN | apply Kd.N_drew)); exact HO_12.out)) k_ hk⟩)); (case aO => exact (by (with_reducible repeat (first | apply Kd.N_alloc | apply Kd.N_drewN | apply Kd.N_drew)); exact Kd.N_mono HO245.out (fun _ hk => ⟨hk.2.1, hk.2.2⟩))); (case aS => exact (below_size (by repeat (first | (with_reducible first | exact HB.out | apply below_alloc | apply pw_below_drewN | apply below_drew1) | exact HB.out)))); (case aL => have := LMc18.out; omega); intro v247 w62 ho hb hg hat; rw [← Ny246.out] at ho; have n0_ := Aside0.mk (Kd.N_afterv (ok := (fun k_ => some k_ ≠ (v236 : Value).ownBlock ∧ some k_ ≠ (v241 : Value).ownBlock)) (by (with_reducible repeat (first | apply Kd.N_alloc | apply Kd.N_drewN | apply Kd.N_drew)); exact HO_6.out) hg hat); have n1_ := Aside0.mk (Kd.N_afterv (ok := (fun k_ => some k_ ≠ (.slice Ao63 t228.length co63 : Value).ownBlock ∧ some k_ ≠ (v241 : Value).ownBlock)) (by (with_reducible repeat (first | apply Kd.N_alloc | apply Kd.N_drewN | apply Kd.N_drew)); exact HO_9.out) hg hat); have n2_ := Aside0.mk (Kd.N_afterv (ok := (fun k_ => some k_ ≠ (.slice Ao63 t228.length co63 : Value).ownBlock ∧ some k_ ≠ (v236 : Value).ownBlock)) (by (with_reducible repeat (first | apply Kd.N_alloc | apply Kd.N_drewN | apply Kd.N_drew)); exact HO_12.out) hg hat); have n3_ := Aside0.mk (hb); have n4_ := Aside0.mk (ho); clear HO_6; clear HO_9; clear HO_12; clear HB; clear HO245; have HO_6 := n0_; have HO_9 := n1_; have HO_12 := n2_; have HB := n3_; have HO248 := n4_; clear n0_ n1_ n2_ n3_ n4_; clear ho hb hg hat; obtain ⟨Ao65, co65, eo65⟩ := Kd.N_slice HO_9.out; subst eo65) | ((with_reducible refine gate_builtin (b := .append) (xs := #[.tmp 55, .tmp 56]) rfl ?_); (try (refine gate_guard (by rfl) ?_; dsimp only)); at_builtin; refine Kd.N_append_rows k41 (w0 := w) w.heap.size rfl (.tmp 55) (.tmp 56) 23 41 (.agg #[(.string ⟨#[]⟩), (.int .u8 0), (.slice none 0 0)]) 48 rfl Tryd.underlying23 info41 rfl (by decide) (by omega) v247 y246 t233 _ _ _ (fun k_ => some k_ ≠ (v241 : Value).ownBlock) (fun k_ => ((fun k_ => some k_ ≠ (v241 : Value).ownBlock)) k_ ∧ some k_ ≠ (v247 : Value).ownBlock) rfl rfl ?aO ?aR (fun _ hk => hk) ?aF ?aB ?aS ?aL ?_; (case aR => exact (by skip; exact Kd.N_F (Kd.N_mono (ok' := (fun k_ => ((fun k_ => some k_ ≠ (v241 : Value).ownBlock)) k_ ∧ some k_ ≠ (v247 : Value).ownBlock)) (HO_9.out) (fun k_ hk => ⟨hk.1.2, hk.2⟩)))); (case aB => exact (by repeat (first | (with_reducible first | exact HB.out | apply below_alloc | apply pw_below_drewN | apply below_drew1) | exact HB.out))); (case aF => exact (fun k_ hk => Kd.fresh' (Kd.N_lt (by (with_reducible repeat (first | apply Kd.N_alloc | apply Kd.N_drewN | apply Kd.N_drew)); exact HO_12.out)) k_ hk)); (case aO => exact (by (with_reducible repeat (first | apply Kd.N_alloc | apply Kd.N_drewN | apply Kd.N_drew)); exact Kd.N_mono HO248.out (fun _ hk => hk.2))); (case aS => exact (below_size (by repeat (first | (with_reducible first | exact HB.out | apply below_alloc | apply pw_below_drewN | apply below_drew1) | exact HB.out)))); (case aL => have := LMc19.out; omega); intro v250 w64 ho hb hg hat; rw [← Ny249.out] at ho; have n0_ := Aside0.mk (Kd.N_afterv (ok := (fun k_ => some k_ ≠ (.slice Ao65 t233.length co65 : Value).ownBlock ∧ some k_ ≠ (v241 : Value).ownBlock)) (by (with_reducible repeat (first | apply Kd.N_alloc | apply Kd.N_drewN | apply Kd.N_drew)); exact HO_6.out) hg hat); have n1_ := Aside0.mk (Kd.N_afterv (ok := (fun k_ => some k_ ≠ (.slice Ao63 t228.length co63 : Value).ownBlock ∧ some k_ ≠ (v241 : Value).ownBlock)) (by (with_reducible repeat (first | apply Kd.N_alloc | apply Kd.N_drewN | apply Kd.N_drew)); exact HO_9.out) hg hat); have n2_ := Aside0.mk (Kd.N_afterv (ok := (fun k_ => some k_ ≠ (.slice Ao63 t228.length co63 : Value).ownBlock ∧ some k_ ≠ (.slice Ao65 t233.length co65 : Value).ownBlock)) (by (with_reducible repeat (first | apply Kd.N_alloc | apply Kd.N_drewN | apply Kd.N_drew)); exact HO_12.out) hg hat); have n3_ := Aside0.mk (hb); have n4_ := Aside0.mk (ho); clear HO_6; clear HO_9; clear HO_12; clear HB; clear HO248; have HO_6 := n0_; have HO_9 := n1_; have HO_12 := n2_; have HB := n3_; have HO251 := n4_; clear n0_ n1_ n2_ n3_ n4_; clear ho hb hg hat))
                 go_ret
                 exact ⟨by first | rfl | (simp [errW_none, errW_some] <;> rfl) | (simp [*, errW_none, errW_some] <;> rfl), by repeat (first | (with_reducible first | exact HB.out | apply below_alloc | apply pw_below_drewN | apply below_drew1) | exact HB.out)⟩
             · rw [if_neg c19] at H
               exact absurd H (by simp)
           · rw [if_neg c18] at H
             exact absurd H (by simp)
     · rw [if_neg c10] at H
       exact absurd H (by simp)
end Go.Proofs.YtkipkbggnfllkaaDoor.P
end
section
namespace Go.Proofs.YtkipkbggnfllkaaDoor.P
open Go.RowKit Go.Proofs.YtkipkbggnfllkaaDoorW.PrintWords Go.Proofs.YtkipkbggnfllkaaDoorW.PrintLast Go.Proofs.YtkipkbggnfllkaaDoorW.PrintMore
set_option linter.unusedVariables false
theorem joins_awake_ev : Ev (fun k => lw_awake.f k) true := Ev.of (fun k => lw_awake.mono k) (show lw_awake.f 60 = some true by kernel_rfl)
theorem expr_count : ∀ (d : Nat) (l : List Nat) (vs : List MVar) (t : List Nat), exprN d l = some (vs, t) → vs.length + t.length ≤ l.length
 | 0, _, _, _, h => by cases h
 | d + 1, l, vs, t, h => by
  simp only [exprN] at h
  cases hc : cut l with
  | none =>
   rw [hc] at h
   cases h
  | some p =>
   obtain ⟨a, c, r⟩ := p
   obtain ⟨hl, -, -⟩ := cut_some hc
   rw [hc] at h
   simp only at h
   have hlen : l.length = a.length + (r.length + 1) := by rw [hl, List.length_append, List.length_cons]
   cases hm : mVar a with
   | none =>
    rw [hm] at h
    cases h
   | some v =>
    rw [hm] at h
    simp only at h
    by_cases h1 : c = 125
    · rw [if_pos h1] at h
      cases h
      simp only [List.length_cons, List.length_nil]
      omega
    · rw [if_neg h1] at h
      cases hx : exprN d r with
      | none =>
       rw [hx] at h
       cases h
      | some q =>
       obtain ⟨ws, u⟩ := q
       rw [hx] at h
       cases h
       have := expr_count d r _ _ hx
       simp only [List.length_cons]
       omega
theorem mP_count : ∀ (d : Nat) (l : List Nat) (ps : List MPart), mP d l = some ps → ps.length ≤ l.length ∧ (specsOf ps).length ≤ l.length
 | d, [], ps, h => by
  rw [mP_nil] at h
  cases h
  exact ⟨Nat.le_refl _, Nat.le_refl _⟩
 | 0, _ :: _, _, h => by cases h
 | d + 1, b :: r, ps, h => by
  simp only [mP] at h
  by_cases hb : b = 123
  · rw [if_pos hb] at h
    cases hx : exprN (r.length + 1) (opN r).2 with
    | none =>
     rw [hx] at h
     cases h
    | some q =>
     obtain ⟨vs, t⟩ := q
     rw [hx] at h
     simp only at h
     have h1 := expr_count _ _ _ _ hx
     have h2 := opN_length r
     cases hm : mP d t with
     | none =>
      rw [hm] at h
      cases h
     | some qs =>
      rw [hm] at h
      cases h
      obtain ⟨i1, i2⟩ := mP_count d t qs hm
      have e : specsOf (⟨[], (opN r).1, vs⟩ :: qs) = vs ++ specsOf qs := rfl
      rw [e, List.length_append]
      simp only [List.length_cons]
      have := expr_shorter (by omega) hx
      exact ⟨by omega, by omega⟩
  · rw [if_neg hb] at h
    by_cases hz : piecesN (r.length + 2) (b :: r) = 0
    · rw [if_pos hz] at h
      cases h
    · rw [if_neg hz] at h
      obtain ⟨q1, -⟩ := pieces_top (r.length + 2) (b :: r)
      cases hm : mP d ((b :: r).drop (piecesN (r.length + 2) (b :: r))) with
      | none =>
       rw [hm] at h
       cases h
      | some qs =>
       rw [hm] at h
       cases h
       obtain ⟨i1, i2⟩ := mP_count d _ qs hm
       rw [List.length_drop] at i1 i2
       have e : specsOf (⟨(b :: r).take (piecesN (r.length + 2) (b :: r)), 0, []⟩ :: qs) = specsOf qs := rfl
       rw [e]
       rw [List.length_cons] at i1 i2 ⊢
       simp only [List.length_cons]
       exact ⟨by omega, by omega⟩
theorem joins_pure (a b : ByteArray) : ∃ k, lw_TmplJoins.f k a b = some true := by
 refine Ev.rounds (g := fun k => lw_TmplJoins.f k a b) ?_
 unfold lw_TmplJoins.f
 refine joins_awake_ev.bind ?_
 have hout : Ev (fun k => lw_TmplJoins.j0 k a b true true) true := Ev.step (f := fun _ => some true) (fun k => by simp only [lw_TmplJoins.j0]; rw [if_pos trivial]) (Ev.now _)
 by_cases ha : (a.size : Int) > 100
 · exact Ev.pos ha hout
 refine Ev.neg ha ?_
 by_cases hb : (b.size : Int) > 100
 · rw [decide_eq_true hb]
   exact hout
 rw [decide_eq_false hb]
 have hsz : (a ++ b).size = a.size + b.size := ByteArray.size_append
 obtain ⟨x, e, h1, h2, h3⟩ := prog_parse1 a (by omega)
 obtain ⟨y, f, g1, g2, g3⟩ := prog_parse1 b (by omega)
 obtain ⟨z, g, k1, k2, k3⟩ := prog_parse1 (a ++ b) (by omega)
 have hdone : ∀ (p q r : List S41) (n : Int), Ev (fun k => lw_TmplJoins.j1 k true p q r n true) true := fun p q r n => Ev.step (f := fun _ => some true) (fun k => by simp only [lw_TmplJoins.j1]; rw [if_pos trivial]) (Ev.now _)
 refine Ev.step (f := fun k => (tmpl_Parse.f k a).bind fun bt228 => ((tmpl_Parse.f k b).bind fun bt233 => ((tmpl_Parse.f k (a ++ b)).bind fun bt238 => (if bt228.2.2 = 0 then (lw_TmplJoins.j1 k true bt228.1 bt233.1 bt238.1 bt238.2.2 (bt233.2.2 != 0)) else (lw_TmplJoins.j1 k true bt228.1 bt233.1 bt238.1 bt238.2.2 true))))) (fun k => ?_) (h1.bind (g1.bind (k1.bind ?_)))
 · have c1 : (a.size + b.size ≤ 9223372036854775807) = True := eq_true (by omega)
   simp only [lw_TmplJoins.j0, Bool.false_eq_true, if_false, c1, if_true]
 · by_cases hra : run step .top (bs a) = some .top
   · obtain ⟨he, hxm⟩ := h2 hra
     refine Ev.pos he ?_
     by_cases hrb : run step .top (bs b) = some .top
     · obtain ⟨hf, hym⟩ := g2 hrb
       have hrz : run step .top (bs (a ++ b)) = some .top := by rw [bs_append, run_append, hra, Option.bind_some, hrb]
       obtain ⟨hg, hzm⟩ := k2 hrz
       rw [show (f != 0) = false by rw [hf]; rfl]
       obtain ⟨w, w1, w2⟩ := mP_append a.size (bs a) (x.map pM) (by rw [bs_length]; exact Nat.le_refl _) hxm b.size (bs b) (y.map pM) (by rw [bs_length]; exact Nat.le_refl _) hym (a ++ b).size (by rw [← bs_append, bs_length]; exact Nat.le_refl _)
       rw [← bs_append, hzm] at w1
       have hw : w = z.map pM := (Option.some.inj w1).symm
       have hnames : tNames z = tNames (x ++ y) := by
        apply map_bs_inj
        rw [tNames_bs, tNames_bs, List.map_append, List.flatMap_append]
        have : (z.map pM).flatMap (·.specs) = (x.map pM).flatMap (·.specs) ++ (y.map pM).flatMap (·.specs) := by
         rw [← hw]
         exact w2
        rw [this]
       obtain ⟨cz1, cz2⟩ := mP_count _ _ _ hzm
       obtain ⟨cx1, -⟩ := mP_count _ _ _ hxm
       obtain ⟨cy1, -⟩ := mP_count _ _ _ hym
       rw [List.length_map, bs_length] at cz1 cx1 cy1
       rw [bs_length] at cz2
       have hcount : (tNames z).length ≤ 1000 := by
        have : (tNames z).length = ((tNames z).map bs).length := (List.length_map ..).symm
        rw [this, tNames_bs, List.length_map]
        have e2 : ((z.map pM).flatMap (·.specs)).length = (specsOf (z.map pM)).length := rfl
        omega
       have hlen : (x ++ y).length ≤ 1000 := by rw [List.length_append]; omega
       have n1 := prog_Names z (by omega) (by omega)
       have n2 := ref_names (x ++ y) (by omega) (by rw [← hnames]; omega)
       have n3 := prog_Once z (by omega) (by omega)
       have n4 := prog_Once (x ++ y) (by omega) (by rw [← hnames]; omega)
       rw [← hnames] at n2 n4
       have hnl := nub_length (tNames z) []
       rw [List.length_nil, Nat.zero_add] at hnl
       have n5 := ref_texts (nub [] (tNames z)) (by omega)
       refine Ev.step (f := fun k => ((tmpl_Names.f k z).bind fun t252 => ((rf07_Names.f k (x ++ y)).bind fun t255 => ((rf05_Texts.f k t252 t255).bind fun t258 => (if t258 = true then ((tmpl_Once.f k z).bind fun t259 => ((tmpl_Once.f k (x ++ y)).bind fun t260 => (some (t259 == t260)))) else (some false)))))) (fun k => ?_) (n1.bind (n2.bind (n5.bind (Ev.pos rfl (n3.bind (n4.bind ?_))))))
       · have c1 : (0 + x.length < 2932031007402) = True := eq_true (by omega)
         have c2 : (x.length + y.length < 2932031007402) = True := eq_true (by omega)
         simp only [lw_TmplJoins.j1, Bool.false_eq_true, if_false, Option.bind_some, List.length_nil, List.nil_append, c1, c2, hg, if_true]
       · rw [beq_self_eq_true]
         exact Ev.now _
     · obtain ⟨hf, -⟩ := g3 hrb
       rw [show (f != 0) = true by rw [hf]; rfl]
       exact hdone _ _ _ _
   · obtain ⟨he, -⟩ := h3 hra
     exact Ev.neg (by show ¬ e = 0; omega) (hdone _ _ _ _)
end Go.Proofs.YtkipkbggnfllkaaDoor.P
end
section
namespace Go.Proofs.YtkipkbggnfllkaaDoor
open Go.ChangeShapes Go.WideShapes Go.ChangeAt Go.RowKit
open Go.ChangeMaps (open_string shut_string)
set_option linter.unusedVariables false
set_option maxRecDepth 100000
theorem joins_law (s0 : ByteArray) (s1 : ByteArray)  (w : World) (hG : P.Gl w) : Calls Tryd.prog 5 #[.string s0, .string s1] w fun e w' => e = .returned (.bool true) ∧ Below w.heap.size w w' := by
 obtain ⟨k, hk⟩ := P.joins_pure s0 s1
 exact P.lw_TmplJoins.calls k s0 s1 true w hG hk
theorem joins_own : ownKnob Tryd.prog.godebug = none := by kernel_rfl
theorem joins_lifted (os : Os) (started : os.Started) (H : Type) (enc : TypeId × Value → H) :
 ReturnsInHanded {} Tryd.checked os 5 .any (fun w args => (Rows.tmplJoinsSpec.pre enc Tryd.prog Tryd.f5 [] false w args ∧ laidMetH Tryd.prog Rows.tmplJoinsRow.laid w) ∧ sizedMet enc Tryd.prog Tryd.f5 (OpenSpec.ofChange Rows.tmplJoinsSpec) false w args)
  (Rows.tmplJoinsSpec.post enc Tryd.prog Tryd.f5 false true false false) := by
 refine returnsInHanded_of_change_and (C := Tryd.checked) (X := fun w _ => laidMetH Tryd.prog Rows.tmplJoinsRow.laid w) (fun _ _ _ hh h => h.of_heap hh) joins_own started (by kernel_rfl) Tryd.func5
  (ChangeSpec.witness_shaped (enc := enc) (C := Tryd.checked) (os := os) (X := fun w _ => laidMetH Tryd.prog Rows.tmplJoinsRow.laid w) false (World.laidAll Tryd.prog os Rows.tmplJoinsRow.laid) #[.string ByteArray.empty, .string ByteArray.empty] 8 (World.laidAll_os _ _ _)
   (World.shaped_of_ZipB (by kernel_rfl) (by kernel_rfl)) (by kernel_rfl) (by kernel_rfl) (by kernel_rfl)
   (by rw [MakeChecks.laidMetH_plain _ _ _ (by kernel_rfl)]; exact laidMet_laidAll _ (by kernel_rfl) (by kernel_rfl))) ?_
 intro W base args ds gs before hval0 hW _ _ hX _
 have hval : ∀ (j : Nat) t v, Tryd.f5.params[j]? = some t → args[j]? = some v → Value.okWide Tryd.prog W .any base t v := hval0
 have hW' := hW
 obtain ⟨p, q, hA0, hV, rfl, _, _⟩ := hW
 have hA : DataW.TrodAll enc Tryd.prog W 0 (fun _ => true) true Tryd.f5.params.toList args.toList ds p := hA0
 rw [Tryd.params5] at hA hval
 obtain ⟨v0, v1, d0, d1, p0, p1, rfl, rfl, rfl, h0, h1⟩ := trodAll_two hA
 obtain ⟨rfl, rfl⟩ := trodVars_none hV
 obtain ⟨x0, rfl, rfl, rfl, y0⟩ := open_string Tryd.underlying9 (hval 0 9 v0 rfl rfl) h0
 obtain ⟨x1, rfl, rfl, rfl, y1⟩ := open_string Tryd.underlying9 (hval 1 9 v1 rfl rfl) h1
 simp only [List.append_nil] at hW'
 rw [MakeChecks.laidMetH_plain _ _ _ (by kernel_rfl)] at hX
 refine (joins_law x0 x1 W (gl_of_laid hX)).mono fun e W' ⟨he, hb⟩ => ?_
 subst he
 exact ⟨_, rfl, _, _, _, [], [], [], hW', trodAll_mk1 (shut_bool Tryd.underlying4 _), trodAll_mk2 (shut_string Tryd.underlying9 y0) (shut_string Tryd.underlying9 y1), rfl, hb.frame _, fun h => by cases h⟩
theorem joins_holds : Rows.TmplJoinsSaid :=
 OpenClaim.holds_of_wide 5 Tryd.f5 rfl rfl rfl rfl rfl rfl rfl ⟨rfl, rfl, rfl, rfl, rfl⟩ rfl rfl rfl rfl rfl (by kernel_rfl) Tryd.func5 (by kernel_rfl)
  (of_decide_eq_true (by kernel_rfl)) (by unfold Func.isWrapper; first | (rw [if_pos (by decide +kernel)]; kernel_rfl) | (rw [if_neg (by decide +kernel)]; exact ⟨rfl, rfl⟩))
  (fun os started H enc _ => joins_lifted os started H enc)
theorem joins_card : Rows.TmplJoinsCardSaid :=
 Claim7.holds_tied_plain_at .later [] [.data, .data, .data, .sentinel, .sentinel] true _ true
  joins_holds (fun _ h => by cases h) (by kernel_rfl) (fun _ h => by cases h) tmplJoins_row_tie rfl ⟨rfl, rfl⟩ (by kernel_rfl) rfl
  (fun f fn hf hfn => by
   have e1 : f = 5 := Option.some.inj (hf.symm.trans (by kernel_rfl))
   subst e1
   obtain rfl : fn = Tryd.f5 := (Option.some.inj (Tryd.func5.symm.trans hfn)).symm
   exact ⟨by kernel_rfl, fun j t ht => by
    rw [Tryd.params5] at ht
    have hm : t ∈ [9, 9] := by simpa using Array.mem_of_getElem? ht
    simp only [List.mem_cons, List.not_mem_nil, or_false] at hm
    have ht : t = 9 := by rcases hm with h | h <;> exact h
    subst ht
    exact (show Tryd.prog.wantsStandIn 9 = false by kernel_rfl)⟩)
  (by kernel_rfl)
end Go.Proofs.YtkipkbggnfllkaaDoor
end
