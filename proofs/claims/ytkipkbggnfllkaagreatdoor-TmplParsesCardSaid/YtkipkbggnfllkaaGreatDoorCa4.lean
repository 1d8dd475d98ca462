/- What is proved here is used by the law's card: Fphalaroperef07Same, Bs, Utf8, Auto, Var, Gram, RefName, Uat, Ends, Figs, RefIs, RefUtf, RefFits, RefParse, RefParse2, Alive, RefBegins. -/
import Derived.Test.YtkipkbggnfllkaaGreatDoorCa3
section
namespace Go.Proofs.YtkipkbggnfllkaaGreatDoor.P
open Go.RowKit Go.Proofs.YtkipkbggnfllkaaGreatDoorW.PrintWords Go.Proofs.YtkipkbggnfllkaaGreatDoorW.PrintLast Go.Proofs.YtkipkbggnfllkaaGreatDoorW.PrintMore
attribute [local go_sem] max2_int min2_int max_two min_two max_three min_three max_four min_four
set_option linter.unusedVariables false
set_option linter.unusedSimpArgs false
attribute [local go_sem high] eqA43
mutual
def rf07_Same.l0 : Nat → List (S41) → List (S41) → Int → Option (Bool)
 | 0, _, _, _ => none
 | k + 1, x0, x1, x5 => if x5 < (x0.length : Int) then (if 0 ≤ x5 then (if x5 < (x1.length : Int) then (if ((rd_T41 x0 x5).f0).toList = ((rd_T41 x1 x5).f0).toList then (if ((rd_T41 x0 x5).f1) = ((rd_T41 x1 x5).f1) then (rf07_Same.j1 k x0 x1 x5 ((((rd_T41 x0 x5).f2).length : Int) != (((rd_T41 x1 x5).f2).length : Int))) else (rf07_Same.j1 k x0 x1 x5 true)) else (rf07_Same.j1 k x0 x1 x5 true)) else (none)) else (none)) else (some true)
def rf07_Same.j1 : Nat → List (S41) → List (S41) → Int → Bool → Option (Bool)
 | 0, _, _, _, _ => none
 | k + 1, x0, x1, x5, x56 => if x56 = true then (some false) else (rf07_Same.l1 k x0 x1 x5 0)
def rf07_Same.l1 : Nat → List (S41) → List (S41) → Int → Int → Option (Bool)
 | 0, _, _, _, _ => none
 | k + 1, x0, x1, x5, x6 => if 0 ≤ x5 then (if x5 < (x0.length : Int) then (if x6 < (((rd_T41 x0 x5).f2).length : Int) then (if 0 ≤ x6 then (if x5 < (x1.length : Int) then (if x6 < (((rd_T41 x1 x5).f2).length : Int) then (if (!((((rd_T43 ((rd_T41 x0 x5).f2) x6).f0).toList) == (((rd_T43 ((rd_T41 x1 x5).f2) x6).f0).toList)) || (!(((rd_T43 ((rd_T41 x0 x5).f2) x6).f1) == ((rd_T43 ((rd_T41 x1 x5).f2) x6).f1)) || (!(((rd_T43 ((rd_T41 x0 x5).f2) x6).f2) == ((rd_T43 ((rd_T41 x1 x5).f2) x6).f2))))) = true then (some false) else (rf07_Same.l1 k x0 x1 x5 (wrap64 (x6 + 1)))) else (none)) else (none)) else (none)) else (rf07_Same.l0 k x0 x1 (wrap64 (x5 + 1)))) else (none)) else (none)
end
def rf07_Same.f (k : Nat) (l0 : List (S41)) (l1 : List (S41)) : Option (Bool) := if (l0.length : Int) = (l1.length : Int) then (rf07_Same.l0 k l0 l1 0) else (some false)
set_option maxHeartbeats 8000000 in
set_option maxRecDepth 100000 in
theorem rf07_Same.calls (k : Nat) (A0 : Option Addr) (c0 : Nat) (l0 : List (S41)) (A1 : Option Addr) (c1 : Nat) (l1 : List (S41)) (r : Bool) (w : World) (hr0 : Kd.C k41 w A0 l0.length l0) (hc0 : l0.length ≤ c0) (hr1 : Kd.C k41 w A1 l1.length l1) (hc1 : l1.length ≤ c1) (h : rf07_Same.f k l0 l1 = some r) :
 Calls Tryz.prog 8 #[.slice A0 l0.length c0, .slice A1 l1.length c1] w fun e w' => e = .returned (.bool r) ∧ Drawn0 w w' := by
 have hu43 := Tryz.underlying43
 have HR0 := Aside0.mk hr0
 have HC0 := Aside0.mk hc0
 clear hr0 hc0
 have HR1 := Aside0.mk hr1
 have HC1 := Aside0.mk hc1
 clear hr1 hc1
 have H : (if (l0.length : Int) = (l1.length : Int) then (rf07_Same.l0 k l0 l1 0) else (some false)) = some r := h
 clear h
 by_cases c3 : (l0.length : Int) = (l1.length : Int)
 · rw [if_pos c3] at H
   have c3b0 : ((l0.length : Int) == (l1.length : Int)) = true := beq_iff_eq.mpr c3
   have c3b1 : ((l0.length : Int) != (l1.length : Int)) = false := bne_eq_false_iff_eq.mpr c3
   have c3b2 : (l0.length == l1.length) = true := by first | simpa using c3 | (simp at c3 ⊢; omega)
   clear c3
   have H' := Aside0.mk H
   clear H
   go_enter Tryz.func8, Tryz.ntmps8
   go_wp2
   repeat (go_quiet (fail); try go_wp2)
   go_loopg [5] k (fun kq v5 w' => ∃ (x5_1 : Int), v5 = .int .i64 x5_1 ∧ Aside0 (rf07_Same.l0 kq l0 l1 x5_1 = some r) ∧ Aside0 (kq ≤ k) ∧ Drawn0 w w')
   case atStart => exact ⟨(0), (by first | rfl | (simp; done) | (simp [*]; done)), H', ⟨Nat.le_refl _⟩, by repeat (first | exact Drawn0.refl _ | apply Drawn0.step)⟩
   case round =>
    clear H'
    try clear c1
    try clear p2
    try clear c3
    try clear c3b0
    try clear c3b1
    try clear c3b2
    obtain ⟨x5_1, rfl, HA, HK1, ⟨m1, rfl⟩⟩ := hrel
    cases gk with
    | zero => exact absurd HA.out (by simp [rf07_Same.l0])
    | succ k1 =>
     have H := HA.out
     clear HA
     simp only [rf07_Same.l0] at H
     by_cases c4 : x5_1 < (l0.length : Int)
     · rw [if_pos c4] at H
       have c4b0 : decide (x5_1 < (l0.length : Int)) = true := decide_eq_true c4
       clear c4
       have HC5 := Aside0.mk H
       clear H
       go_upto_region 6 with (fail)
       repeat (go_quiet (fail); go_upto_region 6 with (fail))
       go_cut [56] (fun v56 wc => ∃ (kq : Nat) (x56_4 : Bool), v56 = .bool x56_4 ∧ Aside0 (rf07_Same.j1 kq l0 l1 x5_1 x56_4 = some r) ∧ Aside0 (kq ≤ k1) ∧ Drawn0 w wc)
       case first =>
        have H := HC5.out
        clear HC5
        by_cases c6 : 0 ≤ x5_1
        · rw [if_pos c6] at H
          have c6b0 : decide (0 ≤ x5_1) = true := decide_eq_true c6
          clear c6
          (first | rw [c6b0] | (simp only [i64_w, i32_w]; rw [c6b0]) | skip)
          by_cases c7 : x5_1 < (l1.length : Int)
          · rw [if_pos c7] at H
            have c7b0 : decide (x5_1 < (l1.length : Int)) = true := decide_eq_true c7
            clear c7
            by_cases c8 : ((rd_T41 l0 x5_1).f0).toList = ((rd_T41 l1 x5_1).f0).toList
            · rw [if_pos c8] at H
              have c8b0 : (((rd_T41 l0 x5_1).f0).toList == ((rd_T41 l1 x5_1).f0).toList) = true := beq_iff_eq.mpr c8
              have c8b1 : (((rd_T41 l0 x5_1).f0).toList != ((rd_T41 l1 x5_1).f0).toList) = false := bne_eq_false_iff_eq.mpr c8
              clear c8
              by_cases c9 : ((rd_T41 l0 x5_1).f1) = ((rd_T41 l1 x5_1).f1)
              · rw [if_pos c9] at H
                have c9b0 : (((rd_T41 l0 x5_1).f1) == ((rd_T41 l1 x5_1).f1)) = true := beq_iff_eq.mpr c9
                have c9b1 : (((rd_T41 l0 x5_1).f1) != ((rd_T41 l1 x5_1).f1)) = false := bne_eq_false_iff_eq.mpr c9
                clear c9
                have H' := Aside0.mk H
                clear H
                have p234 : 0 ≤ (x5_1 : Int) := of_decide_eq_true (by first | (with_reducible assumption) | assumption)
                have q234 : x5_1 < (l0.length : Int) := of_decide_eq_true (by first | (with_reducible assumption) | assumption)
                obtain ⟨ad234, A234_2, c234_2, e234, hx234_0, hx234_1, hx234_2, hl234_2, hi234_2⟩ := at_T41 HR0.out x5_1 p234 q234
                cases e234
                have HR234_2 := Aside0.mk hi234_2
                have HC234_2 := Aside0.mk hl234_2
                clear hi234_2 hl234_2
                replace p234 := eq_true p234
                replace q234 := eq_true q234
                have p235 : 0 ≤ (x5_1 : Int) := of_decide_eq_true (by first | (with_reducible assumption) | assumption)
                have q235 : x5_1 < (l1.length : Int) := of_decide_eq_true (by first | (with_reducible assumption) | assumption)
                obtain ⟨ad235, A235_2, c235_2, e235, hx235_0, hx235_1, hx235_2, hl235_2, hi235_2⟩ := at_T41 HR1.out x5_1 p235 q235
                cases e235
                have HR235_2 := Aside0.mk hi235_2
                have HC235_2 := Aside0.mk hl235_2
                clear hi235_2 hl235_2
                replace p235 := eq_true p235
                replace q235 := eq_true q235
                have p236 : 0 ≤ (x5_1 : Int) := of_decide_eq_true (by first | (with_reducible assumption) | assumption)
                have q236 : x5_1 < (l0.length : Int) := of_decide_eq_true (by first | (with_reducible assumption) | assumption)
                obtain ⟨ad236, A236_2, c236_2, e236, hx236_0, hx236_1, hx236_2, hl236_2, hi236_2⟩ := at_T41 HR0.out x5_1 p236 q236
                obtain rfl : ad234 = ad236 := (by injection e236)
                have HR236_2 := Aside0.mk hi236_2
                have HC236_2 := Aside0.mk hl236_2
                clear hi236_2 hl236_2
                replace p236 := eq_true p236
                replace q236 := eq_true q236
                have ea_ := Option.some.inj (hx234_2.symm.trans hx236_2)
                injection ea_ with ea_ en_ ec_
                subst ea_
                subst ec_
                clear en_
                have p237 : 0 ≤ (x5_1 : Int) := of_decide_eq_true (by first | (with_reducible assumption) | assumption)
                have q237 : x5_1 < (l1.length : Int) := of_decide_eq_true (by first | (with_reducible assumption) | assumption)
                obtain ⟨ad237, A237_2, c237_2, e237, hx237_0, hx237_1, hx237_2, hl237_2, hi237_2⟩ := at_T41 HR1.out x5_1 p237 q237
                obtain rfl : ad235 = ad237 := (by injection e237)
                have HR237_2 := Aside0.mk hi237_2
                have HC237_2 := Aside0.mk hl237_2
                clear hi237_2 hl237_2
                replace p237 := eq_true p237
                replace q237 := eq_true q237
                have ea_ := Option.some.inj (hx235_2.symm.trans hx237_2)
                injection ea_ with ea_ en_ ec_
                subst ea_
                subst ec_
                clear en_
                have p238 : 0 ≤ (x5_1 : Int) := of_decide_eq_true (by first | (with_reducible assumption) | assumption)
                have q238 : x5_1 < (l0.length : Int) := of_decide_eq_true (by first | (with_reducible assumption) | assumption)
                obtain ⟨ad238, A238_2, c238_2, e238, hx238_0, hx238_1, hx238_2, hl238_2, hi238_2⟩ := at_T41 HR0.out x5_1 p238 q238
                obtain rfl : ad234 = ad238 := (by injection e238)
                have HR238_2 := Aside0.mk hi238_2
                have HC238_2 := Aside0.mk hl238_2
                clear hi238_2 hl238_2
                replace p238 := eq_true p238
                replace q238 := eq_true q238
                have ea_ := Option.some.inj (hx234_2.symm.trans hx238_2)
                injection ea_ with ea_ en_ ec_
                subst ea_
                subst ec_
                clear en_
                have p239 : 0 ≤ (x5_1 : Int) := of_decide_eq_true (by first | (with_reducible assumption) | assumption)
                have q239 : x5_1 < (l1.length : Int) := of_decide_eq_true (by first | (with_reducible assumption) | assumption)
                obtain ⟨ad239, A239_2, c239_2, e239, hx239_0, hx239_1, hx239_2, hl239_2, hi239_2⟩ := at_T41 HR1.out x5_1 p239 q239
                obtain rfl : ad235 = ad239 := (by injection e239)
                have HR239_2 := Aside0.mk hi239_2
                have HC239_2 := Aside0.mk hl239_2
                clear hi239_2 hl239_2
                replace p239 := eq_true p239
                replace q239 := eq_true q239
                have ea_ := Option.some.inj (hx235_2.symm.trans hx239_2)
                injection ea_ with ea_ en_ ec_
                subst ea_
                subst ec_
                clear en_
                go_wp2
                repeat (go_quiet (fail); try go_wp2)
                go_meet
                case rel => exact ⟨_, (((((rd_T41 l0 x5_1).f2).length : Int) != (((rd_T41 l1 x5_1).f2).length : Int))), (by first | rfl | (simp; done) | (simp [*]; done)), H', ⟨by have := HK1.out; first | omega | exact Nat.le_refl _⟩, by repeat (first | exact Drawn0.refl _ | apply Drawn0.step)⟩
              · rw [if_neg c9] at H
                have c9b0 : (((rd_T41 l0 x5_1).f1) == ((rd_T41 l1 x5_1).f1)) = false := beq_eq_false_iff_ne.mpr c9
                have c9b1 : (((rd_T41 l0 x5_1).f1) != ((rd_T41 l1 x5_1).f1)) = true := bne_iff_ne.mpr c9
                have H' := Aside0.mk H
                clear H
                have p234 : 0 ≤ (x5_1 : Int) := of_decide_eq_true (by first | (with_reducible assumption) | assumption)
                have q234 : x5_1 < (l0.length : Int) := of_decide_eq_true (by first | (with_reducible assumption) | assumption)
                obtain ⟨ad234, A234_2, c234_2, e234, hx234_0, hx234_1, hx234_2, hl234_2, hi234_2⟩ := at_T41 HR0.out x5_1 p234 q234
                cases e234
                have HR234_2 := Aside0.mk hi234_2
                have HC234_2 := Aside0.mk hl234_2
                clear hi234_2 hl234_2
                replace p234 := eq_true p234
                replace q234 := eq_true q234
                have p235 : 0 ≤ (x5_1 : Int) := of_decide_eq_true (by first | (with_reducible assumption) | assumption)
                have q235 : x5_1 < (l1.length : Int) := of_decide_eq_true (by first | (with_reducible assumption) | assumption)
                obtain ⟨ad235, A235_2, c235_2, e235, hx235_0, hx235_1, hx235_2, hl235_2, hi235_2⟩ := at_T41 HR1.out x5_1 p235 q235
                cases e235
                have HR235_2 := Aside0.mk hi235_2
                have HC235_2 := Aside0.mk hl235_2
                clear hi235_2 hl235_2
                replace p235 := eq_true p235
                replace q235 := eq_true q235
                have p236 : 0 ≤ (x5_1 : Int) := of_decide_eq_true (by first | (with_reducible assumption) | assumption)
                have q236 : x5_1 < (l0.length : Int) := of_decide_eq_true (by first | (with_reducible assumption) | assumption)
                obtain ⟨ad236, A236_2, c236_2, e236, hx236_0, hx236_1, hx236_2, hl236_2, hi236_2⟩ := at_T41 HR0.out x5_1 p236 q236
                obtain rfl : ad234 = ad236 := (by injection e236)
                have HR236_2 := Aside0.mk hi236_2
                have HC236_2 := Aside0.mk hl236_2
                clear hi236_2 hl236_2
                replace p236 := eq_true p236
                replace q236 := eq_true q236
                have ea_ := Option.some.inj (hx234_2.symm.trans hx236_2)
                injection ea_ with ea_ en_ ec_
                subst ea_
                subst ec_
                clear en_
                have p237 : 0 ≤ (x5_1 : Int) := of_decide_eq_true (by first | (with_reducible assumption) | assumption)
                have q237 : x5_1 < (l1.length : Int) := of_decide_eq_true (by first | (with_reducible assumption) | assumption)
                obtain ⟨ad237, A237_2, c237_2, e237, hx237_0, hx237_1, hx237_2, hl237_2, hi237_2⟩ := at_T41 HR1.out x5_1 p237 q237
                obtain rfl : ad235 = ad237 := (by injection e237)
                have HR237_2 := Aside0.mk hi237_2
                have HC237_2 := Aside0.mk hl237_2
                clear hi237_2 hl237_2
                replace p237 := eq_true p237
                replace q237 := eq_true q237
                have ea_ := Option.some.inj (hx235_2.symm.trans hx237_2)
                injection ea_ with ea_ en_ ec_
                subst ea_
                subst ec_
                clear en_
                go_wp2
                repeat (go_quiet (fail); try go_wp2)
                go_meet
                case rel => exact ⟨_, (true), (by first | rfl | (simp; done) | (simp [*]; done)), H', ⟨by have := HK1.out; first | omega | exact Nat.le_refl _⟩, by repeat (first | exact Drawn0.refl _ | apply Drawn0.step)⟩
            · rw [if_neg c8] at H
              have c8b0 : (((rd_T41 l0 x5_1).f0).toList == ((rd_T41 l1 x5_1).f0).toList) = false := beq_eq_false_iff_ne.mpr c8
              have c8b1 : (((rd_T41 l0 x5_1).f0).toList != ((rd_T41 l1 x5_1).f0).toList) = true := bne_iff_ne.mpr c8
              have H' := Aside0.mk H
              clear H
              have p234 : 0 ≤ (x5_1 : Int) := of_decide_eq_true (by first | (with_reducible assumption) | assumption)
              have q234 : x5_1 < (l0.length : Int) := of_decide_eq_true (by first | (with_reducible assumption) | assumption)
              obtain ⟨ad234, A234_2, c234_2, e234, hx234_0, hx234_1, hx234_2, hl234_2, hi234_2⟩ := at_T41 HR0.out x5_1 p234 q234
              cases e234
              have HR234_2 := Aside0.mk hi234_2
              have HC234_2 := Aside0.mk hl234_2
              clear hi234_2 hl234_2
              replace p234 := eq_true p234
              replace q234 := eq_true q234
              have p235 : 0 ≤ (x5_1 : Int) := of_decide_eq_true (by first | (with_reducible assumption) | assumption)
              have q235 : x5_1 < (l1.length : Int) := of_decide_eq_true (by first | (with_reducible assumption) | assumption)
              obtain ⟨ad235, A235_2, c235_2, e235, hx235_0, hx235_1, hx235_2, hl235_2, hi235_2⟩ := at_T41 HR1.out x5_1 p235 q235
              cases e235
              have HR235_2 := Aside0.mk hi235_2
              have HC235_2 := Aside0.mk hl235_2
              clear hi235_2 hl235_2
              replace p235 := eq_true p235
              replace q235 := eq_true q235
              go_wp2
              repeat (go_quiet (fail); try go_wp2)
              go_meet
              case rel => exact ⟨_, (true), (by first | rfl | (simp; done) | (simp [*]; done)), H', ⟨by have := HK1.out; first | omega | exact Nat.le_refl _⟩, by repeat (first | exact Drawn0.refl _ | apply Drawn0.step)⟩
          · rw [if_neg c7] at H
            exact absurd H (by simp)
        · rw [if_neg c6] at H
          exact absurd H (by simp)
       case rest =>
        clear HC5
        try clear c1
        try clear c2
        try clear p2
        try clear q2
        try clear hx2
        try clear c3
        try clear c3b0
        try clear c3b1
        try clear c3b2
        try clear c4
        try clear c4b0
        try clear c6
        try clear c6b0
        try clear c7
        try clear c7b0
        try clear c8
        try clear c8b0
        try clear c8b1
        try clear c9
        try clear c9b0
        try clear c9b1
        try clear hx234_0
        try clear hx234_1
        try clear hx234_2
        try clear hx235_0
        try clear hx235_1
        try clear hx235_2
        try clear hx236_0
        try clear hx236_1
        try clear hx236_2
        try clear hx237_0
        try clear hx237_1
        try clear hx237_2
        try clear hx238_0
        try clear hx238_1
        try clear hx238_2
        try clear hx239_0
        try clear hx239_1
        try clear hx239_2
        try clear p2
        try clear p234
        try clear p235
        try clear p236
        try clear p237
        try clear p238
        try clear p239
        try clear q234
        try clear q235
        try clear q236
        try clear q237
        try clear q238
        try clear q239
        obtain ⟨kq, x56_4, rfl, HA, HJ4, ⟨mc4, rfl⟩⟩ := hcut
        cases kq with
        | zero => exact absurd HA.out (by simp [rf07_Same.j1])
        | succ kj4 =>
         have H := HA.out
         clear HA
         simp only [rf07_Same.j1] at H
         by_cases c10 : x56_4 = true
         · subst c10
           have H1 : (some false) = some r := by rw [if_pos rfl] at H; exact H
           clear H
           have H := H1
           clear H1
           obtain rfl := Option.some.inj H
           go_wp2
           repeat (go_quiet (fail); try go_wp2)
           go_ret
           exact ⟨by first | rfl | (simp; done) | (simp [*]; done), by repeat (first | exact Drawn0.refl _ | apply Drawn0.step)⟩
         · replace c10 := Bool.eq_false_iff.mpr c10
           subst c10
           have H1 : (rf07_Same.l1 kj4 l0 l1 x5_1 0) = some r := by rw [if_neg (show ¬ (false = true) by decide)] at H; exact H
           clear H
           have H := H1
           clear H1
           have H' := Aside0.mk H
           clear H
           go_wp2
           repeat (go_quiet (fail); try go_wp2)
           go_loopg [6] kj4 (fun kq v6 w' => ∃ (x6_3 : Int), v6 = .int .i64 x6_3 ∧ Aside0 (rf07_Same.l1 kq l0 l1 x5_1 x6_3 = some r) ∧ Aside0 (kq ≤ kj4) ∧ Drawn0 w w')
           case atStart => exact ⟨(0), (by first | rfl | (simp; done) | (simp [*]; done)), H', ⟨Nat.le_refl _⟩, by repeat (first | exact Drawn0.refl _ | apply Drawn0.step)⟩
           case round =>
            clear H'
            try clear c1
            try clear c2
            try clear p2
            try clear q2
            try clear hx2
            try clear c3
            try clear c3b0
            try clear c3b1
            try clear c3b2
            try clear c4
            try clear c4b0
            try clear c6
            try clear c6b0
            try clear c7
            try clear c7b0
            try clear c8
            try clear c8b0
            try clear c8b1
            try clear c9
            try clear c9b0
            try clear c9b1
            try clear c10
            try clear hx234_0
            try clear hx234_1
            try clear hx234_2
            try clear hx235_0
            try clear hx235_1
            try clear hx235_2
            try clear hx236_0
            try clear hx236_1
            try clear hx236_2
            try clear hx237_0
            try clear hx237_1
            try clear hx237_2
            try clear hx238_0
            try clear hx238_1
            try clear hx238_2
            try clear hx239_0
            try clear hx239_1
            try clear hx239_2
            try clear p2
            try clear p234
            try clear p235
            try clear p236
            try clear p237
            try clear p238
            try clear p239
            try clear q2
            try clear q234
            try clear q235
            try clear q236
            try clear q237
            try clear q238
            try clear q239
            obtain ⟨x6_3, rfl, HA, HK3, ⟨m3, rfl⟩⟩ := hrel
            cases gk with
            | zero => exact absurd HA.out (by simp [rf07_Same.l1])
            | succ k3 =>
             have H := HA.out
             clear HA
             simp only [rf07_Same.l1] at H
             by_cases c11 : 0 ≤ x5_1
             · rw [if_pos c11] at H
               have c11b0 : decide (0 ≤ x5_1) = true := decide_eq_true c11
               clear c11
               by_cases c12 : x5_1 < (l0.length : Int)
               · rw [if_pos c12] at H
                 have c12b0 : decide (x5_1 < (l0.length : Int)) = true := decide_eq_true c12
                 clear c12
                 by_cases c13 : x6_3 < (((rd_T41 l0 x5_1).f2).length : Int)
                 · rw [if_pos c13] at H
                   have c13b0 : decide (x6_3 < (((rd_T41 l0 x5_1).f2).length : Int)) = true := decide_eq_true c13
                   clear c13
                   by_cases c14 : 0 ≤ x6_3
                   · rw [if_pos c14] at H
                     have c14b0 : decide (0 ≤ x6_3) = true := decide_eq_true c14
                     clear c14
                     by_cases c15 : x5_1 < (l1.length : Int)
                     · rw [if_pos c15] at H
                       have c15b0 : decide (x5_1 < (l1.length : Int)) = true := decide_eq_true c15
                       clear c15
                       by_cases c16 : x6_3 < (((rd_T41 l1 x5_1).f2).length : Int)
                       · rw [if_pos c16] at H
                         have c16b0 : decide (x6_3 < (((rd_T41 l1 x5_1).f2).length : Int)) = true := decide_eq_true c16
                         clear c16
                         by_cases c17 : (!((((rd_T43 ((rd_T41 l0 x5_1).f2) x6_3).f0).toList) == (((rd_T43 ((rd_T41 l1 x5_1).f2) x6_3).f0).toList)) || (!(((rd_T43 ((rd_T41 l0 x5_1).f2) x6_3).f1) == ((rd_T43 ((rd_T41 l1 x5_1).f2) x6_3).f1)) || (!(((rd_T43 ((rd_T41 l0 x5_1).f2) x6_3).f2) == ((rd_T43 ((rd_T41 l1 x5_1).f2) x6_3).f2))))) = true
                         · rw [if_pos c17] at H
                           have c17b0 : (!((((rd_T43 ((rd_T41 l0 x5_1).f2) x6_3).f0).toList) == (((rd_T43 ((rd_T41 l1 x5_1).f2) x6_3).f0).toList)) || (!(((rd_T43 ((rd_T41 l0 x5_1).f2) x6_3).f1) == ((rd_T43 ((rd_T41 l1 x5_1).f2) x6_3).f1)) || (!(((rd_T43 ((rd_T41 l0 x5_1).f2) x6_3).f2) == ((rd_T43 ((rd_T41 l1 x5_1).f2) x6_3).f2))))) = true := c17
                           clear c17
                           obtain rfl := Option.some.inj H
                           have p240 : 0 ≤ (x5_1 : Int) := of_decide_eq_true (by first | (with_reducible assumption) | assumption)
                           have q240 : x5_1 < (l0.length : Int) := of_decide_eq_true (by first | (with_reducible assumption) | assumption)
                           obtain ⟨ad240, A240_2, c240_2, e240, hx240_0, hx240_1, hx240_2, hl240_2, hi240_2⟩ := at_T41 HR0.out x5_1 p240 q240
                           cases e240
                           have HR240_2 := Aside0.mk hi240_2
                           have HC240_2 := Aside0.mk hl240_2
                           clear hi240_2 hl240_2
                           replace p240 := eq_true p240
                           replace q240 := eq_true q240
                           have p241 : 0 ≤ (x5_1 : Int) := of_decide_eq_true (by first | (with_reducible assumption) | assumption)
                           have q241 : x5_1 < (l0.length : Int) := of_decide_eq_true (by first | (with_reducible assumption) | assumption)
                           obtain ⟨ad241, A241_2, c241_2, e241, hx241_0, hx241_1, hx241_2, hl241_2, hi241_2⟩ := at_T41 HR0.out x5_1 p241 q241
                           obtain rfl : ad240 = ad241 := (by injection e241)
                           have HR241_2 := Aside0.mk hi241_2
                           have HC241_2 := Aside0.mk hl241_2
                           clear hi241_2 hl241_2
                           replace p241 := eq_true p241
                           replace q241 := eq_true q241
                           have ea_ := Option.some.inj (hx240_2.symm.trans hx241_2)
                           injection ea_ with ea_ en_ ec_
                           subst ea_
                           subst ec_
                           clear en_
                           have p242 : 0 ≤ (x6_3 : Int) := of_decide_eq_true (by first | (with_reducible assumption) | assumption)
                           have q242 : x6_3 < (((rd_T41 l0 x5_1).f2).length : Int) := of_decide_eq_true (by first | (with_reducible assumption) | assumption)
                           obtain ⟨ad242, e242, hx242_0, hx242_1, hx242_2⟩ := at_T43 HR241_2.out x6_3 p242 q242
                           cases e242
                           replace p242 := eq_true p242
                           replace q242 := eq_true q242
                           have p243 : 0 ≤ (x5_1 : Int) := of_decide_eq_true (by first | (with_reducible assumption) | assumption)
                           have q243 : x5_1 < (l1.length : Int) := of_decide_eq_true (by first | (with_reducible assumption) | assumption)
                           obtain ⟨ad243, A243_2, c243_2, e243, hx243_0, hx243_1, hx243_2, hl243_2, hi243_2⟩ := at_T41 HR1.out x5_1 p243 q243
                           cases e243
                           have HR243_2 := Aside0.mk hi243_2
                           have HC243_2 := Aside0.mk hl243_2
                           clear hi243_2 hl243_2
                           replace p243 := eq_true p243
                           replace q243 := eq_true q243
                           have p244 : 0 ≤ (x6_3 : Int) := of_decide_eq_true (by first | (with_reducible assumption) | assumption)
                           have q244 : x6_3 < (((rd_T41 l1 x5_1).f2).length : Int) := of_decide_eq_true (by first | (with_reducible assumption) | assumption)
                           obtain ⟨ad244, e244, hx244_0, hx244_1, hx244_2⟩ := at_T43 HR243_2.out x6_3 p244 q244
                           cases e244
                           replace p244 := eq_true p244
                           replace q244 := eq_true q244
                           go_wp2
                           repeat (go_quiet (fail); try go_wp2)
                           go_ret
                           exact ⟨by first | rfl | (simp; done) | (simp [*]; done), by repeat (first | exact Drawn0.refl _ | apply Drawn0.step)⟩
                         · rw [if_neg c17] at H
                           have c17b0 : (!((((rd_T43 ((rd_T41 l0 x5_1).f2) x6_3).f0).toList) == (((rd_T43 ((rd_T41 l1 x5_1).f2) x6_3).f0).toList)) || (!(((rd_T43 ((rd_T41 l0 x5_1).f2) x6_3).f1) == ((rd_T43 ((rd_T41 l1 x5_1).f2) x6_3).f1)) || (!(((rd_T43 ((rd_T41 l0 x5_1).f2) x6_3).f2) == ((rd_T43 ((rd_T41 l1 x5_1).f2) x6_3).f2))))) = false := by simpa using c17
                           clear c17
                           have H' := Aside0.mk H
                           clear H
                           have p240 : 0 ≤ (x5_1 : Int) := of_decide_eq_true (by first | (with_reducible assumption) | assumption)
                           have q240 : x5_1 < (l0.length : Int) := of_decide_eq_true (by first | (with_reducible assumption) | assumption)
                           obtain ⟨ad240, A240_2, c240_2, e240, hx240_0, hx240_1, hx240_2, hl240_2, hi240_2⟩ := at_T41 HR0.out x5_1 p240 q240
                           cases e240
                           have HR240_2 := Aside0.mk hi240_2
                           have HC240_2 := Aside0.mk hl240_2
                           clear hi240_2 hl240_2
                           replace p240 := eq_true p240
                           replace q240 := eq_true q240
                           have p241 : 0 ≤ (x5_1 : Int) := of_decide_eq_true (by first | (with_reducible assumption) | assumption)
                           have q241 : x5_1 < (l0.length : Int) := of_decide_eq_true (by first | (with_reducible assumption) | assumption)
                           obtain ⟨ad241, A241_2, c241_2, e241, hx241_0, hx241_1, hx241_2, hl241_2, hi241_2⟩ := at_T41 HR0.out x5_1 p241 q241
                           obtain rfl : ad240 = ad241 := (by injection e241)
                           have HR241_2 := Aside0.mk hi241_2
                           have HC241_2 := Aside0.mk hl241_2
                           clear hi241_2 hl241_2
                           replace p241 := eq_true p241
                           replace q241 := eq_true q241
                           have ea_ := Option.some.inj (hx240_2.symm.trans hx241_2)
                           injection ea_ with ea_ en_ ec_
                           subst ea_
                           subst ec_
                           clear en_
                           have p242 : 0 ≤ (x6_3 : Int) := of_decide_eq_true (by first | (with_reducible assumption) | assumption)
                           have q242 : x6_3 < (((rd_T41 l0 x5_1).f2).length : Int) := of_decide_eq_true (by first | (with_reducible assumption) | assumption)
                           obtain ⟨ad242, e242, hx242_0, hx242_1, hx242_2⟩ := at_T43 HR241_2.out x6_3 p242 q242
                           cases e242
                           replace p242 := eq_true p242
                           replace q242 := eq_true q242
                           have p243 : 0 ≤ (x5_1 : Int) := of_decide_eq_true (by first | (with_reducible assumption) | assumption)
                           have q243 : x5_1 < (l1.length : Int) := of_decide_eq_true (by first | (with_reducible assumption) | assumption)
                           obtain ⟨ad243, A243_2, c243_2, e243, hx243_0, hx243_1, hx243_2, hl243_2, hi243_2⟩ := at_T41 HR1.out x5_1 p243 q243
                           cases e243
                           have HR243_2 := Aside0.mk hi243_2
                           have HC243_2 := Aside0.mk hl243_2
                           clear hi243_2 hl243_2
                           replace p243 := eq_true p243
                           replace q243 := eq_true q243
                           have p244 : 0 ≤ (x6_3 : Int) := of_decide_eq_true (by first | (with_reducible assumption) | assumption)
                           have q244 : x6_3 < (((rd_T41 l1 x5_1).f2).length : Int) := of_decide_eq_true (by first | (with_reducible assumption) | assumption)
                           obtain ⟨ad244, e244, hx244_0, hx244_1, hx244_2⟩ := at_T43 HR243_2.out x6_3 p244 q244
                           cases e244
                           replace p244 := eq_true p244
                           replace q244 := eq_true q244
                           go_wp2
                           repeat (go_quiet (fail); try go_wp2)
                           go_roundg k3
                           case measure => have := HK1.out; have := HJ4.out; have := HK3.out; omega
                           case rel => exact ⟨(wrap64 (x6_3 + 1)), (by first | rfl | (simp; done) | (simp [*]; done)), H', ⟨by have := HK1.out; have := HJ4.out; have := HK3.out; omega⟩, by repeat (first | exact Drawn0.refl _ | apply Drawn0.step)⟩
                       · rw [if_neg c16] at H
                         exact absurd H (by simp)
                     · rw [if_neg c15] at H
                       exact absurd H (by simp)
                   · rw [if_neg c14] at H
                     exact absurd H (by simp)
                 · rw [if_neg c13] at H
                   have c13b0 : decide (x6_3 < (((rd_T41 l0 x5_1).f2).length : Int)) = false := decide_eq_false c13
                   clear c13
                   have H' := Aside0.mk H
                   clear H
                   have p240 : 0 ≤ (x5_1 : Int) := of_decide_eq_true (by first | (with_reducible assumption) | assumption)
                   have q240 : x5_1 < (l0.length : Int) := of_decide_eq_true (by first | (with_reducible assumption) | assumption)
                   obtain ⟨ad240, A240_2, c240_2, e240, hx240_0, hx240_1, hx240_2, hl240_2, hi240_2⟩ := at_T41 HR0.out x5_1 p240 q240
                   cases e240
                   have HR240_2 := Aside0.mk hi240_2
                   have HC240_2 := Aside0.mk hl240_2
                   clear hi240_2 hl240_2
                   replace p240 := eq_true p240
                   replace q240 := eq_true q240
                   go_wp2
                   repeat (go_quiet (fail); try go_wp2)
                   go_roundg k3
                   case measure => have := HK1.out; have := HJ4.out; have := HK3.out; omega
                   case rel => exact ⟨(wrap64 (x5_1 + 1)), (by first | rfl | (simp; done) | (simp [*]; done)), H', ⟨by have := HK1.out; have := HJ4.out; have := HK3.out; omega⟩, by repeat (first | exact Drawn0.refl _ | apply Drawn0.step)⟩
               · rw [if_neg c12] at H
                 exact absurd H (by simp)
             · rw [if_neg c11] at H
               exact absurd H (by simp)
     · rw [if_neg c4] at H
       have c4b0 : decide (x5_1 < (l0.length : Int)) = false := decide_eq_false c4
       clear c4
       obtain rfl := Option.some.inj H
       go_wp2
       repeat (go_quiet (fail); try go_wp2)
       go_ret
       exact ⟨by first | rfl | (simp; done) | (simp [*]; done), by repeat (first | exact Drawn0.refl _ | apply Drawn0.step)⟩
 · rw [if_neg c3] at H
   have c3b0 : ((l0.length : Int) == (l1.length : Int)) = false := beq_eq_false_iff_ne.mpr c3
   have c3b1 : ((l0.length : Int) != (l1.length : Int)) = true := bne_iff_ne.mpr c3
   have c3b2 : (l0.length == l1.length) = false := by first | simpa using c3 | (simp at c3 ⊢; omega)
   obtain rfl := Option.some.inj H
   go_enter Tryz.func8, Tryz.ntmps8
   go_wp2
   repeat (go_quiet (fail); try go_wp2)
   go_ret
   exact ⟨by first | rfl | (simp; done) | (simp [*]; done), by repeat (first | exact Drawn0.refl _ | apply Drawn0.step)⟩
end Go.Proofs.YtkipkbggnfllkaaGreatDoor.P
end
section
namespace Go.Proofs.YtkipkbggnfllkaaGreatDoor.P
open Go.RowKit Go.Proofs.YtkipkbggnfllkaaGreatDoorW.PrintWords Go.Proofs.YtkipkbggnfllkaaGreatDoorW.PrintLast Go.Proofs.YtkipkbggnfllkaaGreatDoorW.PrintMore
def bs (s : ByteArray) : List Nat := s.data.toList.map (·.toNat)
theorem bs_length (s : ByteArray) : (bs s).length = s.size := by rw [bs, List.length_map]; rfl
theorem bs_lt (s : ByteArray) : ∀ b ∈ bs s, b < 256 := by
 intro b hb
 obtain ⟨x, _, rfl⟩ := List.mem_map.1 hb
 exact x.toNat_lt
theorem bs_extract (s : ByteArray) (a b : Nat) : bs (s.extract a b) = ((bs s).take b).drop a := by
 unfold bs
 rw [ByteArray.data_extract, Array.toList_extract, List.extract_eq_take_drop, List.map_take, List.map_drop, List.drop_take]
theorem bs_from (s : ByteArray) (a : Nat) : bs (s.extract a s.size) = (bs s).drop a := by
 rw [bs_extract, List.take_of_length_le (by rw [bs_length]; exact Nat.le_refl _)]
theorem bs_upto (s : ByteArray) (b : Nat) : bs (s.extract 0 b) = (bs s).take b := by rw [bs_extract, List.drop_zero]
theorem bs_append (s t : ByteArray) : bs (s ++ t) = bs s ++ bs t := by
 unfold bs
 rw [ByteArray.data_append, Array.toList_append, List.map_append]
theorem bt_get (s : ByteArray) (i : Nat) (h : i < s.size) : ∃ b, (bs s)[i]? = some b ∧ bt s i = (b : Int) := by
 refine ⟨(s[i]'h).toNat, ?_, ?_⟩
 · unfold bs
   rw [List.getElem?_map, Array.getElem?_toList]
   have : s.data[i]? = some (s[i]'h) := by
    rw [Array.getElem?_eq_getElem (by exact h)]
    rfl
   rw [this]
   rfl
 · have := bt_at s i (by simpa using h)
   rw [← this]
   simp
theorem bs_drop (s : ByteArray) (i : Nat) (h : i < s.size) : (bs s).drop i = (bt s i).toNat :: (bs s).drop (i + 1) := by
 obtain ⟨b, hb, he⟩ := bt_get s i h
 rw [he, Int.toNat_natCast]
 have hl : i < (bs s).length := by rw [bs_length]; exact h
 rw [List.drop_eq_getElem_cons hl]
 have := List.getElem?_eq_getElem hl
 rw [this] at hb
 injection hb with hb
 rw [hb]
theorem map_toNat_inj : ∀ {l m : List UInt8}, l.map (·.toNat) = m.map (·.toNat) → l = m
 | [], [], _ => rfl
 | [], _ :: _, h => by simp at h
 | _ :: _, [], h => by simp at h
 | a :: l, b :: m, h => by
  simp only [List.map_cons, List.cons.injEq] at h
  rw [UInt8.toNat.inj h.1, map_toNat_inj h.2]
theorem bs_inj {s t : ByteArray} (h : bs s = bs t) : s = t := by
 unfold bs at h
 have h2 : s.data.toList = t.data.toList := by
  exact map_toNat_inj h
 have h3 : s.data = t.data := by
  apply Array.ext'
  exact h2
 cases s
 cases t
 simp only at h3
 rw [h3]
theorem toList_bs {s t : ByteArray} : s.toList = t.toList ↔ bs s = bs t := by
 rw [ByteArray.toList_eq, ByteArray.toList_eq]
 unfold bs
 constructor
 · exact fun h => by rw [h]
 · exact fun h => map_toNat_inj h
theorem toList_is {s : ByteArray} {l : List UInt8} : s.toList = l ↔ bs s = l.map (·.toNat) := by
 rw [ByteArray.toList_eq]
 unfold bs
 exact ⟨fun h => by rw [h], fun h => map_toNat_inj h⟩
theorem toList_nil {s : ByteArray} : s.toList = [] ↔ bs s = [] := by
 rw [ByteArray.toList_eq]
 unfold bs
 simp
theorem bs_get (s : ByteArray) (i : Nat) (h : i < s.size) : ∃ b : Nat, b < 256 ∧ bt s (i : Int) = (b : Int) ∧ (bs s).drop i = b :: (bs s).drop (i + 1) := by
 obtain ⟨b, hb, he⟩ := bt_get s i h
 refine ⟨b, bs_lt s b (List.mem_of_getElem? hb), he, ?_⟩
 rw [bs_drop s i h, he, Int.toNat_natCast]
theorem bs_cases (s : ByteArray) : (s.size = 0 ∧ bs s = [] ∧ s.toList = []) ∨ ∃ (b : Nat) (r : List Nat), b < 256 ∧ bs s = b :: r ∧ bt s 0 = (b : Int) ∧ 0 < s.size ∧ bs (s.extract 1 s.size) = r ∧ s.toList ≠ [] ∧ r.length + 1 = s.size := by
 by_cases h : 0 < s.size
 · obtain ⟨b, h1, h2, h3⟩ := bs_get s 0 h
   have e : bs s = b :: (bs s).drop 1 := h3
   have hl : ((bs s).drop 1).length + 1 = s.size := by rw [List.length_drop, bs_length]; omega
   refine .inr ⟨b, (bs s).drop 1, h1, e, h2, h, bs_from s 1, fun g => ?_, hl⟩
   rw [toList_nil.1 g] at e
   cases e
 · have e : bs s = [] := List.length_eq_zero_iff.1 (by rw [bs_length]; omega)
   exact .inl ⟨by omega, e, toList_nil.2 e⟩
theorem bs_size_from (s : ByteArray) (a : Nat) : (s.extract a s.size).size = s.size - a := by rw [ByteArray.size_extract]; omega
theorem bs_size_upto (s : ByteArray) (a : Nat) (h : a ≤ s.size) : (s.extract 0 a).size = a := by rw [ByteArray.size_extract]; omega
theorem bs_nil : bs ⟨#[]⟩ = [] := rfl
theorem bs_strOfNums (xs : List Int) (h : ∀ x ∈ xs, 0 ≤ x ∧ x < 256) : bs (strOfNums xs) = xs.map (·.toNat) := by
 unfold bs strOfNums
 simp only [List.map_map]
 apply List.map_congr_left
 intro x hx
 have := h x hx
 simp only [Function.comp, UInt8.toNat_ofNat']
 omega
end Go.Proofs.YtkipkbggnfllkaaGreatDoor.P
end
section
namespace Go.Proofs.YtkipkbggnfllkaaGreatDoor.P
set_option linter.unusedVariables false
set_option linter.unusedSimpArgs false
def MayC (c : Nat) : Prop :=
 (160 ≤ c ∧ c ≤ 55295) ∨ (57344 ≤ c ∧ c ≤ 64975) ∨ (65008 ≤ c ∧ c ≤ 65519) ∨ (65536 ≤ c ∧ c % 65536 ≤ 65533 ∧ c ≤ 1114109 ∧ ¬ (917504 ≤ c ∧ c < 921600))
instance (c : Nat) : Decidable (MayC c) := by unfold MayC; exact inferInstance
theorem meetsFrom_iff (lo hi : Int) : ∀ d k, meetsFrom lo hi d k = true ↔ ∃ j, k ≤ j ∧ j < k + d ∧ lo ≤ spanHi j ∧ spanLo j ≤ hi
 | 0, k => by
  simp only [meetsFrom]
  constructor
  · intro h
    cases h
  · rintro ⟨j, h1, h2, -⟩
    omega
 | d + 1, k => by
  simp only [meetsFrom, Bool.or_eq_true, Bool.and_eq_true, decide_eq_true_eq, meetsFrom_iff lo hi d (k + 1)]
  constructor
  · rintro (⟨h1, h2⟩ | ⟨j, h1, h2, h3, h4⟩)
    · exact ⟨k, Nat.le_refl _, by omega, h1, h2⟩
    · exact ⟨j, by omega, by omega, h3, h4⟩
  · rintro ⟨j, h1, h2, h3, h4⟩
    by_cases e : j = k
    · subst e
      exact .inl ⟨h3, h4⟩
    · exact .inr ⟨j, by omega, by omega, h3, h4⟩
theorem meets_iff (lo hi : Nat) (h : lo ≤ hi) : meetsFrom lo hi 19 0 = true ↔ ∃ c, lo ≤ c ∧ c ≤ hi ∧ MayC c := by
 rw [meetsFrom_iff]
 constructor
 · rintro ⟨j, -, hj, h1, h2⟩
   unfold spanHi at h1
   unfold spanLo at h2
   unfold MayC
   by_cases j0 : j = 0
   · rw [if_pos j0] at h1 h2
     exact ⟨max lo 160, by omega, by omega, by omega⟩
   by_cases j1 : j = 1
   · rw [if_neg j0, if_pos j1] at h1 h2
     exact ⟨max lo 57344, by omega, by omega, by omega⟩
   by_cases j2 : j = 2
   · rw [if_neg j0, if_neg j1, if_pos j2] at h1 h2
     exact ⟨max lo 65008, by omega, by omega, by omega⟩
   rw [if_neg j0, if_neg j1, if_neg j2] at h1 h2
   by_cases j3 : j = 16
   · rw [if_pos j3] at h2
     subst j3
     exact ⟨max lo 921600, by omega, by omega, by omega⟩
   · rw [if_neg j3] at h2
     refine ⟨max lo ((j - 2) * 65536), by omega, by omega, ?_⟩
     omega
 · rintro ⟨c, h1, h2, hc⟩
   unfold MayC at hc
   rcases hc with hc | hc | hc | hc
   · exact ⟨0, by omega, by omega, by simp only [spanHi, if_true]; omega, by simp only [spanLo, if_true]; omega⟩
   · exact ⟨1, by omega, by omega, by simp [spanHi]; omega, by simp [spanLo]; omega⟩
   · exact ⟨2, by omega, by omega, by simp [spanHi]; omega, by simp [spanLo]; omega⟩
   · refine ⟨c / 65536 + 2, by omega, by omega, ?_, ?_⟩
     · unfold spanHi
       rw [if_neg (by omega), if_neg (by omega), if_neg (by omega)]
       omega
     · unfold spanLo
       rw [if_neg (by omega), if_neg (by omega), if_neg (by omega)]
       split <;> omega
def mt (lo hi : Nat) : Bool := decide (lo ≤ hi) && meetsFrom lo hi 19 0
theorem mt_iff (lo hi : Nat) : mt lo hi = true ↔ ∃ c, lo ≤ c ∧ c ≤ hi ∧ MayC c := by
 unfold mt
 by_cases h : lo ≤ hi
 · rw [decide_eq_true h, Bool.true_and]
   exact meets_iff lo hi h
 · rw [decide_eq_false h, Bool.false_and]
   constructor
   · intro h
     cases h
   · rintro ⟨c, h1, h2, -⟩
     omega
theorem mt_mono {lo hi lo' hi' : Nat} (h : mt lo hi = true) (h1 : lo' ≤ lo) (h2 : hi ≤ hi') : mt lo' hi' = true := by
 obtain ⟨c, a, b, hc⟩ := (mt_iff _ _).1 h
 exact (mt_iff _ _).2 ⟨c, by omega, by omega, hc⟩
theorem mt_of {c lo hi : Nat} (h : MayC c) (h1 : lo ≤ c) (h2 : c ≤ hi) : mt lo hi = true := (mt_iff _ _).2 ⟨c, h1, h2, h⟩
theorem mt_one {c lo : Nat} (h : mt (max lo c) c = true) : lo ≤ c ∧ MayC c := by
 obtain ⟨x, a, b, hx⟩ := (mt_iff _ _).1 h
 obtain rfl : x = c := by omega
 exact ⟨by omega, hx⟩
def ucsAt : List Nat → Nat
 | b0 :: b1 :: r =>
  if b0 / 32 = 6 then (if b1 / 64 = 2 ∧ 128 ≤ b0 % 32 * 64 + b1 % 64 ∧ MayC (b0 % 32 * 64 + b1 % 64) then 2 else 0)
  else match r with
   | [] => 0
   | b2 :: r =>
    if b0 / 16 = 14 then (if b1 / 64 = 2 ∧ b2 / 64 = 2 ∧ 2048 ≤ b0 % 16 * 4096 + b1 % 64 * 64 + b2 % 64 ∧ MayC (b0 % 16 * 4096 + b1 % 64 * 64 + b2 % 64) then 3 else 0)
    else match r with
     | [] => 0
     | b3 :: _ =>
      if b0 / 8 = 30 then (if b1 / 64 = 2 ∧ b2 / 64 = 2 ∧ b3 / 64 = 2 ∧ 65536 ≤ b0 % 8 * 262144 + b1 % 64 * 4096 + b2 % 64 * 64 + b3 % 64 ∧ MayC (b0 % 8 * 262144 + b1 % 64 * 4096 + b2 % 64 * 64 + b3 % 64) then 4 else 0)
      else 0
 | _ => 0
def fits : List Nat → Bool
 | [b0] =>
  if b0 / 32 = 6 then mt (max 128 (b0 % 32 * 64)) (b0 % 32 * 64 + 63)
  else if b0 / 16 = 14 then mt (max 2048 (b0 % 16 * 4096)) (b0 % 16 * 4096 + 4095)
  else if b0 / 8 = 30 then mt (max 65536 (b0 % 8 * 262144)) (b0 % 8 * 262144 + 262143) else false
 | [b0, b1] =>
  if b1 / 64 = 2 then
   (if b0 / 32 = 6 then mt (max 128 (b0 % 32 * 64 + b1 % 64)) (b0 % 32 * 64 + b1 % 64)
   else if b0 / 16 = 14 then mt (max 2048 (b0 % 16 * 4096 + b1 % 64 * 64)) (b0 % 16 * 4096 + b1 % 64 * 64 + 63)
   else if b0 / 8 = 30 then mt (max 65536 (b0 % 8 * 262144 + b1 % 64 * 4096)) (b0 % 8 * 262144 + b1 % 64 * 4096 + 4095) else false)
  else false
 | [b0, b1, b2] =>
  if b1 / 64 = 2 ∧ b2 / 64 = 2 then
   (if b0 / 16 = 14 then mt (max 2048 (b0 % 16 * 4096 + b1 % 64 * 64 + b2 % 64)) (b0 % 16 * 4096 + b1 % 64 * 64 + b2 % 64)
   else if b0 / 8 = 30 then mt (max 65536 (b0 % 8 * 262144 + b1 % 64 * 4096 + b2 % 64 * 64)) (b0 % 8 * 262144 + b1 % 64 * 4096 + b2 % 64 * 64 + 63) else false)
  else false
 | [b0, b1, b2, b3] =>
  if b1 / 64 = 2 ∧ b2 / 64 = 2 ∧ b3 / 64 = 2 then
   (if b0 / 8 = 30 then mt (max 65536 (b0 % 8 * 262144 + b1 % 64 * 4096 + b2 % 64 * 64 + b3 % 64)) (b0 % 8 * 262144 + b1 % 64 * 4096 + b2 % 64 * 64 + b3 % 64) else false)
  else false
 | _ => false
theorem ucsAt_low (b : Nat) (r : List Nat) (h : b < 192) : ucsAt (b :: r) = 0 := by
 unfold ucsAt
 repeat' split
 all_goals first | rfl | (exfalso; omega) | (simp only [List.cons.injEq] at *; omega)
theorem fits_low (b : Nat) (r : List Nat) (h : b < 192) : fits (b :: r) = false := by
 unfold fits
 repeat' split
 all_goals first | rfl | (exfalso; simp only [List.cons.injEq] at *; omega)
theorem fits_length {l : List Nat} (h : fits l = true) : 1 ≤ l.length ∧ l.length ≤ 4 := by
 match l, h with
 | [], h => cases h
 | [_], _ => simp
 | [_, _], _ => simp
 | [_, _, _], _ => simp
 | [_, _, _, _], _ => simp
 | _ :: _ :: _ :: _ :: _ :: _, h => cases h
theorem fits_four {b0 b1 b2 b3 : Nat} (h : fits [b0, b1, b2, b3] = true) : ucsAt [b0, b1, b2, b3] = 4 := by
 simp only [fits] at h
 split at h
 case isFalse => cases h
 split at h
 case isFalse => cases h
 rename_i h1 h2
 obtain ⟨a, b⟩ := mt_one h
 simp only [ucsAt]
 rw [if_neg (by omega), if_neg (by omega), if_pos h2, if_pos ⟨h1.1, h1.2.1, h1.2.2, a, b⟩]
theorem fits_cut {l : List Nat} {b : Nat} (h : fits (l ++ [b]) = true) (hl : l ≠ []) : fits l = true := by
 match l, h, hl with
 | [], _, hl => exact absurd rfl hl
 | [b0], h, _ =>
  simp only [List.cons_append, List.nil_append, fits] at h ⊢
  split at h
  case isFalse => cases h
  split
  · rename_i h1 h2
    rw [if_pos h2] at h
    exact mt_mono h (by omega) (by omega)
  · rename_i h1 h2
    rw [if_neg h2] at h
    split
    · rename_i h3
      rw [if_pos h3] at h
      exact mt_mono h (by omega) (by omega)
    · rename_i h3
      rw [if_neg h3] at h
      split
      · rename_i h4
        rw [if_pos h4] at h
        exact mt_mono h (by omega) (by omega)
      · rename_i h4
        rw [if_neg h4] at h
        cases h
 | [b0, b1], h, _ =>
  simp only [List.cons_append, List.nil_append, fits] at h ⊢
  split at h
  case isFalse => cases h
  rename_i h1
  rw [if_pos h1.1]
  split at h
  · rename_i h3
    rw [if_neg (by omega), if_pos h3]
    exact mt_mono h (by omega) (by omega)
  · rename_i h3
    split at h
    · rename_i h4
      rw [if_neg (by omega), if_neg h3, if_pos h4]
      exact mt_mono h (by omega) (by omega)
    · cases h
 | [b0, b1, b2], h, _ =>
  simp only [List.cons_append, List.nil_append, fits] at h ⊢
  split at h
  case isFalse => cases h
  rename_i h1
  rw [if_pos ⟨h1.1, h1.2.1⟩]
  split at h
  · rename_i h3
    rw [if_neg (by omega), if_pos h3]
    exact mt_mono h (by omega) (by omega)
  · cases h
 | [b0, b1, b2, b3], h, _ => cases h
 | b0 :: b1 :: b2 :: b3 :: b4 :: r, h, _ => cases h
theorem fits_whole {l m : List Nat} (h : ucsAt l = l.length) (hl : l ≠ []) (hm : m ≠ []) : fits (l ++ m) = false := by
 match l, h, hl with
 | [], _, hl => exact absurd rfl hl
 | [b0], h, _ => exact absurd h (by simp [ucsAt])
 | [b0, b1], h, _ =>
  simp only [ucsAt, List.length_cons, List.length_nil] at h
  by_cases h2 : b0 / 32 = 6
  · match m, hm with
    | [], hm => exact absurd rfl hm
    | [c], _ =>
     simp only [List.cons_append, List.nil_append, fits]
     split
     · rw [if_neg (by omega), if_neg (by omega)]
     · rfl
    | [c, d], _ =>
     simp only [List.cons_append, List.nil_append, fits]
     split
     · rw [if_neg (by omega)]
     · rfl
    | c :: d :: e :: r, _ => rfl
  · rw [if_neg h2] at h
    cases h
 | [b0, b1, b2], h, _ =>
  simp only [ucsAt, List.length_cons, List.length_nil] at h
  by_cases h2 : b0 / 32 = 6
  · rw [if_pos h2] at h
    split at h <;> omega
  · rw [if_neg h2] at h
    by_cases h3 : b0 / 16 = 14
    · match m, hm with
      | [], hm => exact absurd rfl hm
      | [c], _ =>
       simp only [List.cons_append, List.nil_append, fits]
       split
       · rw [if_neg (by omega)]
       · rfl
      | c :: d :: r, _ => rfl
    · rw [if_neg h3] at h
      cases h
 | [b0, b1, b2, b3], h, _ =>
  match m, hm with
  | [], hm => exact absurd rfl hm
  | c :: r, _ => rfl
 | b0 :: b1 :: b2 :: b3 :: b4 :: r, h, _ =>
  exfalso
  simp only [ucsAt, List.length_cons] at h
  repeat' split at h
  all_goals omega
theorem ucsAt_append {l m : List Nat} (h : ucsAt l = l.length) (hl : l ≠ []) : ucsAt (l ++ m) = l.length := by
 match l, h, hl with
 | [], _, hl => exact absurd rfl hl
 | [b0], h, _ => exact absurd h (by simp [ucsAt])
 | [b0, b1], h, _ =>
  simp only [ucsAt, List.length_cons, List.length_nil, List.cons_append, List.nil_append] at h ⊢
  by_cases h2 : b0 / 32 = 6
  · rw [if_pos h2] at h ⊢
    exact h
  · rw [if_neg h2] at h
    cases h
 | [b0, b1, b2], h, _ =>
  simp only [ucsAt, List.length_cons, List.length_nil, List.cons_append, List.nil_append] at h ⊢
  by_cases h2 : b0 / 32 = 6
  · rw [if_pos h2] at h
    split at h <;> omega
  · rw [if_neg h2] at h ⊢
    by_cases h3 : b0 / 16 = 14
    · rw [if_pos h3] at h ⊢
      exact h
    · rw [if_neg h3] at h
      cases h
 | [b0, b1, b2, b3], h, _ =>
  simp only [ucsAt, List.length_cons, List.length_nil, List.cons_append, List.nil_append] at h ⊢
  exact h
 | b0 :: b1 :: b2 :: b3 :: b4 :: r, h, _ =>
  exfalso
  simp only [ucsAt, List.length_cons] at h
  repeat' split at h
  all_goals omega
theorem ucsAt_steps (l : List Nat) : ucsAt l = 0 ∨
 (ucsAt l = 2 ∧ ∃ b0 b1 r, l = b0 :: b1 :: r ∧ 192 ≤ b0 ∧ fits [b0] = true ∧ ucsAt [b0, b1] = 2) ∨
 (ucsAt l = 3 ∧ ∃ b0 b1 b2 r, l = b0 :: b1 :: b2 :: r ∧ 192 ≤ b0 ∧ fits [b0] = true ∧ ucsAt [b0, b1] = 0 ∧ fits [b0, b1] = true ∧ ucsAt [b0, b1, b2] = 3) ∨
 (ucsAt l = 4 ∧ ∃ b0 b1 b2 b3 r, l = b0 :: b1 :: b2 :: b3 :: r ∧ 192 ≤ b0 ∧ fits [b0] = true ∧ ucsAt [b0, b1] = 0 ∧ fits [b0, b1] = true ∧ ucsAt [b0, b1, b2] = 0 ∧ fits [b0, b1, b2] = true ∧ ucsAt [b0, b1, b2, b3] = 4) := by
 match l with
 | [] => exact .inl rfl
 | [b0] => exact .inl rfl
 | b0 :: b1 :: r =>
  by_cases h2 : b0 / 32 = 6
  · by_cases hg : b1 / 64 = 2 ∧ 128 ≤ b0 % 32 * 64 + b1 % 64 ∧ MayC (b0 % 32 * 64 + b1 % 64)
    · refine .inr (.inl ⟨by simp only [ucsAt]; rw [if_pos h2, if_pos hg], b0, b1, r, rfl, by omega, ?_, by simp only [ucsAt]; rw [if_pos h2, if_pos hg]⟩)
      simp only [fits]
      rw [if_pos h2]
      exact mt_of hg.2.2 (by omega) (by omega)
    · exact .inl (by simp only [ucsAt]; rw [if_pos h2, if_neg hg])
  · match r with
    | [] => exact .inl (by simp only [ucsAt]; rw [if_neg h2])
    | b2 :: r =>
     by_cases h3 : b0 / 16 = 14
     · by_cases hg : b1 / 64 = 2 ∧ b2 / 64 = 2 ∧ 2048 ≤ b0 % 16 * 4096 + b1 % 64 * 64 + b2 % 64 ∧ MayC (b0 % 16 * 4096 + b1 % 64 * 64 + b2 % 64)
       · refine .inr (.inr (.inl ⟨by simp only [ucsAt]; rw [if_neg h2, if_pos h3, if_pos hg], b0, b1, b2, r, rfl, by omega, ?_, by simp only [ucsAt]; rw [if_neg h2], ?_, by simp only [ucsAt]; rw [if_neg h2, if_pos h3, if_pos hg]⟩))
         · simp only [fits]
           rw [if_neg h2, if_pos h3]
           exact mt_of hg.2.2.2 (by omega) (by omega)
         · simp only [fits]
           rw [if_pos hg.1, if_neg h2, if_pos h3]
           exact mt_of hg.2.2.2 (by omega) (by omega)
       · exact .inl (by simp only [ucsAt]; rw [if_neg h2, if_pos h3, if_neg hg])
     · match r with
       | [] => exact .inl (by simp only [ucsAt]; rw [if_neg h2, if_neg h3])
       | b3 :: r =>
        by_cases h4 : b0 / 8 = 30
        · by_cases hg : b1 / 64 = 2 ∧ b2 / 64 = 2 ∧ b3 / 64 = 2 ∧ 65536 ≤ b0 % 8 * 262144 + b1 % 64 * 4096 + b2 % 64 * 64 + b3 % 64 ∧ MayC (b0 % 8 * 262144 + b1 % 64 * 4096 + b2 % 64 * 64 + b3 % 64)
          · refine .inr (.inr (.inr ⟨by simp only [ucsAt]; rw [if_neg h2, if_neg h3, if_pos h4, if_pos hg], b0, b1, b2, b3, r, rfl, by omega, ?_, by simp only [ucsAt]; rw [if_neg h2], ?_, by simp only [ucsAt]; rw [if_neg h2, if_neg h3], ?_, by simp only [ucsAt]; rw [if_neg h2, if_neg h3, if_pos h4, if_pos hg]⟩))
            · simp only [fits]
              rw [if_neg h2, if_neg h3, if_pos h4]
              exact mt_of hg.2.2.2.2 (by omega) (by omega)
            · simp only [fits]
              rw [if_pos hg.1, if_neg h2, if_neg h3, if_pos h4]
              exact mt_of hg.2.2.2.2 (by omega) (by omega)
            · simp only [fits]
              rw [if_pos ⟨hg.1, hg.2.1⟩, if_neg h3, if_pos h4]
              exact mt_of hg.2.2.2.2 (by omega) (by omega)
          · exact .inl (by simp only [ucsAt]; rw [if_neg h2, if_neg h3, if_pos h4, if_neg hg])
        · exact .inl (by simp only [ucsAt]; rw [if_neg h2, if_neg h3, if_neg h4])
inductive Q where
 | top | p1 | p2 | u (l : List Nat) | e0 | ns | n | nd | np1 | np2 | c (k : Nat) | st
def isOp (c : Nat) : Bool := c == 43 || c == 35 || c == 46 || c == 47 || c == 59 || c == 63 || c == 38
def fin (b : Nat) : Option Q := if b = 44 then some .ns else if b = 125 then some .top else none
def nsStep (b : Nat) : Option Q := if isWord b = true then some .n else if b = 37 then some .np1 else none
def step : Q → Nat → Option Q
 | .top, b => if isLit b = true then some .top else if b = 37 then some .p1 else if b = 123 then some .e0 else if fits [b] = true then some (.u [b]) else none
 | .p1, b => if isHex b = true then some .p2 else none
 | .p2, b => if isHex b = true then some .top else none
 | .u l, b => if ucsAt (l ++ [b]) = l.length + 1 then some .top else if fits (l ++ [b]) = true then some (.u (l ++ [b])) else none
 | .e0, b => if isOp b = true then some .ns else nsStep b
 | .ns, b => nsStep b
 | .nd, b => nsStep b
 | .n, b => if isWord b = true then some .n else if b = 37 then some .np1 else if b = 46 then some .nd else if b = 42 then some .st else if b = 58 then some (.c 0) else fin b
 | .np1, b => if isHex b = true then some .np2 else none
 | .np2, b => if isHex b = true then some .n else none
 | .c k, b => if isDigit b = true ∧ k < 4 ∧ ¬ (k = 0 ∧ b = 48) then some (.c (k + 1)) else if k = 0 then none else fin b
 | .st, b => fin b
def nstep : Q → Nat → Option Q
 | .n, b => if isWord b = true then some .n else if b = 37 then some .np1 else if b = 46 then some .nd else none
 | .ns, b => nsStep b
 | .nd, b => nsStep b
 | .np1, b => if isHex b = true then some .np2 else none
 | .np2, b => if isHex b = true then some .n else none
 | _, _ => none
def run (f : Q → Nat → Option Q) : Q → List Nat → Option Q
 | q, [] => some q
 | q, b :: r => match f q b with
  | none => none
  | some q' => run f q' r
def far (f : Q → Nat → Option Q) : Q → List Nat → Nat
 | _, [] => 0
 | q, b :: r => match f q b with
  | none => 0
  | some q' => far f q' r + 1
section
variable {f : Q → Nat → Option Q}
theorem run_nil (q : Q) : run f q [] = some q := rfl
theorem run_some {q q' : Q} {b : Nat} (h : f q b = some q') (r : List Nat) : run f q (b :: r) = run f q' r := by simp only [run, h]
theorem run_none {q : Q} {b : Nat} (h : f q b = none) (r : List Nat) : run f q (b :: r) = none := by simp only [run, h]
theorem far_some {q q' : Q} {b : Nat} (h : f q b = some q') (r : List Nat) : far f q (b :: r) = far f q' r + 1 := by simp only [far, h]
theorem far_none {q : Q} {b : Nat} (h : f q b = none) (r : List Nat) : far f q (b :: r) = 0 := by simp only [far, h]
theorem run_append (m : List Nat) : ∀ (l : List Nat) (q : Q), run f q (l ++ m) = (run f q l).bind fun q' => run f q' m
 | [], q => rfl
 | b :: r, q => by
  cases h : f q b with
  | none => rw [List.cons_append, run_none h, run_none h, Option.bind_none]
  | some q' => rw [List.cons_append, run_some h, run_some h, run_append m r q']
theorem far_append {m : List Nat} {q' : Q} : ∀ (l : List Nat) (q : Q), run f q l = some q' → far f q (l ++ m) = l.length + far f q' m
 | [], q, h => by
  obtain rfl := Option.some.inj h
  simp
 | b :: r, q, h => by
  cases e : f q b with
  | none =>
   rw [run_none e] at h
   cases h
  | some q2 =>
   rw [run_some e] at h
   rw [List.cons_append, far_some e, far_append r q2 h, List.length_cons]
   omega
theorem far_dead {m : List Nat} : ∀ (l : List Nat) (q : Q), run f q l = none → far f q (l ++ m) = far f q l ∧ run f q (l ++ m) = none
 | [], q, h => by cases h
 | b :: r, q, h => by
  cases e : f q b with
  | none =>
   rw [List.cons_append, far_none e, far_none e, run_none e]
   exact ⟨rfl, rfl⟩
  | some q2 =>
   rw [run_some e] at h
   rw [List.cons_append, far_some e, far_some e, run_some e, (far_dead r q2 h).1]
   exact ⟨rfl, (far_dead r q2 h).2⟩
theorem far_le : ∀ (l : List Nat) (q : Q), far f q l ≤ l.length
 | [], q => Nat.le_refl _
 | b :: r, q => by
  cases e : f q b with
  | none =>
   rw [far_none e]
   exact Nat.zero_le _
  | some q2 =>
   rw [far_some e]
   exact Nat.succ_le_succ (far_le r q2)
theorem far_lt : ∀ (l : List Nat) (q : Q), run f q l = none → far f q l < l.length
 | [], q, h => by cases h
 | b :: r, q, h => by
  cases e : f q b with
  | none =>
   rw [far_none e]
   exact Nat.succ_pos _
  | some q2 =>
   rw [run_some e] at h
   rw [far_some e]
   exact Nat.succ_lt_succ (far_lt r q2 h)
theorem far_all {l : List Nat} {q q' : Q} (h : run f q l = some q') : far f q l = l.length := by
 have := far_append (m := []) l q h
 simpa [far] using this
theorem far_take : ∀ (l : List Nat) (q : Q) (n : Nat), far f q (l.take n) = min n (far f q l)
 | [], q, n => by simp [far]
 | b :: r, q, 0 => by simp [far]
 | b :: r, q, n + 1 => by
  cases e : f q b with
  | none =>
   rw [List.take_succ_cons, far_none e, far_none e]
   omega
  | some q2 =>
   rw [List.take_succ_cons, far_some e, far_some e, far_take r q2 n]
   omega
theorem run_take {l : List Nat} {q : Q} {n : Nat} (hn : n ≤ l.length) : (∃ q', run f q (l.take n) = some q') ↔ n ≤ far f q l := by
 have h := far_take (f := f) l q n
 have hl : (l.take n).length = n := by rw [List.length_take]; omega
 constructor
 · rintro ⟨q', hq⟩
   have := far_all hq
   omega
 · intro hle
   cases e : run f q (l.take n) with
   | some q' => exact ⟨q', rfl⟩
   | none =>
    have := far_lt _ _ e
    omega
end
def final : Q → Bool
 | .n => true
 | .st => true
 | .c k => decide (k ≠ 0)
 | _ => false
def inside : Q → Bool
 | .ns => true
 | .n => true
 | .nd => true
 | .np1 => true
 | .np2 => true
 | .c _ => true
 | .st => true
 | _ => false
theorem not_sep {b : Nat} (h : b = 44 ∨ b = 125) : isWord b = false ∧ isHex b = false ∧ isDigit b = false ∧ isOp b = false ∧ isLit b = (b == 44) := by
 rcases h with rfl | rfl <;> refine ⟨by decide, by decide, by decide, by decide, by decide⟩
theorem step_final {q : Q} (h : final q = true) : step q 44 = some .ns ∧ step q 125 = some .top := by
 have a := not_sep (b := 44) (.inl rfl)
 have b := not_sep (b := 125) (.inr rfl)
 cases q <;> first | cases h | skip
 case n => simp [step, a, b, fin]
 case st => simp [step, fin]
 case c k =>
  have hk : k ≠ 0 := of_decide_eq_true h
  simp [step, a, b, fin, hk]
theorem step_open {q : Q} (hi : inside q = true) (h : final q = false) : step q 44 = none ∧ step q 125 = none := by
 have a := not_sep (b := 44) (.inl rfl)
 have b := not_sep (b := 125) (.inr rfl)
 cases q <;> first | cases hi | cases h | skip
 case c k =>
  obtain rfl : k = 0 := Classical.byContradiction fun hk => by simp [final, hk] at h
  simp [step, a, b]
 case n => exact absurd h (by decide)
 case st => exact absurd h (by decide)
 all_goals simp [step, nsStep, a, b]
theorem fin_other {b : Nat} (h1 : b ≠ 44) (h2 : b ≠ 125) : fin b = none := by unfold fin; rw [if_neg h1, if_neg h2]
theorem step_inside {q q' : Q} {b : Nat} (hi : inside q = true) (h1 : b ≠ 44) (h2 : b ≠ 125) (h : step q b = some q') : inside q' = true := by
 have hf := fin_other h1 h2
 cases q <;> first | cases hi | skip
 all_goals
  simp only [step, nsStep, hf] at h
  repeat' split at h
  all_goals first | cases h; rfl | cases h
theorem run_inside : ∀ (l : List Nat) (q q' : Q), inside q = true → (∀ b ∈ l, b ≠ 44 ∧ b ≠ 125) → run step q l = some q' → inside q' = true
 | [], q, q', hi, _, h => by
  obtain rfl := Option.some.inj h
  exact hi
 | b :: r, q, q', hi, hb, h => by
  cases e : step q b with
  | none =>
   rw [run_none e] at h
   cases h
  | some q2 =>
   rw [run_some e] at h
   exact run_inside r q2 q' (step_inside hi (hb b (by simp)).1 (hb b (by simp)).2 e) (fun x hx => hb x (by simp [hx])) h
def isN : Q → Bool
 | .n => true
 | _ => false
theorem isN_iff (q : Q) : isN q = true ↔ q = .n := by cases q <;> simp [isN]
def scan : Q → Nat → Nat → List Nat → Nat × Nat
 | _, a, e, [] => (a, e)
 | q, a, e, b :: r => match nstep q b with
  | none => (a, e)
  | some q' => scan q' (a + 1) (if isN q' = true then a + 1 else e) r
theorem scan_none {q : Q} {b : Nat} (h : nstep q b = none) (a e : Nat) (r : List Nat) : scan q a e (b :: r) = (a, e) := by simp only [scan, h]
theorem scan_some {q q' : Q} {b : Nat} (h : nstep q b = some q') (a e : Nat) (r : List Nat) : scan q a e (b :: r) = scan q' (a + 1) (if isN q' = true then a + 1 else e) r := by simp only [scan, h]
theorem scan_far : ∀ (l : List Nat) (q : Q) (a e : Nat), (scan q a e l).1 = a + far nstep q l
 | [], q, a, e => rfl
 | b :: r, q, a, e => by
  cases h : nstep q b with
  | none => rw [scan_none h, far_none h]; rfl
  | some q' =>
   rw [scan_some h, far_some h, scan_far r]
   omega
theorem scan_end : ∀ (l : List Nat) (q : Q) (a e : Nat),
 ((scan q a e l).2 = e ∧ ∀ m, 1 ≤ m → m ≤ l.length → run nstep q (l.take m) ≠ some .n) ∨
 ∃ m, 1 ≤ m ∧ m ≤ l.length ∧ (scan q a e l).2 = a + m ∧ run nstep q (l.take m) = some .n ∧ ∀ m', m < m' → m' ≤ l.length → run nstep q (l.take m') ≠ some .n
 | [], q, a, e => .inl ⟨rfl, fun m h1 h2 => by simp at h2; omega⟩
 | b :: r, q, a, e => by
  cases h : nstep q b with
  | none =>
   refine .inl ⟨by rw [scan_none h], fun m h1 h2 => ?_⟩
   obtain ⟨m, rfl⟩ : ∃ k, m = k + 1 := ⟨m - 1, by omega⟩
   rw [List.take_succ_cons, run_none h]
   simp
  | some q' =>
   have key : ∀ m, run nstep q ((b :: r).take (m + 1)) = run nstep q' (r.take m) := fun m => by rw [List.take_succ_cons, run_some h]
   rw [scan_some h]
   rcases scan_end r q' (a + 1) (if isN q' = true then a + 1 else e) with ⟨h1, h2⟩ | ⟨m, h1, h2, h3, h4, h5⟩
   · by_cases hn : isN q' = true
     · refine .inr ⟨1, Nat.le_refl _, by simp, by rw [h1, if_pos hn], by rw [key 0]; exact congrArg some ((isN_iff q').1 hn), fun m' g1 g2 => ?_⟩
       obtain ⟨m', rfl⟩ : ∃ k, m' = k + 1 := ⟨m' - 1, by omega⟩
       rw [key]
       exact h2 m' (by omega) (by simpa using g2)
     · refine .inl ⟨by rw [h1, if_neg hn], fun m' g1 g2 => ?_⟩
       obtain ⟨m', rfl⟩ : ∃ k, m' = k + 1 := ⟨m' - 1, by omega⟩
       rw [key]
       by_cases g : m' = 0
       · subst g
         intro h6
         exact hn ((isN_iff q').2 (Option.some.inj h6))
       · exact h2 m' (by omega) (by simpa using g2)
   · refine .inr ⟨m + 1, by omega, by simpa using h2, by rw [h3]; omega, by rw [key]; exact h4, fun m' g1 g2 => ?_⟩
     obtain ⟨m', rfl⟩ : ∃ k, m' = k + 1 := ⟨m' - 1, by omega⟩
     rw [key]
     exact h5 m' (by omega) (by simpa using g2)
def nameEnd (l : List Nat) : Nat := (scan .ns 0 0 l).2
theorem nameEnd_le (l : List Nat) : nameEnd l ≤ l.length := by
 rcases scan_end l .ns 0 0 with ⟨h1, -⟩ | ⟨m, -, h2, h3, -⟩
 · rw [nameEnd, h1]
   omega
 · rw [nameEnd, h3]
   omega
theorem nameEnd_is (l : List Nat) (h : nameEnd l ≠ 0) : run nstep .ns (l.take (nameEnd l)) = some .n := by
 rcases scan_end l .ns 0 0 with ⟨h1, -⟩ | ⟨m, -, h2, h3, h4, -⟩
 · exact absurd h1 h
 · rw [nameEnd, h3, Nat.zero_add]
   exact h4
theorem nameEnd_last (l : List Nat) (m : Nat) (h1 : nameEnd l < m) (h2 : m ≤ l.length) : run nstep .ns (l.take m) ≠ some .n := by
 rcases scan_end l .ns 0 0 with ⟨g1, g2⟩ | ⟨k, -, g2, g3, g4, g5⟩
 · exact g2 m (by omega) h2
 · rw [nameEnd, g3] at h1
   exact g5 m (by omega) h2
theorem nameEnd_eq {l : List Nat} {m : Nat} (h1 : m ≤ l.length) (h2 : run nstep .ns (l.take m) = some .n) (h3 : ∀ k, m < k → k ≤ l.length → run nstep .ns (l.take k) ≠ some .n) : nameEnd l = m := by
 rcases Nat.lt_trichotomy (nameEnd l) m with h | h | h
 · exact absurd h2 (nameEnd_last l m h h1)
 · exact h
 · exact absurd (nameEnd_is l (by omega)) (h3 _ h (nameEnd_le l))
theorem nstep_step {q q' : Q} {b : Nat} (h : nstep q b = some q') : step q b = some q' := by
 cases q <;> first | exact h | cases h | skip
 simp only [nstep] at h
 simp only [step]
 by_cases h1 : isWord b = true
 · rw [if_pos h1] at h ⊢
   exact h
 rw [if_neg h1] at h ⊢
 by_cases h2 : b = 37
 · rw [if_pos h2] at h ⊢
   exact h
 rw [if_neg h2] at h ⊢
 by_cases h3 : b = 46
 · rw [if_pos h3] at h ⊢
   exact h
 rw [if_neg h3] at h
 cases h
theorem nrun_run : ∀ (l : List Nat) (q q' : Q), run nstep q l = some q' → run step q l = some q'
 | [], q, q', h => h
 | b :: r, q, q', h => by
  cases e : nstep q b with
  | none =>
   rw [run_none e] at h
   cases h
  | some q2 =>
   rw [run_some e] at h
   rw [run_some (nstep_step e)]
   exact nrun_run r q2 q' h
def within : Q → Bool
 | .ns => true
 | .nd => true
 | .np1 => true
 | .np2 => true
 | _ => false
theorem step_within {q : Q} (h : within q = true) (b : Nat) : step q b = nstep q b := by cases q <;> first | rfl | (cases h; done)
theorem nstep_kind {q q' : Q} {b : Nat} (h : nstep q b = some q') : within q' = true ∨ q' = .n := by
 cases q <;> simp only [nstep, nsStep] at h <;> first | cases h | skip
 all_goals
  repeat' split at h
  all_goals first | cases h; exact .inr rfl | cases h; exact .inl rfl | cases h
theorem run_same : ∀ (l : List Nat) (q : Q), within q = true → (∀ m, 1 ≤ m → m ≤ l.length → run nstep q (l.take m) ≠ some .n) → far step q l = far nstep q l ∧ run step q l = run nstep q l
 | [], q, _, _ => ⟨rfl, rfl⟩
 | b :: r, q, hq, hm => by
  have hs := step_within hq b
  cases e : nstep q b with
  | none =>
   rw [e] at hs
   rw [far_none e, far_none hs, run_none e, run_none hs]
   exact ⟨rfl, rfl⟩
  | some q' =>
   rw [e] at hs
   rw [far_some e, far_some hs, run_some e, run_some hs]
   have hq' : within q' = true := by
    rcases nstep_kind e with h | h
    · exact h
    · exact absurd (by rw [List.take_succ_cons, run_some e, List.take_zero, run_nil, h]) (hm 1 (Nat.le_refl _) (by simp))
   obtain ⟨a, b'⟩ := run_same r q' hq' fun m h1 h2 h3 => hm (m + 1) (by omega) (by simpa using h2) (by rw [List.take_succ_cons, run_some e]; exact h3)
   rw [a, b']
   exact ⟨rfl, rfl⟩
def num (r : List Nat) : Nat := r.foldl (fun a d => 10 * a + (d - 48)) 0
def behindFar : List Nat → Nat
 | [] => 0
 | b :: r => if b = 42 then 1 else if b = 58 then 1 + far step (.c 0) r else 0
def behindIs : List Nat → Option (Int × Bool)
 | [] => some (0, false)
 | b :: r => if b = 42 then (if r = [] then some (0, true) else none) else if b = 58 then (if r ≠ [] ∧ far step (.c 0) r = r.length then some (((num r : Nat) : Int), false) else none) else none
structure MVar where
 name : List Nat
 max : Int
 star : Bool
def mVar (l : List Nat) : Option MVar := if nameEnd l = 0 then none else (behindIs (l.drop (nameEnd l))).map fun t => ⟨l.take (nameEnd l), t.1, t.2⟩
def NoSep (l : List Nat) : Prop := ∀ b ∈ l, b ≠ 44 ∧ b ≠ 125
theorem NoSep.drop {l : List Nat} (h : NoSep l) (n : Nat) : NoSep (l.drop n) := fun b hb => h b (List.mem_of_mem_drop hb)
theorem NoSep.tail {b : Nat} {l : List Nat} (h : NoSep (b :: l)) : NoSep l := fun x hx => h x (List.mem_cons_of_mem _ hx)
theorem st_dies {l : List Nat} (h : NoSep l) : far step .st l = 0 ∧ (l ≠ [] → run step .st l = none) := by
 match l, h with
 | [], h => exact ⟨rfl, fun g => absurd rfl g⟩
 | b :: r, h =>
  have hs : step .st b = none := fin_other (h b (by simp)).1 (h b (by simp)).2
  exact ⟨far_none hs r, fun _ => run_none hs r⟩
theorem c_kind : ∀ (l : List Nat) (k : Nat) (q : Q), NoSep l → run step (.c k) l = some q → q = .c (k + l.length)
 | [], k, q, _, h => (Option.some.inj h).symm
 | b :: r, k, q, hs, h => by
  cases e : step (.c k) b with
  | none =>
   rw [run_none e] at h
   cases h
  | some q' =>
   rw [run_some e] at h
   have e2 : q' = .c (k + 1) := by
    simp only [step] at e
    rw [fin_other (hs b (by simp)).1 (hs b (by simp)).2] at e
    repeat' split at e
    all_goals first | exact (Option.some.inj e).symm | cases e
   subst e2
   rw [c_kind r (k + 1) q hs.tail h, List.length_cons]
   congr 1
   omega
theorem c_far {l : List Nat} {k : Nat} (hs : NoSep l) : far step (.c k) l = l.length ↔ run step (.c k) l = some (.c (k + l.length)) := by
 constructor
 · intro h
   cases e : run step (.c k) l with
   | none =>
    have := far_lt _ _ e
    omega
   | some q => rw [c_kind l k q hs e]
 · intro h
   exact far_all h
theorem n_other {b : Nat} (h0 : isWord b = false) (h1 : b ≠ 37) (h2 : b ≠ 46) (h3 : b ≠ 42) (h4 : b ≠ 58) (h5 : b ≠ 44) (h6 : b ≠ 125) : step .n b = none ∧ nstep .n b = none := by
 simp only [step, nstep]
 rw [if_neg (by simp [h0]), if_neg h1, if_neg h2, if_neg h3, if_neg h4, fin_other h5 h6, if_neg (by simp [h0]), if_neg h1, if_neg h2]
 exact ⟨rfl, rfl⟩
theorem n_star (b : Nat) (h : b = 42) : step .n b = some .st ∧ nstep .n b = none := by
 subst h
 have h1 : isWord 42 = false := by decide
 simp [step, nstep, h1]
theorem n_colon (b : Nat) (h : b = 58) : step .n b = some (.c 0) ∧ nstep .n b = none := by
 subst h
 have h1 : isWord 58 = false := by decide
 simp [step, nstep, h1]
theorem behind_n {l : List Nat} (hs : NoSep l) (hm : ∀ m, 1 ≤ m → m ≤ l.length → run nstep .n (l.take m) ≠ some .n) :
 far step .n l = max (far nstep .n l) (behindFar l) ∧ ((∃ q, run step .n l = some q ∧ final q = true) ↔ ∃ t, behindIs l = some t) := by
 match l, hs, hm with
 | [], _, _ => exact ⟨rfl, ⟨fun _ => ⟨_, rfl⟩, fun _ => ⟨_, rfl, rfl⟩⟩⟩
 | b :: r, hs, hm =>
  have hw : isWord b = false := by
   cases e : isWord b with
   | false => rfl
   | true =>
    refine absurd ?_ (hm 1 (Nat.le_refl _) (by simp))
    rw [List.take_succ_cons, List.take_zero, run_some (q' := .n) (by simp only [nstep]; rw [if_pos e]), run_nil]
  have hb := hs b (by simp)
  by_cases h42 : b = 42
  · have hn := n_star b h42
    rw [far_some hn.1, far_none hn.2, run_some hn.1, (st_dies hs.tail).1]
    refine ⟨by simp only [behindFar]; rw [if_pos h42]; rfl, ?_⟩
    by_cases hr : r = []
    · subst hr
      exact ⟨fun _ => ⟨(0, true), by simp [behindIs, h42]⟩, fun _ => ⟨_, rfl, rfl⟩⟩
    · refine ⟨fun ⟨q, h, _⟩ => ?_, fun ⟨t, h⟩ => ?_⟩
      · rw [(st_dies hs.tail).2 hr] at h
        cases h
      · simp only [behindIs] at h
        rw [if_pos h42, if_neg hr] at h
        cases h
  by_cases h58 : b = 58
  · have hn := n_colon b h58
    rw [far_some hn.1, far_none hn.2, run_some hn.1]
    refine ⟨by simp only [behindFar]; rw [if_neg h42, if_pos h58]; omega, ?_⟩
    refine ⟨fun ⟨q, h, hf⟩ => ?_, fun ⟨t, h⟩ => ?_⟩
    · have hq := c_kind r 0 q hs.tail h
      subst hq
      have hr : r ≠ [] := by
       rintro rfl
       exact absurd hf (by decide)
      refine ⟨(((num r : Nat) : Int), false), ?_⟩
      simp only [behindIs]
      rw [if_neg h42, if_pos h58, if_pos ⟨hr, (c_far hs.tail).2 h⟩]
    · simp only [behindIs] at h
      rw [if_neg h42, if_pos h58] at h
      split at h
      case isFalse => cases h
      rename_i hg
      refine ⟨_, (c_far hs.tail).1 hg.2, ?_⟩
      have : r.length ≠ 0 := fun h0 => hg.1 (List.length_eq_zero_iff.1 h0)
      simp only [final]
      exact decide_eq_true (by omega)
  have h0 : behindFar (b :: r) = 0 := by simp only [behindFar]; rw [if_neg h42, if_neg h58]
  have h1 : behindIs (b :: r) = none := by simp only [behindIs]; rw [if_neg h42, if_neg h58]
  rw [h0, h1]
  suffices h : far step .n (b :: r) = far nstep .n (b :: r) ∧ ¬ ∃ q, run step .n (b :: r) = some q ∧ final q = true from
   ⟨by rw [h.1]; omega, ⟨fun g => absurd g h.2, fun ⟨t, g⟩ => by cases g⟩⟩
  have go : ∀ q', nstep .n b = some q' → within q' = true → far step .n (b :: r) = far nstep .n (b :: r) ∧ ¬ ∃ q, run step .n (b :: r) = some q ∧ final q = true := by
   intro q' e hq'
   have hm' : ∀ m, 1 ≤ m → m ≤ r.length → run nstep q' (r.take m) ≠ some .n := fun m h1 h2 h3 => hm (m + 1) (by omega) (by simpa using h2) (by rw [List.take_succ_cons, run_some e]; exact h3)
   obtain ⟨g1, g2⟩ := run_same r q' hq' hm'
   rw [far_some e, far_some (nstep_step e), g1]
   refine ⟨rfl, ?_⟩
   rintro ⟨q, h, hf⟩
   rw [run_some (nstep_step e), g2] at h
   have hk : ∀ (l : List Nat) (p : Q), within p = true → run nstep p l = some q → within q = true ∨ q = .n := by
    intro l
    induction l with
    | nil => exact fun p hp h => .inl (by rw [← Option.some.inj h]; exact hp)
    | cons x l ih =>
     intro p hp h
     cases e : nstep p x with
     | none =>
      rw [run_none e] at h
      cases h
     | some p' =>
      rw [run_some e] at h
      rcases nstep_kind e with g | g
      · exact ih p' g h
      · subst g
        have : ∀ (l : List Nat) (p : Q), within p = true ∨ p = .n → run nstep p l = some q → within q = true ∨ q = .n := by
         intro l
         induction l with
         | nil => exact fun p hp h => by rw [← Option.some.inj h]; exact hp
         | cons y l ih2 =>
          intro p hp h
          cases e : nstep p y with
          | none =>
           rw [run_none e] at h
           cases h
          | some pq =>
           rw [run_some e] at h
           exact ih2 pq (nstep_kind e) h
        exact this l .n (.inr rfl) h
   rcases hk r q' hq' h with g | g
   · cases q <;> first | (cases g; done) | (cases hf; done)
   · subst g
     by_cases hr : r = []
     · subst hr
       obtain rfl := Option.some.inj h
       cases hq'
     · refine hm' r.length (List.length_pos_iff.2 hr) (Nat.le_refl _) ?_
       rw [List.take_length]
       exact h
  by_cases h37 : b = 37
  · exact go .np1 (by simp only [nstep]; rw [if_neg (by simp [hw]), if_pos h37]) rfl
  by_cases h46 : b = 46
  · exact go .nd (by simp only [nstep]; rw [if_neg (by simp [hw]), if_neg h37, if_pos h46]) rfl
  obtain ⟨a, c⟩ := n_other hw h37 h46 h42 h58 hb.1 hb.2
  rw [far_none a, far_none c, run_none a]
  exact ⟨rfl, fun ⟨q, h, _⟩ => by cases h⟩
theorem var_far {l : List Nat} (hs : NoSep l) :
 far step .ns l = max (scan .ns 0 0 l).1 (if nameEnd l = 0 then 0 else nameEnd l + behindFar (l.drop (nameEnd l))) ∧ ((∃ q, run step .ns l = some q ∧ final q = true) ↔ ∃ v, mVar l = some v) := by
 rw [scan_far, Nat.zero_add]
 by_cases h0 : nameEnd l = 0
 · have hm : ∀ m, 1 ≤ m → m ≤ l.length → run nstep .ns (l.take m) ≠ some .n := fun m h1 h2 => nameEnd_last l m (by omega) h2
   obtain ⟨a, b⟩ := run_same l .ns rfl hm
   rw [if_pos h0, a, b]
   refine ⟨by omega, ⟨?_, ?_⟩⟩
   · rintro ⟨q, h, hf⟩
     exfalso
     by_cases hl : l = []
     · subst hl
       obtain rfl := Option.some.inj h
       cases hf
     · have h2 := nrun_run _ _ _ h
       have hi := run_inside l .ns q rfl hs h2
       have : within q = true ∨ q = .n := by
        have : ∀ (l : List Nat) (p : Q), within p = true ∨ p = .n → run nstep p l = some q → within q = true ∨ q = .n := by
         intro l
         induction l with
         | nil => exact fun p hp h => by rw [← Option.some.inj h]; exact hp
         | cons y l ih2 =>
          intro p hp h
          cases e : nstep p y with
          | none =>
           rw [run_none e] at h
           cases h
          | some pq =>
           rw [run_some e] at h
           exact ih2 pq (nstep_kind e) h
        exact this l .ns (.inl rfl) h
       rcases this with g | g
       · cases q <;> first | (cases g; done) | (cases hf; done)
       · subst g
         exact hm l.length (List.length_pos_iff.2 hl) (Nat.le_refl _) (by rw [List.take_length]; exact h)
   · rintro ⟨v, h⟩
     rw [mVar, if_pos h0] at h
     cases h
 · have hn := nameEnd_is l h0
   have hr := nrun_run _ _ _ hn
   have hle := nameEnd_le l
   have hlen : (l.take (nameEnd l)).length = nameEnd l := by rw [List.length_take]; omega
   have hsplit : l = l.take (nameEnd l) ++ l.drop (nameEnd l) := (List.take_append_drop _ _).symm
   have hm : ∀ m, 1 ≤ m → m ≤ (l.drop (nameEnd l)).length → run nstep .n ((l.drop (nameEnd l)).take m) ≠ some .n := by
    intro m h1 h2 h3
    rw [List.length_drop] at h2
    refine nameEnd_last l (nameEnd l + m) (by omega) (by omega) ?_
    rw [List.take_add, run_append, hn, Option.bind_some]
    exact h3
   obtain ⟨a, b⟩ := behind_n (hs.drop _) hm
   have e1 : far step .ns l = nameEnd l + far step .n (l.drop (nameEnd l)) := by
    conv => lhs; rw [hsplit]
    rw [far_append _ _ hr, hlen]
   have e2 : far nstep .ns l = nameEnd l + far nstep .n (l.drop (nameEnd l)) := by
    conv => lhs; rw [hsplit]
    rw [far_append _ _ hn, hlen]
   have e3 : run step .ns l = run step .n (l.drop (nameEnd l)) := by
    conv => lhs; rw [hsplit]
    rw [run_append, hr, Option.bind_some]
   rw [if_neg h0, e1, e2, e3, a]
   refine ⟨by omega, ?_⟩
   rw [b, mVar, if_neg h0]
   constructor
   · rintro ⟨t, ht⟩
     rw [ht]
     exact ⟨_, rfl⟩
   · rintro ⟨v, hv⟩
     cases hb : behindIs (l.drop (nameEnd l)) with
     | none =>
      rw [hb] at hv
      cases hv
     | some t => exact ⟨t, rfl⟩
def trip : List Nat → Bool
 | a :: b :: c :: _ => a == 37 && (isHex b && isHex c)
 | _ => false
def pieceN : List Nat → Nat
 | [] => 0
 | b :: r => if isLit b = true then 1 else if trip (b :: r) = true then 3 else ucsAt (b :: r)
def piecesN : Nat → List Nat → Nat
 | 0, _ => 0
 | d + 1, l => if pieceN l = 0 then 0 else pieceN l + piecesN d (l.drop (pieceN l))
theorem lit_kind {b : Nat} (h : isLit b = true) : b ≠ 37 ∧ b ≠ 123 ∧ b ≠ 44 + 81 ∧ b < 192 := by
 refine ⟨?_, ?_, ?_, ?_⟩
 · rintro rfl; revert h; decide
 · rintro rfl; revert h; decide
 · rintro rfl; revert h; decide
 · simp [isLit] at h
   omega
theorem step_lit {b : Nat} (h : isLit b = true) : step .top b = some .top := by simp only [step]; rw [if_pos h]
theorem step_pct : step .top 37 = some .p1 := by
 have : isLit 37 = false := by decide
 simp [step, this]
theorem step_open_brace : step .top 123 = some .e0 := by
 have : isLit 123 = false := by decide
 simp [step, this]
theorem step_u {b : Nat} (h : 192 ≤ b) : step .top b = if fits [b] = true then some (.u [b]) else none := by
 have h1 : ¬ isLit b = true := fun g => by have := lit_kind g; omega
 simp only [step]
 rw [if_neg h1, if_neg (by omega), if_neg (by omega)]
theorem step_u_next {l : List Nat} {b : Nat} (h : ucsAt (l ++ [b]) ≠ l.length + 1) (hf : fits (l ++ [b]) = true) : step (.u l) b = some (.u (l ++ [b])) := by simp only [step]; rw [if_neg h, if_pos hf]
theorem step_u_top {l : List Nat} {b : Nat} (h : ucsAt (l ++ [b]) = l.length + 1) : step (.u l) b = some .top := by simp only [step]; rw [if_pos h]
theorem piece_top {l : List Nat} (h : pieceN l ≠ 0) : pieceN l ≤ l.length ∧ run step .top (l.take (pieceN l)) = some .top ∧ l.head? ≠ some 123 := by
 match l, h with
 | [], h => exact absurd rfl h
 | b :: r, h =>
  by_cases h1 : isLit b = true
  · have e : pieceN (b :: r) = 1 := by simp only [pieceN]; rw [if_pos h1]
    rw [e]
    refine ⟨by simp, by rw [List.take_succ_cons, List.take_zero, run_some (step_lit h1), run_nil], ?_⟩
    intro g
    exact (lit_kind h1).2.1 (Option.some.inj g)
  by_cases h2 : trip (b :: r) = true
  · have e : pieceN (b :: r) = 3 := by simp only [pieceN]; rw [if_neg h1, if_pos h2]
    rw [e]
    match r, h2 with
    | [], h2 => cases h2
    | [_], h2 => cases h2
    | c :: d :: r, h2 =>
     simp only [trip, Bool.and_eq_true, beq_iff_eq] at h2
     obtain ⟨rfl, hc, hd⟩ := h2
     refine ⟨by simp, ?_, by simp⟩
     rw [List.take_succ_cons, List.take_succ_cons, List.take_succ_cons, List.take_zero, run_some step_pct, run_some (q' := .p2) (by simp only [step]; rw [if_pos hc]), run_some (q' := .top) (by simp only [step]; rw [if_pos hd]), run_nil]
  have e : pieceN (b :: r) = ucsAt (b :: r) := by simp only [pieceN]; rw [if_neg h1, if_neg h2]
  rw [e] at h ⊢
  rcases ucsAt_steps (b :: r) with g | ⟨g, b0, b1, r', he, hb, f1, u2⟩ | ⟨g, b0, b1, b2, r', he, hb, f1, u2, f2, u3⟩ | ⟨g, b0, b1, b2, b3, r', he, hb, f1, u2, f2, u3, f3, u4⟩
  · exact absurd g h
  · rw [g, he]
    have s1 : step .top b0 = some (.u [b0]) := by rw [step_u hb, if_pos f1]
    refine ⟨by simp, ?_, by simp; omega⟩
    rw [List.take_succ_cons, List.take_succ_cons, List.take_zero, run_some s1, run_some (step_u_top (l := [b0]) u2), run_nil]
  · rw [g, he]
    have s1 : step .top b0 = some (.u [b0]) := by rw [step_u hb, if_pos f1]
    have s2 : step (.u [b0]) b1 = some (.u [b0, b1]) := step_u_next (l := [b0]) (by simp [u2]) f2
    refine ⟨by simp, ?_, by simp; omega⟩
    rw [List.take_succ_cons, List.take_succ_cons, List.take_succ_cons, List.take_zero, run_some s1, run_some s2, run_some (step_u_top (l := [b0, b1]) u3), run_nil]
  · rw [g, he]
    have s1 : step .top b0 = some (.u [b0]) := by rw [step_u hb, if_pos f1]
    have s2 : step (.u [b0]) b1 = some (.u [b0, b1]) := step_u_next (l := [b0]) (by simp [u2]) f2
    have s3 : step (.u [b0, b1]) b2 = some (.u [b0, b1, b2]) := step_u_next (l := [b0, b1]) (by simp [u3]) f3
    refine ⟨by simp, ?_, by simp; omega⟩
    rw [List.take_succ_cons, List.take_succ_cons, List.take_succ_cons, List.take_succ_cons, List.take_zero, run_some s1, run_some s2, run_some s3, run_some (step_u_top (l := [b0, b1, b2]) u4), run_nil]
def fitsFar : List Nat → List Nat → Nat
 | _, [] => 0
 | l, b :: r => if fits (l ++ [b]) = true then fitsFar (l ++ [b]) r + 1 else 0
def amid : Q → Bool
 | .p1 => true
 | .p2 => true
 | .u _ => true
 | _ => false
theorem u_far : ∀ (r l : List Nat), l ≠ [] → ucsAt (l ++ r) = 0 → far step (.u l) r = fitsFar l r ∧ (run step (.u l) r = none ∨ ∃ q, run step (.u l) r = some q ∧ amid q = true)
 | [], l, _, _ => ⟨rfl, .inr ⟨_, rfl, rfl⟩⟩
 | b :: r, l, hl, hu => by
  have e : l ++ b :: r = (l ++ [b]) ++ r := by simp
  have hne : ucsAt (l ++ [b]) ≠ l.length + 1 := by
   intro h
   have h2 := ucsAt_append (m := r) (l := l ++ [b]) (by simpa using h) (by simp)
   rw [← e, hu] at h2
   simp at h2
  by_cases hf : fits (l ++ [b]) = true
  · have hs := step_u_next hne hf
    obtain ⟨a, c⟩ := u_far r (l ++ [b]) (by simp) (by rw [← e]; exact hu)
    rw [far_some hs, run_some hs, a]
    refine ⟨?_, c⟩
    simp only [fitsFar]
    rw [if_pos hf]
  · have hs : step (.u l) b = none := by simp only [step]; rw [if_neg hne, if_neg hf]
    rw [far_none hs, run_none hs]
    refine ⟨?_, .inl rfl⟩
    simp only [fitsFar]
    rw [if_neg hf]
def stopN : List Nat → Nat
 | [] => 0
 | b :: r => if b = 37 then (match r with
  | [] => 1
  | c :: _ => if isHex c = true then 2 else 1) else fitsFar [] (b :: r)
theorem stop_far {b : Nat} {r : List Nat} (h : pieceN (b :: r) = 0) (hb : b ≠ 123) :
 far step .top (b :: r) = stopN (b :: r) ∧ (run step .top (b :: r) = none ∨ ∃ q, run step .top (b :: r) = some q ∧ amid q = true) := by
 simp only [pieceN] at h
 by_cases h1 : isLit b = true
 · rw [if_pos h1] at h
   cases h
 rw [if_neg h1] at h
 by_cases h2 : trip (b :: r) = true
 · rw [if_pos h2] at h
   cases h
 rw [if_neg h2] at h
 by_cases h3 : b = 37
 · subst h3
   rw [far_some step_pct, run_some step_pct]
   simp only [stopN]
   rw [if_pos trivial]
   match r, h2 with
   | [], _ => exact ⟨rfl, .inr ⟨_, rfl, rfl⟩⟩
   | [c], _ =>
    by_cases hc : isHex c = true
    · have s : step .p1 c = some .p2 := by simp only [step]; rw [if_pos hc]
      rw [far_some s, run_some s]
      simp only [far, run, hc, if_true]
      exact ⟨trivial, .inr ⟨_, rfl, rfl⟩⟩
    · have s : step .p1 c = none := by simp only [step]; rw [if_neg hc]
      rw [far_none s, run_none s]
      simp only [hc]
      exact ⟨rfl, .inl trivial⟩
   | c :: d :: r, h2 =>
    by_cases hc : isHex c = true
    · have s : step .p1 c = some .p2 := by simp only [step]; rw [if_pos hc]
      have hd : ¬ isHex d = true := fun g => h2 (by simp [trip, hc, g])
      have s2 : step .p2 d = none := by simp only [step]; rw [if_neg hd]
      rw [far_some s, run_some s, far_none s2, run_none s2]
      simp only [hc, if_true]
      exact ⟨trivial, .inl trivial⟩
    · have s : step .p1 c = none := by simp only [step]; rw [if_neg hc]
      rw [far_none s, run_none s]
      simp only [hc]
      exact ⟨rfl, .inl trivial⟩
 · have hstep : step .top b = if fits [b] = true then some (.u [b]) else none := by
    simp only [step]
    rw [if_neg h1, if_neg h3, if_neg hb]
   have e : stopN (b :: r) = if fits [b] = true then fitsFar [b] r + 1 else 0 := by
    simp only [stopN]
    rw [if_neg h3]
    simp only [fitsFar, List.nil_append]
   rw [e]
   by_cases hf : fits [b] = true
   · rw [if_pos hf] at hstep ⊢
     obtain ⟨a, c⟩ := u_far r [b] (by simp) h
     rw [far_some hstep, run_some hstep, a]
     exact ⟨rfl, c⟩
   · rw [if_neg hf] at hstep ⊢
     rw [far_none hstep, run_none hstep]
     exact ⟨rfl, .inl rfl⟩
theorem pieces_top : ∀ (d : Nat) (l : List Nat), piecesN d l ≤ l.length ∧ run step .top (l.take (piecesN d l)) = some .top
 | 0, l => ⟨Nat.zero_le _, rfl⟩
 | d + 1, l => by
  simp only [piecesN]
  by_cases h : pieceN l = 0
  · rw [if_pos h]
    exact ⟨Nat.zero_le _, rfl⟩
  · rw [if_neg h]
    obtain ⟨a, b, -⟩ := piece_top h
    obtain ⟨c, e⟩ := pieces_top d (l.drop (pieceN l))
    rw [List.length_drop] at c
    refine ⟨by omega, ?_⟩
    rw [List.take_add, run_append, b, Option.bind_some]
    exact e
theorem pieces_last : ∀ (d : Nat) (l : List Nat), l.length < d → pieceN (l.drop (piecesN d l)) = 0
 | 0, l, h => by omega
 | d + 1, l, h => by
  simp only [piecesN]
  by_cases h1 : pieceN l = 0
  · rw [if_pos h1, List.drop_zero]
    exact h1
  · rw [if_neg h1]
    obtain ⟨a, -, -⟩ := piece_top h1
    have := pieces_last d (l.drop (pieceN l)) (by rw [List.length_drop]; omega)
    rw [List.drop_drop] at this
    exact this
theorem pieces_zero (d : Nat) (l : List Nat) : piecesN (d + 1) l = 0 ↔ pieceN l = 0 := by
 simp only [piecesN]
 by_cases h : pieceN l = 0
 · rw [if_pos h]
   exact ⟨fun _ => h, fun _ => rfl⟩
 · rw [if_neg h]
   exact ⟨fun g => by omega, fun g => absurd g h⟩
def cut : List Nat → Option (List Nat × Nat × List Nat)
 | [] => none
 | b :: r => if b = 44 ∨ b = 125 then some ([], b, r) else match cut r with
  | none => none
  | some (a, c, t) => some (b :: a, c, t)
theorem cut_none : ∀ {l : List Nat}, cut l = none → NoSep l
 | [], _ => fun b hb => by cases hb
 | b :: r, h => by
  simp only [cut] at h
  split at h
  · cases h
  · rename_i hb
    cases e : cut r with
    | some t =>
     rw [e] at h
     cases h
    | none =>
     intro x hx
     rcases List.mem_cons.1 hx with rfl | hx
     · exact ⟨fun g => hb (.inl g), fun g => hb (.inr g)⟩
     · exact cut_none e x hx
theorem cut_some : ∀ {l a t : List Nat} {c : Nat}, cut l = some (a, c, t) → l = a ++ c :: t ∧ NoSep a ∧ (c = 44 ∨ c = 125)
 | [], _, _, _, h => by cases h
 | b :: r, a, t, c, h => by
  simp only [cut] at h
  split at h
  · rename_i hb
    cases h
    exact ⟨rfl, fun x hx => (by cases hx), hb⟩
  · rename_i hb
    cases e : cut r with
    | none =>
     rw [e] at h
     cases h
    | some p =>
     rw [e] at h
     cases h
     obtain ⟨h1, h2, h3⟩ := cut_some e
     refine ⟨by rw [h1]; rfl, ?_, h3⟩
     intro x hx
     rcases List.mem_cons.1 hx with rfl | hx
     · exact ⟨fun g => hb (.inl g), fun g => hb (.inr g)⟩
     · exact h2 x hx
theorem cut_of : ∀ {a t : List Nat} {c : Nat}, NoSep a → (c = 44 ∨ c = 125) → cut (a ++ c :: t) = some (a, c, t)
 | [], t, c, _, hc => by
  simp only [List.nil_append, cut]
  rw [if_pos hc]
 | b :: a, t, c, h, hc => by
  simp only [List.cons_append, cut]
  rw [if_neg (fun g => by have := h b (by simp); rcases g with g | g <;> simp [g] at this), cut_of h.tail hc]
def exprN : Nat → List Nat → Option (List MVar × List Nat)
 | 0, _ => none
 | d + 1, l => match cut l with
  | none => none
  | some (a, c, r) => match mVar a with
   | none => none
   | some v => if c = 125 then some ([v], r) else match exprN d r with
    | none => none
    | some (vs, t) => some (v :: vs, t)
theorem var_sep {a : List Nat} (hs : NoSep a) (c : Nat) (hc : c = 44 ∨ c = 125) (r : List Nat) :
 (∀ v, mVar a = some v → run step .ns (a ++ c :: r) = run step (if c = 125 then .top else .ns) r ∧ far step .ns (a ++ c :: r) = a.length + 1 + far step (if c = 125 then .top else .ns) r ∧ ∃ q, run step .ns a = some q ∧ step q c = some (if c = 125 then .top else .ns)) ∧
 (mVar a = none → run step .ns (a ++ c :: r) = none ∧ far step .ns (a ++ c :: r) = far step .ns a) := by
 obtain ⟨-, hv⟩ := var_far hs
 constructor
 · intro v h
   obtain ⟨q, hq, hf⟩ := hv.2 ⟨v, h⟩
   have hstep : step q c = some (if c = 125 then .top else .ns) := by
    rcases hc with rfl | rfl
    · exact (step_final hf).1
    · exact (step_final hf).2
   rw [run_append, hq, Option.bind_some, run_some hstep, far_append a _ hq, far_some hstep]
   exact ⟨rfl, by omega, q, rfl, hstep⟩
 · intro h
   cases e : run step .ns a with
   | none => exact ⟨(far_dead a _ e).2, (far_dead a _ e).1⟩
   | some q =>
    have hf : final q = false := by
     cases e2 : final q with
     | false => rfl
     | true =>
      obtain ⟨v, g⟩ := hv.1 ⟨q, e, e2⟩
      rw [h] at g
      cases g
    have hstep : step q c = none := by
     have := step_open (run_inside a .ns q rfl hs e) hf
     rcases hc with rfl | rfl
     · exact this.1
     · exact this.2
    rw [run_append, e, Option.bind_some, run_none hstep, far_append a _ e, far_none hstep, far_all e]
    exact ⟨rfl, rfl⟩
theorem expr_top : ∀ (d : Nat) (l : List Nat), l.length < d →
 (∀ vs r, exprN d l = some (vs, r) → vs ≠ [] ∧ ∃ p, l = p ++ r ∧ p ≠ [] ∧ run step .ns p = some .top) ∧
 (exprN d l = none → run step .ns l = none ∨ ∃ q, run step .ns l = some q ∧ inside q = true)
 | 0, l, h => by omega
 | d + 1, l, h => by
  simp only [exprN]
  cases e : cut l with
  | none =>
   refine ⟨fun vs r g => (by cases g), fun _ => ?_⟩
   cases e2 : run step .ns l with
   | none => exact .inl rfl
   | some q => exact .inr ⟨q, rfl, run_inside l .ns q rfl (cut_none e) e2⟩
  | some t =>
   obtain ⟨a, c, r⟩ := t
   obtain ⟨rfl, hs, hc⟩ := cut_some e
   obtain ⟨v1, v2⟩ := var_sep hs c hc r
   simp only
   cases hm : mVar a with
   | none => exact ⟨fun vs r g => (by cases g), fun _ => .inl (v2 hm).1⟩
   | some v =>
    obtain ⟨w1, w2, q, w3, w4⟩ := v1 v hm
    simp only
    by_cases h125 : c = 125
    · rw [if_pos h125] at w1 w2 w4 ⊢
      refine ⟨fun vs r' g => ?_, fun g => by cases g⟩
      cases g
      refine ⟨by simp, a ++ [c], by simp, by simp, ?_⟩
      rw [run_append, w3, Option.bind_some, run_some w4, run_nil]
    · rw [if_neg h125] at w1 w2 w4 ⊢
      have hl : r.length < d := by
       rw [List.length_append, List.length_cons] at h
       omega
      obtain ⟨i1, i2⟩ := expr_top d r hl
      cases hx : exprN d r with
      | none =>
       refine ⟨fun vs r' g => (by cases g), fun _ => ?_⟩
       rw [w1]
       exact i2 hx
      | some p =>
       obtain ⟨vs', t'⟩ := p
       refine ⟨fun vs r' g => ?_, fun g => by cases g⟩
       cases g
       obtain ⟨-, p, rfl, -, hp⟩ := i1 _ _ hx
       refine ⟨by simp, a ++ c :: p, by simp, by simp, ?_⟩
       rw [run_append, w3, Option.bind_some, run_some w4]
       exact hp
def opN : List Nat → Int × List Nat
 | [] => (0, [])
 | b :: r => if isOp b = true then ((b : Int), r) else (0, b :: r)
theorem opN_length (l : List Nat) : (opN l).2.length ≤ l.length := by
 match l with
 | [] => exact Nat.le_refl _
 | b :: r =>
  simp only [opN]
  split
  · simp
  · exact Nat.le_refl _
theorem opN_run (l : List Nat) (h : l ≠ []) : run step .e0 l = run step .ns (opN l).2 ∧ far step .e0 l = (l.length - (opN l).2.length) + far step .ns (opN l).2 := by
 match l, h with
 | [], h => exact absurd rfl h
 | b :: r, _ =>
  simp only [opN]
  by_cases hb : isOp b = true
  · have hs : step .e0 b = some .ns := by simp only [step]; rw [if_pos hb]
    rw [if_pos hb, run_some hs, far_some hs]
    refine ⟨rfl, ?_⟩
    simp only [List.length_cons]
    omega
  · have hs : step .e0 b = step .ns b := by simp only [step]; rw [if_neg hb]
    rw [if_neg hb]
    have e1 : run step .e0 (b :: r) = run step .ns (b :: r) := by simp only [run, hs]
    have e2 : far step .e0 (b :: r) = far step .ns (b :: r) := by simp only [far, hs]
    rw [e1, e2]
    refine ⟨rfl, ?_⟩
    simp only
    omega
structure MPart where
 lit : List Nat
 op : Int
 specs : List MVar
def mP : Nat → List Nat → Option (List MPart)
 | _, [] => some []
 | 0, _ :: _ => none
 | d + 1, b :: r =>
  if b = 123 then (match exprN (r.length + 1) (opN r).2 with
   | none => none
   | some (vs, t) => match mP d t with
    | none => none
    | some ps => some (⟨[], (opN r).1, vs⟩ :: ps))
  else if piecesN (r.length + 2) (b :: r) = 0 then none
  else match mP d ((b :: r).drop (piecesN (r.length + 2) (b :: r))) with
   | none => none
   | some ps => some (⟨(b :: r).take (piecesN (r.length + 2) (b :: r)), 0, []⟩ :: ps)
theorem mP_run : ∀ (d : Nat) (l : List Nat), l.length ≤ d → ((∃ t, mP d l = some t) ↔ run step .top l = some .top)
 | d, [], _ => by
  cases d <;> exact ⟨fun _ => rfl, fun _ => ⟨_, rfl⟩⟩
 | 0, b :: r, h => by simp at h
 | d + 1, b :: r, h => by
  simp only [mP]
  by_cases hb : b = 123
  · rw [if_pos hb]
    subst hb
    rw [run_some step_open_brace]
    by_cases hr : r = []
    · subst hr
      constructor
      · rintro ⟨t, g⟩
        cases g
      · intro g
        cases g
    obtain ⟨o1, -⟩ := opN_run r hr
    have ol := opN_length r
    obtain ⟨x1, x2⟩ := expr_top (r.length + 1) (opN r).2 (by omega)
    rw [o1]
    cases hx : exprN (r.length + 1) (opN r).2 with
    | none =>
     constructor
     · rintro ⟨t, g⟩
       cases g
     · intro g
       rcases x2 hx with g2 | ⟨q, g2, g3⟩
       · rw [g] at g2
         cases g2
       · rw [g] at g2
         cases g2
         cases g3
    | some p =>
     obtain ⟨vs, t⟩ := p
     obtain ⟨-, p, hp, hp0, hp1⟩ := x1 _ _ hx
     have hlt : t.length ≤ d := by
      have := congrArg List.length hp
      rw [List.length_append] at this
      rw [List.length_cons] at h
      omega
     rw [hp, run_append, hp1, Option.bind_some, ← mP_run d t hlt]
     simp only
     cases hm : mP d t with
     | none =>
      constructor
      · rintro ⟨t, g⟩
        cases g
      · rintro ⟨t, g⟩
        cases g
     | some ps => exact ⟨fun _ => ⟨_, rfl⟩, fun _ => ⟨_, rfl⟩⟩
  · rw [if_neg hb]
    by_cases hz : piecesN (r.length + 2) (b :: r) = 0
    · rw [if_pos hz]
      have h0 := (pieces_zero _ _).1 hz
      obtain ⟨-, s2⟩ := stop_far h0 hb
      constructor
      · rintro ⟨t, g⟩
        cases g
      · intro g
        rcases s2 with g2 | ⟨q, g2, g3⟩
        · rw [g] at g2
          cases g2
        · rw [g] at g2
          cases g2
          cases g3
    · rw [if_neg hz]
      obtain ⟨pa, pb⟩ := pieces_top (r.length + 2) (b :: r)
      have e : run step .top (b :: r) = run step .top ((b :: r).drop (piecesN (r.length + 2) (b :: r))) := by
       conv => lhs; rw [← List.take_append_drop (piecesN (r.length + 2) (b :: r)) (b :: r)]
       rw [run_append, pb, Option.bind_some]
      have hlt : ((b :: r).drop (piecesN (r.length + 2) (b :: r))).length ≤ d := by
       rw [List.length_drop]
       rw [List.length_cons] at h ⊢
       omega
      rw [e, ← mP_run d _ hlt]
      cases hm : mP d ((b :: r).drop (piecesN (r.length + 2) (b :: r))) with
      | none =>
       constructor
       · rintro ⟨t, g⟩
         cases g
       · rintro ⟨t, g⟩
         cases g
      | some ps => exact ⟨fun _ => ⟨_, rfl⟩, fun _ => ⟨_, rfl⟩⟩
end Go.Proofs.YtkipkbggnfllkaaGreatDoor.P
end
section
namespace Go.Proofs.YtkipkbggnfllkaaGreatDoor.P
open Go.RowKit Go.Proofs.YtkipkbggnfllkaaGreatDoorW.PrintWords Go.Proofs.YtkipkbggnfllkaaGreatDoorW.PrintLast Go.Proofs.YtkipkbggnfllkaaGreatDoorW.PrintMore
set_option linter.unusedVariables false
set_option linter.unusedSimpArgs false
theorem w64 {n : Int} (h1 : -9223372036854775808 ≤ n) (h2 : n < 9223372036854775808) : wrap64 n = n := by unfold wrap64; omega
theorem Ev.pos {α : Type} {c : Prop} [Decidable c] {f g : Nat → Option α} {r : α} (h : c) (k : Ev f r) : Ev (fun n => if c then f n else g n) r := Ev.congr (fun n => if_pos h) k
theorem Ev.neg {α : Type} {c : Prop} [Decidable c] {f g : Nat → Option α} {r : α} (h : ¬ c) (k : Ev g r) : Ev (fun n => if c then f n else g n) r := Ev.congr (fun n => if_neg h) k
theorem ref_word {b : Nat} (h : b < 256) : rf02_Word.f (b : Int) = some (isWord b) := by
 have : ∀ b : Fin 256, rf02_Word.f ((b.1 : Nat) : Int) = some (isWord b.1) := by decide +kernel
 exact this ⟨b, h⟩
theorem ref_hex {b : Nat} (h : b < 256) : rf02_Hex.f (b : Int) = some (isHex b) := by
 have : ∀ b : Fin 256, rf02_Hex.f ((b.1 : Nat) : Int) = some (isHex b.1) := by decide +kernel
 exact this ⟨b, h⟩
theorem ref_lit {b : Nat} (h : b < 256) : Ev (fun k => rf02_Literal.f k (b : Int)) (isLit b) := by
 have : ∀ b : Fin 256, rf02_Literal.f 20 ((b.1 : Nat) : Int) = some (isLit b.1) := by decide +kernel
 exact Ev.of (fun k => rf02_Literal.mono _ k) (this ⟨b, h⟩)
theorem ref_op {b : Nat} (h : b < 256) : Ev (fun k => rf07_Operator.f k (b : Int)) (b == 0 || isOp b) := by
 have : ∀ b : Fin 256, rf07_Operator.f 20 ((b.1 : Nat) : Int) = some (b.1 == 0 || isOp b.1) := by decide +kernel
 exact Ev.of (fun k => rf07_Operator.mono _ k) (this ⟨b, h⟩)
theorem trip_short {l : List Nat} (h : l.length < 3) : trip l = false := by
 match l, h with
 | [], _ => rfl
 | [_], _ => rfl
 | [_, _], _ => rfl
 | _ :: _ :: _ :: _, h =>
  simp only [List.length_cons] at h
  omega
theorem ref_trip (s : ByteArray) : rf03_Triplet.f s = some (trip (bs s)) := by
 unfold rf03_Triplet.f
 by_cases h : 3 ≤ s.size
 · obtain ⟨a, a1, a2, a3⟩ := bs_get s 0 (by omega)
   obtain ⟨b, b1, b2, b3⟩ := bs_get s 1 (by omega)
   obtain ⟨c, c1, c2, c3⟩ := bs_get s 2 (by omega)
   have e : bs s = a :: b :: c :: (bs s).drop 3 := by
    rw [← c3, ← b3, ← a3]
    rfl
   rw [e]
   have a2' : bt s 0 = (a : Int) := a2
   have b2' : bt s 1 = (b : Int) := b2
   have c2' : bt s 2 = (c : Int) := c2
   rw [if_pos (by omega), if_pos (by omega), a2', b2', c2', ref_hex b1, ref_hex c1]
   simp only [trip, Option.bind_some]
   by_cases ha : a = 37
   · rw [if_pos (by omega), if_pos (by omega)]
     subst ha
     cases hb : isHex b
     · simp
     · simp
       omega
   · rw [if_neg (by omega)]
     have : (a == 37) = false := by simpa using ha
     rw [this, Bool.false_and]
 · rw [if_neg (by omega), trip_short (by rw [bs_length]; omega)]
def nameFrom (q : Q) (l : List Nat) : Bool := match run nstep q l with
 | some q' => isN q'
 | none => false
theorem nameFrom_iff (q : Q) (l : List Nat) : nameFrom q l = true ↔ run nstep q l = some .n := by
 unfold nameFrom
 cases h : run nstep q l with
 | none => simp
 | some q' =>
  simp only [isN_iff]
  exact ⟨fun h => by rw [h], fun h => Option.some.inj h⟩
theorem nameFrom_nd (l : List Nat) : nameFrom .nd l = nameFrom .ns l := by
 cases l with
 | nil => rfl
 | cons b r => rfl
theorem nameFrom_some {q q' : Q} {b : Nat} (h : nstep q b = some q') (r : List Nat) : nameFrom q (b :: r) = nameFrom q' r := by unfold nameFrom; rw [run_some h]
theorem nameFrom_none {q : Q} {b : Nat} (h : nstep q b = none) (r : List Nat) : nameFrom q (b :: r) = false := by unfold nameFrom; rw [run_none h]
theorem trip_name {q : Q} (hq : q = .n ∨ q = .ns) {b : Nat} {r : List Nat} (h : trip (b :: r) = true) : nameFrom q (b :: r) = nameFrom .n (r.drop 2) := by
 match r, h with
 | [], h => cases h
 | [_], h => cases h
 | c :: d :: r, h =>
  simp only [trip, Bool.and_eq_true, beq_iff_eq] at h
  obtain ⟨rfl, hc, hd⟩ := h
  have hw : isWord 37 = false := by decide
  have s1 : nstep q 37 = some .np1 := by rcases hq with rfl | rfl <;> simp [nstep, nsStep, hw]
  have s2 : nstep .np1 c = some .np2 := by simp only [nstep]; rw [if_pos hc]
  have s3 : nstep .np2 d = some .n := by simp only [nstep]; rw [if_pos hd]
  rw [nameFrom_some s1, nameFrom_some s2, nameFrom_some s3]
  rfl
theorem trip_none {q : Q} (hq : q = .n ∨ q = .ns) {r : List Nat} (h : trip (37 :: r) = false) : nameFrom q (37 :: r) = false := by
 have hw : isWord 37 = false := by decide
 have s1 : nstep q 37 = some .np1 := by rcases hq with rfl | rfl <;> simp [nstep, nsStep, hw]
 rw [nameFrom_some s1]
 match r, h with
 | [], _ => rfl
 | [c], _ =>
  by_cases hc : isHex c = true
  · rw [nameFrom_some (q' := .np2) (by simp only [nstep]; rw [if_pos hc])]
    rfl
  · rw [nameFrom_none (by simp only [nstep]; rw [if_neg hc])]
 | c :: d :: r, h =>
  by_cases hc : isHex c = true
  · rw [nameFrom_some (q' := .np2) (by simp only [nstep]; rw [if_pos hc])]
    rw [nameFrom_none]
    simp only [nstep]
    rw [if_neg]
    intro hd
    simp [trip, hc, hd] at h
  · rw [nameFrom_none (by simp only [nstep]; rw [if_neg hc])]
theorem bs_drop3 (s : ByteArray) {b : Nat} {r : List Nat} (h : bs s = b :: r) : bs (s.extract 3 s.size) = r.drop 2 := by
 rw [bs_from, h]
 rfl
theorem ref_may2 : ∀ (n : Nat) (s : ByteArray) (v : Bool), s.size ≤ n → Ev (fun k => rf05_May2.f k s v) (nameFrom (if v = true then .n else .ns) (bs s)) := by
 intro n
 induction n with
 | zero =>
  intro s v h
  rcases bs_cases s with ⟨-, h2, h3⟩ | ⟨b, r, -, -, -, h4, -⟩
  · refine Ev.step (f := fun _ => some v) (fun k => by simp only [rf05_May2.f]; rw [if_pos h3]) ?_
    rw [h2]
    cases v <;> exact Ev.now _
  · omega
 | succ n ih =>
  intro s v h
  rcases bs_cases s with ⟨-, h2, h3⟩ | ⟨b, r, hb, h2, h3, h4, h5, h6, h7⟩
  · refine Ev.step (f := fun _ => some v) (fun k => by simp only [rf05_May2.f]; rw [if_pos h3]) ?_
    rw [h2]
    cases v <;> exact Ev.now _
  · rw [h2]
    have hq : (if v = true then Q.n else Q.ns) = .n ∨ (if v = true then Q.n else Q.ns) = .ns := by cases v <;> simp
    have hsz : (s.extract 1 s.size).size ≤ n := by rw [bs_size_from]; omega
    by_cases hw : isWord b = true
    · refine Ev.step (f := fun k => (rf05_May2.f k (s.extract 1 s.size) true).bind fun t => some t) (fun k => ?_) ?_
      · simp only [rf05_May2.f]
        rw [if_neg h6, if_pos (by omega), h3, ref_word hb, hw]
        simp only [Option.bind_some, if_true]
        rw [if_pos (by omega)]
      · have := ih (s.extract 1 s.size) true hsz
        rw [h5] at this
        rw [nameFrom_some (q' := .n)]
        · exact this.bind (Ev.now _)
        · cases v <;> simp [nstep, nsStep, hw]
    by_cases ht : trip (b :: r) = true
    · refine Ev.step (f := fun k => (rf05_May2.f k (s.extract 3 s.size) true).bind fun t => some t) (fun k => ?_) ?_
      · simp only [rf05_May2.f]
        have : 3 ≤ s.size := by
         refine Classical.byContradiction fun g => ?_
         rw [trip_short (by rw [List.length_cons]; omega)] at ht
         cases ht
        have hw' : isWord b = false := by simpa using hw
        rw [if_neg h6, if_pos (by omega), h3, ref_word hb, ref_trip, h2, ht, hw']
        simp only [Option.bind_some, if_true, Bool.false_eq_true, if_false]
        rw [if_pos (by omega)]
      · have := ih (s.extract 3 s.size) true (by rw [bs_size_from]; omega)
        rw [bs_drop3 s h2] at this
        rw [trip_name hq ht]
        exact this.bind (Ev.now _)
    have ht' : trip (b :: r) = false := by simpa using ht
    have hw' : isWord b = false := by simpa using hw
    by_cases hd : b = 46
    · cases v with
      | false =>
       refine Ev.step (f := fun k => some false) (fun k => ?_) ?_
       · simp only [rf05_May2.f]
         rw [if_neg h6, if_pos (by omega), h3, ref_word hb, ref_trip, h2, ht', hw']
         simp only [Option.bind_some]
         rw [if_neg (by simp), if_neg (by simp), if_pos (by omega), if_neg (by simp)]
       · rw [nameFrom_none]
         · exact Ev.now _
         · subst hd
           simp [nstep, nsStep, hw']
      | true =>
       refine Ev.step (f := fun k => (rf05_May2.f k (s.extract 1 s.size) false).bind fun t => some t) (fun k => ?_) ?_
       · simp only [rf05_May2.f]
         rw [if_neg h6, if_pos (by omega), h3, ref_word hb, ref_trip, h2, ht', hw']
         simp only [Option.bind_some]
         rw [if_neg (by simp), if_neg (by simp), if_pos (by omega), if_pos trivial, if_pos (by omega)]
       · have := ih (s.extract 1 s.size) false hsz
         rw [h5] at this
         rw [nameFrom_some (q' := .nd), nameFrom_nd]
         · exact this.bind (Ev.now _)
         · subst hd
           simp [nstep, hw']
    · refine Ev.step (f := fun k => some false) (fun k => ?_) ?_
      · simp only [rf05_May2.f]
        rw [if_neg h6, if_pos (by omega), h3, ref_word hb, ref_trip, h2, ht', hw']
        simp only [Option.bind_some]
        rw [if_neg (by simp), if_neg (by simp), if_neg (by omega)]
      · by_cases h37 : b = 37
        · subst h37
          rw [trip_none hq ht']
          exact Ev.now _
        · rw [nameFrom_none]
          · exact Ev.now _
          · cases v <;> simp [nstep, nsStep, hw', h37, hd]
theorem ref_may (s : ByteArray) : Ev (fun k => rf05_May.f k s) (nameFrom .ns (bs s)) :=
 (ref_may2 s.size s false (Nat.le_refl _)).bind (Ev.now _)
theorem ref_end_from (s : ByteArray) (hs : s.size ≤ 1099511627776) : ∀ (n : Nat), n ≤ s.size → (∀ m, n < m → m ≤ s.size → run nstep .ns ((bs s).take m) ≠ some .n) →
 Ev (fun k => rf05_End.l0 k s (n : Int)) (nameEnd (bs s) : Int)
 | 0, _, hm => by
  refine Ev.step (f := fun _ => some 0) (fun k => by simp only [rf05_End.l0]; rw [if_neg (by omega)]) ?_
  have : nameEnd (bs s) = 0 := by
   refine Classical.byContradiction fun h => ?_
   have h1 := nameEnd_le (bs s)
   rw [bs_length] at h1
   exact hm _ (by omega) h1 (nameEnd_is _ h)
  rw [this]
  exact Ev.now _
 | n + 1, hn, hm => by
  have hu : bs (s.extract 0 (n + 1)) = (bs s).take (n + 1) := bs_upto s (n + 1)
  have hmay := ref_may (s.extract 0 (n + 1))
  rw [hu] at hmay
  refine Ev.step (f := fun k => (rf05_May.f k (s.extract 0 (n + 1))).bind fun t => if t = true then some ((n + 1 : Nat) : Int) else rf05_End.l0 k s (n : Int)) (fun k => ?_) ?_
  · simp only [rf05_End.l0]
    rw [if_pos (by omega), if_pos (by omega), if_pos (by omega), w64 (by omega) (by omega), show (((n + 1 : Nat) : Int) - 1) = (n : Int) by omega]
    rfl
  · refine hmay.bind ?_
    cases h : nameFrom .ns ((bs s).take (n + 1)) with
    | true =>
     have he := nameEnd_eq (l := bs s) (m := n + 1) (by rw [bs_length]; exact hn) ((nameFrom_iff _ _).1 h) fun k h1 h2 => hm k h1 (by rw [bs_length] at h2; exact h2)
     rw [he]
     simp only [if_true]
     exact Ev.now _
    | false =>
     simp only [Bool.false_eq_true, if_false]
     refine ref_end_from s hs n (by omega) fun m h1 h2 => ?_
     by_cases e : m = n + 1
     · subst e
       intro g
       rw [(nameFrom_iff _ _).2 g] at h
       cases h
     · exact hm m (by omega) h2
theorem ref_end (s : ByteArray) (hs : s.size ≤ 1099511627776) : Ev (fun k => rf05_End.f k s) (nameEnd (bs s) : Int) :=
 ref_end_from s hs s.size (Nat.le_refl _) fun m h1 h2 => by omega
end Go.Proofs.YtkipkbggnfllkaaGreatDoor.P
end
section
namespace Go.Proofs.YtkipkbggnfllkaaGreatDoor.P
set_option linter.unusedVariables false
set_option linter.unusedSimpArgs false
def MayR (c : Nat) : Prop := c ≤ 1114111 ∧ (c < 55296 ∨ 57343 < c)
instance (c : Nat) : Decidable (MayR c) := by unfold MayR; exact inferInstance
theorem mayC_mayR {c : Nat} (h : MayC c) : MayR c := by
 unfold MayC at h
 unfold MayR
 omega
def uAt : List Nat → Nat × Nat
 | [] => (0, 0)
 | b0 :: r =>
  if b0 < 128 then (b0, 1) else match r with
  | [] => (0, 0)
  | b1 :: r =>
   if b0 / 32 = 6 then (if b1 / 64 = 2 ∧ 128 ≤ b0 % 32 * 64 + b1 % 64 then (b0 % 32 * 64 + b1 % 64, 2) else (0, 0))
   else match r with
   | [] => (0, 0)
   | b2 :: r =>
    if b0 / 16 = 14 then (if b1 / 64 = 2 ∧ b2 / 64 = 2 ∧ 2048 ≤ b0 % 16 * 4096 + b1 % 64 * 64 + b2 % 64 ∧ MayR (b0 % 16 * 4096 + b1 % 64 * 64 + b2 % 64) then (b0 % 16 * 4096 + b1 % 64 * 64 + b2 % 64, 3) else (0, 0))
    else match r with
    | [] => (0, 0)
    | b3 :: _ =>
     if b0 / 8 = 30 then (if b1 / 64 = 2 ∧ b2 / 64 = 2 ∧ b3 / 64 = 2 ∧ 65536 ≤ b0 % 8 * 262144 + b1 % 64 * 4096 + b2 % 64 * 64 + b3 % 64 ∧ MayR (b0 % 8 * 262144 + b1 % 64 * 4096 + b2 % 64 * 64 + b3 % 64) then (b0 % 8 * 262144 + b1 % 64 * 4096 + b2 % 64 * 64 + b3 % 64, 4) else (0, 0))
     else (0, 0)
theorem uo {c n : Nat} (hn : n ≠ 0) : (if ((c, n) : Nat × Nat).2 = 0 then 0 else if MayC ((c, n) : Nat × Nat).1 then ((c, n) : Nat × Nat).2 else 0) = if MayC c then n else 0 := if_neg hn
theorem uo0 : (if ((0, 0) : Nat × Nat).2 = 0 then 0 else if MayC ((0, 0) : Nat × Nat).1 then ((0, 0) : Nat × Nat).2 else 0) = 0 := rfl
theorem ucs_uAt (l : List Nat) (hl : ∀ b ∈ l, b < 256) : ucsAt l = if (uAt l).2 = 0 then 0 else if MayC (uAt l).1 then (uAt l).2 else 0 := by
 match l, hl with
 | [], _ => rfl
 | [b0], _ =>
  simp only [uAt, ucsAt]
  by_cases h : b0 < 128
  · rw [if_pos h, uo (by decide), if_neg]
    unfold MayC
    omega
  · rw [if_neg h, uo0]
 | b0 :: b1 :: r, _ =>
  by_cases h : b0 < 128
  · rw [ucsAt_low _ _ (by omega)]
    simp only [uAt]
    rw [if_pos h, uo (by decide), if_neg]
    unfold MayC
    omega
  by_cases h2 : b0 / 32 = 6
  · simp only [uAt, ucsAt]
    rw [if_neg h, if_pos h2, if_pos h2]
    by_cases hg : b1 / 64 = 2 ∧ 128 ≤ b0 % 32 * 64 + b1 % 64
    · rw [if_pos hg, uo (by decide)]
      by_cases hm : MayC (b0 % 32 * 64 + b1 % 64)
      · rw [if_pos hm, if_pos ⟨hg.1, hg.2, hm⟩]
      · rw [if_neg hm, if_neg fun g => hm g.2.2]
    · rw [if_neg hg, uo0, if_neg fun g => hg ⟨g.1, g.2.1⟩]
  match r with
  | [] =>
   simp only [uAt, ucsAt]
   rw [if_neg h, if_neg h2, if_neg h2, uo0]
  | b2 :: r =>
   by_cases h3 : b0 / 16 = 14
   · simp only [uAt, ucsAt]
     rw [if_neg h, if_neg h2, if_neg h2, if_pos h3, if_pos h3]
     by_cases hg : b1 / 64 = 2 ∧ b2 / 64 = 2 ∧ 2048 ≤ b0 % 16 * 4096 + b1 % 64 * 64 + b2 % 64 ∧ MayR (b0 % 16 * 4096 + b1 % 64 * 64 + b2 % 64)
     · rw [if_pos hg, uo (by decide)]
       by_cases hm : MayC (b0 % 16 * 4096 + b1 % 64 * 64 + b2 % 64)
       · rw [if_pos hm, if_pos ⟨hg.1, hg.2.1, hg.2.2.1, hm⟩]
       · rw [if_neg hm, if_neg fun g => hm g.2.2.2]
     · rw [if_neg hg, uo0, if_neg fun g => hg ⟨g.1, g.2.1, g.2.2.1, mayC_mayR g.2.2.2⟩]
   match r with
   | [] =>
    simp only [uAt, ucsAt]
    rw [if_neg h, if_neg h2, if_neg h2, if_neg h3, if_neg h3, uo0]
   | b3 :: r =>
    by_cases h4 : b0 / 8 = 30
    · simp only [uAt, ucsAt]
      rw [if_neg h, if_neg h2, if_neg h2, if_neg h3, if_neg h3, if_pos h4, if_pos h4]
      by_cases hg : b1 / 64 = 2 ∧ b2 / 64 = 2 ∧ b3 / 64 = 2 ∧ 65536 ≤ b0 % 8 * 262144 + b1 % 64 * 4096 + b2 % 64 * 64 + b3 % 64 ∧ MayR (b0 % 8 * 262144 + b1 % 64 * 4096 + b2 % 64 * 64 + b3 % 64)
      · rw [if_pos hg, uo (by decide)]
        by_cases hm : MayC (b0 % 8 * 262144 + b1 % 64 * 4096 + b2 % 64 * 64 + b3 % 64)
        · rw [if_pos hm, if_pos ⟨hg.1, hg.2.1, hg.2.2.1, hg.2.2.2.1, hm⟩]
        · rw [if_neg hm, if_neg fun g => hm g.2.2.2.2]
      · rw [if_neg hg, uo0, if_neg fun g => hg ⟨g.1, g.2.1, g.2.2.1, g.2.2.2.1, mayC_mayR g.2.2.2.2⟩]
    · simp only [uAt, ucsAt]
      rw [if_neg h, if_neg h2, if_neg h2, if_neg h3, if_neg h3, if_neg h4, if_neg h4, uo0]
def width (b0 : Nat) : Nat := if b0 < 128 then 1 else if b0 / 32 = 6 then 2 else if b0 / 16 = 14 then 3 else if b0 / 8 = 30 then 4 else 5
theorem uAt_width (b0 : Nat) (r : List Nat) : (uAt (b0 :: r)).2 = 0 ∨ ((uAt (b0 :: r)).2 = width b0 ∧ width b0 ≤ r.length + 1 ∧ width b0 ≤ 4 ∧ ∀ m, width b0 ≤ m → uAt ((b0 :: r).take m) = uAt (b0 :: r)) := by
 by_cases h : b0 < 128
 · have e : width b0 = 1 := by unfold width; rw [if_pos h]
   refine .inr ⟨?_, by omega, by omega, fun m hm => ?_⟩
   · simp only [uAt]
     rw [if_pos h, e]
   · obtain ⟨m, rfl⟩ : ∃ k, m = k + 1 := ⟨m - 1, by omega⟩
     rw [List.take_succ_cons]
     simp only [uAt]
     rw [if_pos h, if_pos h]
 match r with
 | [] =>
  left
  simp only [uAt]
  rw [if_neg h]
 | b1 :: r =>
  by_cases h2 : b0 / 32 = 6
  · have e : width b0 = 2 := by unfold width; rw [if_neg h, if_pos h2]
    by_cases hg : b1 / 64 = 2 ∧ 128 ≤ b0 % 32 * 64 + b1 % 64
    · refine .inr ⟨?_, by rw [e]; simp, by omega, fun m hm => ?_⟩
      · simp only [uAt]
        rw [if_neg h, if_pos h2, if_pos hg, e]
      · obtain ⟨m, rfl⟩ : ∃ k, m = k + 2 := ⟨m - 2, by omega⟩
        rw [List.take_succ_cons, List.take_succ_cons]
        simp only [uAt]
        rw [if_neg h, if_pos h2, if_neg h, if_pos h2]
    · left
      simp only [uAt]
      rw [if_neg h, if_pos h2, if_neg hg]
  match r with
  | [] =>
   left
   simp only [uAt]
   rw [if_neg h, if_neg h2]
  | b2 :: r =>
   by_cases h3 : b0 / 16 = 14
   · have e : width b0 = 3 := by unfold width; rw [if_neg h, if_neg h2, if_pos h3]
     by_cases hg : b1 / 64 = 2 ∧ b2 / 64 = 2 ∧ 2048 ≤ b0 % 16 * 4096 + b1 % 64 * 64 + b2 % 64 ∧ MayR (b0 % 16 * 4096 + b1 % 64 * 64 + b2 % 64)
     · refine .inr ⟨?_, by rw [e]; simp, by omega, fun m hm => ?_⟩
       · simp only [uAt]
         rw [if_neg h, if_neg h2, if_pos h3, if_pos hg, e]
       · obtain ⟨m, rfl⟩ : ∃ k, m = k + 3 := ⟨m - 3, by omega⟩
         rw [List.take_succ_cons, List.take_succ_cons, List.take_succ_cons]
         simp only [uAt]
         rw [if_neg h, if_neg h2, if_pos h3, if_neg h, if_neg h2, if_pos h3]
     · left
       simp only [uAt]
       rw [if_neg h, if_neg h2, if_pos h3, if_neg hg]
   match r with
   | [] =>
    left
    simp only [uAt]
    rw [if_neg h, if_neg h2, if_neg h3]
   | b3 :: r =>
    by_cases h4 : b0 / 8 = 30
    · have e : width b0 = 4 := by unfold width; rw [if_neg h, if_neg h2, if_neg h3, if_pos h4]
      by_cases hg : b1 / 64 = 2 ∧ b2 / 64 = 2 ∧ b3 / 64 = 2 ∧ 65536 ≤ b0 % 8 * 262144 + b1 % 64 * 4096 + b2 % 64 * 64 + b3 % 64 ∧ MayR (b0 % 8 * 262144 + b1 % 64 * 4096 + b2 % 64 * 64 + b3 % 64)
      · refine .inr ⟨?_, by rw [e]; simp, by omega, fun m hm => ?_⟩
        · simp only [uAt]
          rw [if_neg h, if_neg h2, if_neg h3, if_pos h4, if_pos hg, e]
        · obtain ⟨m, rfl⟩ : ∃ k, m = k + 4 := ⟨m - 4, by omega⟩
          rw [List.take_succ_cons, List.take_succ_cons, List.take_succ_cons, List.take_succ_cons]
          simp only [uAt]
      · left
        simp only [uAt]
        rw [if_neg h, if_neg h2, if_neg h3, if_pos h4, if_neg hg]
    · left
      simp only [uAt]
      rw [if_neg h, if_neg h2, if_neg h3, if_neg h4]
def filledL (c : Nat) : Nat → List Nat → Nat × Bool
 | 0, _ => (0, false)
 | d + 1, l => if l.length ≤ 4 then (if (uAt l).2 = l.length ∧ l ≠ [] then ((uAt l).1, true) else filledL c d (l ++ [c])) else (0, false)
theorem filledL_long (c : Nat) : ∀ (d : Nat) (b0 : Nat) (r : List Nat), width b0 < r.length + 1 → filledL c d (b0 :: r) = (0, false)
 | 0, _, _, _ => rfl
 | d + 1, b0, r, h => by
  simp only [filledL]
  split
  · rw [if_neg, List.cons_append, filledL_long c d b0 (r ++ [c]) (by rw [List.length_append]; omega)]
    rintro ⟨g, -⟩
    rw [List.length_cons] at g
    rcases uAt_width b0 r with k | ⟨k, -⟩
    · omega
    · omega
  · rfl
theorem filledL_at (c : Nat) : ∀ (d n : Nat) (b0 : Nat) (r : List Nat), n + (r.length + 1) = width b0 → n + 1 < d ∨ width b0 = 5 → width b0 ≤ 5 →
 filledL c d (b0 :: r) = if (uAt (b0 :: r ++ List.replicate n c)).2 = width b0 ∧ width b0 ≤ 4 then ((uAt (b0 :: r ++ List.replicate n c)).1, true) else (0, false)
 | 0, n, b0, r, h, hd, hw => by
  rw [if_neg]
  · rfl
  · rintro ⟨-, g⟩
    omega
 | d + 1, 0, b0, r, h, hd, hw => by
  simp only [filledL, List.replicate_zero, List.append_nil]
  by_cases h4 : width b0 ≤ 4
  · rw [if_pos (by rw [List.length_cons]; omega)]
    by_cases g : (uAt (b0 :: r)).2 = width b0
    · rw [if_pos ⟨by rw [g, List.length_cons]; omega, by simp⟩, if_pos ⟨g, h4⟩]
    · rw [if_neg (by rw [List.length_cons]; rintro ⟨k, -⟩; omega), if_neg fun k => g k.1, List.cons_append]
      exact filledL_long c d b0 (r ++ [c]) (by rw [List.length_append, List.length_singleton]; omega)
  · rw [if_neg (by rw [List.length_cons]; omega), if_neg fun k => h4 k.2]
 | d + 1, n + 1, b0, r, h, hd, hw => by
  simp only [filledL]
  rw [if_pos (by rw [List.length_cons]; omega), if_neg, List.cons_append, filledL_at c d n b0 (r ++ [c]) (by rw [List.length_append, List.length_singleton]; omega) (by omega) hw]
  · rw [List.cons_append, List.cons_append, List.append_assoc, List.singleton_append, ← List.replicate_succ]
  · rintro ⟨g, -⟩
    rw [List.length_cons] at g
    rcases uAt_width b0 r with k | ⟨k, k2, -⟩
    · omega
    · omega
def endsL (l : List Nat) : Nat × Nat × Bool :=
 let low := if l = [224] then filledL 128 6 [224, 160] else if l = [240] then filledL 128 6 [240, 144] else filledL 128 6 l
 let high := if l = [237] then filledL 191 6 [237, 159] else if l = [244] then filledL 191 6 [244, 143] else filledL 191 6 l
 (low.1, high.1, low.2 && high.2)
theorem mt_le {lo hi : Nat} (h : lo ≤ hi) : meetsFrom lo hi 19 0 = mt lo hi := by
 unfold mt
 rw [decide_eq_true h, Bool.true_and]
theorem mt_void {lo hi : Nat} (h : ∀ c, lo ≤ c → c ≤ hi → ¬ MayC c) : mt lo hi = false := by
 rw [Bool.eq_false_iff]
 intro g
 obtain ⟨c, h1, h2, h3⟩ := (mt_iff _ _).1 g
 exact h c h1 h2 h3
theorem mt_eq {lo hi lo' hi' : Nat} (h : ∀ c, MayC c → (lo ≤ c ∧ c ≤ hi ↔ lo' ≤ c ∧ c ≤ hi')) : mt lo hi = mt lo' hi' := by
 rw [Bool.eq_iff_iff, mt_iff, mt_iff]
 constructor
 · rintro ⟨c, h1, h2, h3⟩
   exact ⟨c, ((h c h3).1 ⟨h1, h2⟩).1, ((h c h3).1 ⟨h1, h2⟩).2, h3⟩
 · rintro ⟨c, h1, h2, h3⟩
   exact ⟨c, ((h c h3).2 ⟨h1, h2⟩).1, ((h c h3).2 ⟨h1, h2⟩).2, h3⟩
theorem fill2 (b0 : Nat) (r : List Nat) (c : Nat) (n : Nat) (hn : n + (r.length + 1) = width b0) (h4 : width b0 ≤ 4) (p : Nat × Nat) (hp : uAt (b0 :: r ++ List.replicate n c) = p) :
 filledL c 6 (b0 :: r) = if p.2 = width b0 then (p.1, true) else (0, false) := by
 rw [filledL_at c 6 n b0 r hn (by omega) (by omega), hp]
 by_cases g : p.2 = width b0
 · rw [if_pos g, if_pos ⟨g, h4⟩]
 · rw [if_neg g, if_neg fun k => g k.1]
def u2 (b0 b1 : Nat) : Nat := b0 % 32 * 64 + b1 % 64
def u3 (b0 b1 b2 : Nat) : Nat := b0 % 16 * 4096 + b1 % 64 * 64 + b2 % 64
def u4 (b0 b1 b2 b3 : Nat) : Nat := b0 % 8 * 262144 + b1 % 64 * 4096 + b2 % 64 * 64 + b3 % 64
theorem width2 {b0 : Nat} (h : b0 / 32 = 6) : width b0 = 2 := by unfold width; rw [if_neg (by omega), if_pos h]
theorem width3 {b0 : Nat} (h : b0 / 16 = 14) : width b0 = 3 := by unfold width; rw [if_neg (by omega), if_neg (by omega), if_pos h]
theorem width4 {b0 : Nat} (h : b0 / 8 = 30) : width b0 = 4 := by unfold width; rw [if_neg (by omega), if_neg (by omega), if_neg (by omega), if_pos h]
theorem uAt2 {b0 : Nat} (h : b0 / 32 = 6) (b1 : Nat) (r : List Nat) : uAt (b0 :: b1 :: r) = if b1 / 64 = 2 ∧ 128 ≤ u2 b0 b1 then (u2 b0 b1, 2) else (0, 0) := by
 simp only [uAt]
 rw [if_neg (by omega), if_pos h]
 rfl
theorem uAt3 {b0 : Nat} (h : b0 / 16 = 14) (b1 b2 : Nat) (r : List Nat) : uAt (b0 :: b1 :: b2 :: r) = if b1 / 64 = 2 ∧ b2 / 64 = 2 ∧ 2048 ≤ u3 b0 b1 b2 ∧ MayR (u3 b0 b1 b2) then (u3 b0 b1 b2, 3) else (0, 0) := by
 simp only [uAt]
 rw [if_neg (by omega), if_neg (by omega), if_pos h]
 rfl
theorem uAt4 {b0 : Nat} (h : b0 / 8 = 30) (b1 b2 b3 : Nat) (r : List Nat) : uAt (b0 :: b1 :: b2 :: b3 :: r) = if b1 / 64 = 2 ∧ b2 / 64 = 2 ∧ b3 / 64 = 2 ∧ 65536 ≤ u4 b0 b1 b2 b3 ∧ MayR (u4 b0 b1 b2 b3) then (u4 b0 b1 b2 b3, 4) else (0, 0) := by
 simp only [uAt]
 rw [if_neg (by omega), if_neg (by omega), if_neg (by omega), if_pos h]
 rfl
theorem filled2 {b0 : Nat} (h : b0 / 32 = 6) (c b1 : Nat) : (filledL c 6 [b0] = if c / 64 = 2 ∧ 128 ≤ u2 b0 c then (u2 b0 c, true) else (0, false)) ∧
 (filledL c 6 [b0, b1] = if b1 / 64 = 2 ∧ 128 ≤ u2 b0 b1 then (u2 b0 b1, true) else (0, false)) := by
 have hw := width2 h
 constructor
 · rw [fill2 b0 [] c 1 (by rw [hw]; rfl) (by omega) _ (uAt2 h c []), hw]
   split <;> rfl
 · rw [fill2 b0 [b1] c 0 (by rw [hw]; rfl) (by omega) _ (uAt2 h b1 []), hw]
   split <;> rfl
theorem filled3 {b0 : Nat} (h : b0 / 16 = 14) (c b1 b2 : Nat) : (filledL c 6 [b0] = if c / 64 = 2 ∧ c / 64 = 2 ∧ 2048 ≤ u3 b0 c c ∧ MayR (u3 b0 c c) then (u3 b0 c c, true) else (0, false)) ∧
 (filledL c 6 [b0, b1] = if b1 / 64 = 2 ∧ c / 64 = 2 ∧ 2048 ≤ u3 b0 b1 c ∧ MayR (u3 b0 b1 c) then (u3 b0 b1 c, true) else (0, false)) ∧
 (filledL c 6 [b0, b1, b2] = if b1 / 64 = 2 ∧ b2 / 64 = 2 ∧ 2048 ≤ u3 b0 b1 b2 ∧ MayR (u3 b0 b1 b2) then (u3 b0 b1 b2, true) else (0, false)) := by
 have hw := width3 h
 refine ⟨?_, ?_, ?_⟩
 · rw [fill2 b0 [] c 2 (by rw [hw]; rfl) (by omega) _ (uAt3 h c c []), hw]
   split <;> rfl
 · rw [fill2 b0 [b1] c 1 (by rw [hw]; rfl) (by omega) _ (uAt3 h b1 c []), hw]
   split <;> rfl
 · rw [fill2 b0 [b1, b2] c 0 (by rw [hw]; rfl) (by omega) _ (uAt3 h b1 b2 []), hw]
   split <;> rfl
theorem filled4 {b0 : Nat} (h : b0 / 8 = 30) (c b1 b2 b3 : Nat) : (filledL c 6 [b0] = if c / 64 = 2 ∧ c / 64 = 2 ∧ c / 64 = 2 ∧ 65536 ≤ u4 b0 c c c ∧ MayR (u4 b0 c c c) then (u4 b0 c c c, true) else (0, false)) ∧
 (filledL c 6 [b0, b1] = if b1 / 64 = 2 ∧ c / 64 = 2 ∧ c / 64 = 2 ∧ 65536 ≤ u4 b0 b1 c c ∧ MayR (u4 b0 b1 c c) then (u4 b0 b1 c c, true) else (0, false)) ∧
 (filledL c 6 [b0, b1, b2] = if b1 / 64 = 2 ∧ b2 / 64 = 2 ∧ c / 64 = 2 ∧ 65536 ≤ u4 b0 b1 b2 c ∧ MayR (u4 b0 b1 b2 c) then (u4 b0 b1 b2 c, true) else (0, false)) ∧
 (filledL c 6 [b0, b1, b2, b3] = if b1 / 64 = 2 ∧ b2 / 64 = 2 ∧ b3 / 64 = 2 ∧ 65536 ≤ u4 b0 b1 b2 b3 ∧ MayR (u4 b0 b1 b2 b3) then (u4 b0 b1 b2 b3, true) else (0, false)) := by
 have hw := width4 h
 refine ⟨?_, ?_, ?_, ?_⟩
 · rw [fill2 b0 [] c 3 (by rw [hw]; rfl) (by omega) _ (uAt4 h c c c []), hw]
   split <;> rfl
 · rw [fill2 b0 [b1] c 2 (by rw [hw]; rfl) (by omega) _ (uAt4 h b1 c c []), hw]
   split <;> rfl
 · rw [fill2 b0 [b1, b2] c 1 (by rw [hw]; rfl) (by omega) _ (uAt4 h b1 b2 c []), hw]
   split <;> rfl
 · rw [fill2 b0 [b1, b2, b3] c 0 (by rw [hw]; rfl) (by omega) _ (uAt4 h b1 b2 b3 []), hw]
   split <;> rfl
def fitsL (l : List Nat) : Bool := match l with
 | [] => false
 | b0 :: _ => !decide (b0 < 192) && ((endsL l).2.2 && meetsFrom ((endsL l).1 : Int) ((endsL l).2.1 : Int) 19 0)
theorem fits_pair {A B : Prop} [Decidable A] [Decidable B] {x y lo hi : Nat} {l : List Nat} (hl : l ≠ [224]) (hl2 : l ≠ [240]) (hh : l ≠ [237]) (hh2 : l ≠ [244]) (h1 : filledL 128 6 l = if A then (x, true) else (0, false)) (h2 : filledL 191 6 l = if B then (y, true) else (0, false))
 (hxy : A → B → x ≤ y) (hAB : A → B → ∀ c, MayC c → (x ≤ c ∧ c ≤ y ↔ lo ≤ c ∧ c ≤ hi)) (hn : ¬ (A ∧ B) → ∀ c, lo ≤ c → c ≤ hi → ¬ MayC c) :
 ((endsL l).2.2 && meetsFrom ((endsL l).1 : Int) ((endsL l).2.1 : Int) 19 0) = mt lo hi := by
 unfold endsL
 rw [if_neg hl, if_neg hl2, if_neg hh, if_neg hh2, h1, h2]
 by_cases hA : A
 · rw [if_pos hA]
   by_cases hB : B
   · rw [if_pos hB]
     simp only [Bool.and_self, Bool.true_and]
     rw [mt_le (hxy hA hB)]
     exact mt_eq (hAB hA hB)
   · rw [if_neg hB]
     simp only [Bool.and_false, Bool.false_and]
     rw [mt_void (hn fun g => hB g.2)]
 · rw [if_neg hA]
   simp only [Bool.false_and]
   rw [mt_void (hn fun g => hA g.1)]
theorem fits_no {l : List Nat} (hl : l ≠ [224]) (hl2 : l ≠ [240]) (h1 : filledL 128 6 l = (0, false)) : ((endsL l).2.2 && meetsFrom ((endsL l).1 : Int) ((endsL l).2.1 : Int) 19 0) = false := by
 unfold endsL
 rw [if_neg hl, if_neg hl2, h1]
 simp only [Bool.false_and]
theorem fitsL_fits (l : List Nat) (hb : ∀ b ∈ l, b < 256) : fitsL l = fits l := by
 match l, hb with
 | [], _ => rfl
 | b0 :: r, hb =>
  have h0 := hb b0 (by simp)
  by_cases h192 : b0 < 192
  · rw [fits_low b0 r h192]
    simp only [fitsL, h192, decide_true, Bool.not_true, Bool.false_and]
  have hd : fitsL (b0 :: r) = ((endsL (b0 :: r)).2.2 && meetsFrom ((endsL (b0 :: r)).1 : Int) ((endsL (b0 :: r)).2.1 : Int) 19 0) := by
   simp only [fitsL, h192, decide_false, Bool.not_false, Bool.true_and]
  rw [hd]
  by_cases h2 : b0 / 32 = 6
  · have n1 : ∀ x, 224 ≤ x → b0 :: r ≠ [x] := fun x hx g => by have := (List.cons.inj g).1; omega
    match r, hb with
    | [], _ =>
     simp only [fits]
     rw [if_pos h2]
     refine fits_pair (n1 _ (by omega)) (n1 _ (by omega)) (n1 _ (by omega)) (n1 _ (by omega)) (filled2 h2 128 0).1 (filled2 h2 191 0).1 ?_ ?_ ?_
     all_goals unfold u2
     · intro hA hB
       omega
     · intro hA hB c hc
       omega
     · intro hAB c g1 g2
       omega
    | [b1], hb =>
     have hb1 := hb b1 (by simp)
     by_cases hc1 : b1 / 64 = 2
     · simp only [fits]
       rw [if_pos hc1, if_pos h2]
       refine fits_pair (by simp) (by simp) (by simp) (by simp) (filled2 h2 128 b1).2 (filled2 h2 191 b1).2 ?_ ?_ ?_
       all_goals unfold u2
       · intro hA hB
         omega
       · intro hA hB c hc
         omega
       · intro hAB c g1 g2
         omega
     · have : fits [b0, b1] = false := by simp only [fits]; rw [if_neg hc1]
       rw [this]
       exact fits_no (by simp) (by simp) (by rw [(filled2 h2 128 b1).2, if_neg fun g => hc1 g.1])
    | b1 :: b2 :: r, hb =>
     have hw := width2 h2
     rw [fits_no (by simp) (by simp) (filledL_long 128 6 b0 (b1 :: b2 :: r) (by rw [hw]; simp))]
     match r with
     | [] =>
      simp only [fits]
      split
      · rw [if_neg (by omega), if_neg (by omega)]
      · rfl
     | [b3] =>
      simp only [fits]
      split
      · rw [if_neg (by omega)]
      · rfl
     | _ :: _ :: _ => rfl
  by_cases h3 : b0 / 16 = 14
  · match r, hb with
    | [], _ =>
     simp only [fits]
     rw [if_neg h2, if_pos h3]
     by_cases e1 : b0 = 224
     · subst e1
       decide +kernel
     by_cases e2 : b0 = 237
     · subst e2
       rw [show ((endsL [237]).2.2 && meetsFrom ((endsL [237]).1 : Int) ((endsL [237]).2.1 : Int) 19 0) = mt 53248 55295 by decide +kernel]
       refine mt_eq fun c hc => ?_
       unfold MayC at hc
       omega
     refine fits_pair (by simp; omega) (by simp; omega) (by simp; omega) (by simp; omega) (filled3 h3 128 0 0).1 (filled3 h3 191 0 0).1 ?_ ?_ ?_
     all_goals unfold u3 MayR
     · intro hA hB
       omega
     · intro hA hB c hc
       omega
     · intro hAB c g1 g2
       omega
    | [b1], hb =>
     have hb1 := hb b1 (by simp)
     by_cases hc1 : b1 / 64 = 2
     · simp only [fits]
       rw [if_pos hc1, if_neg h2, if_pos h3]
       refine fits_pair (by simp) (by simp) (by simp) (by simp) (filled3 h3 128 b1 0).2.1 (filled3 h3 191 b1 0).2.1 ?_ ?_ ?_
       all_goals unfold u3 MayR
       · intro hA hB
         omega
       · intro hA hB c hc
         omega
       · intro hAB c g1 g2 hc
         unfold MayC at hc
         omega
     · have : fits [b0, b1] = false := by simp only [fits]; rw [if_neg hc1]
       rw [this]
       exact fits_no (by simp) (by simp) (by rw [(filled3 h3 128 b1 0).2.1, if_neg fun g => hc1 g.1])
    | [b1, b2], hb =>
     by_cases hc1 : b1 / 64 = 2 ∧ b2 / 64 = 2
     · simp only [fits]
       rw [if_pos hc1, if_pos h3]
       refine fits_pair (by simp) (by simp) (by simp) (by simp) (filled3 h3 128 b1 b2).2.2 (filled3 h3 191 b1 b2).2.2 ?_ ?_ ?_
       all_goals unfold u3 MayR
       · intro hA hB
         omega
       · intro hA hB c hc
         omega
       · intro hAB c g1 g2 hc
         unfold MayC at hc
         omega
     · have : fits [b0, b1, b2] = false := by simp only [fits]; rw [if_neg hc1]
       rw [this]
       exact fits_no (by simp) (by simp) (by rw [(filled3 h3 128 b1 b2).2.2, if_neg fun g => hc1 ⟨g.1, g.2.1⟩])
    | b1 :: b2 :: b3 :: r, hb =>
     have hw := width3 h3
     rw [fits_no (by simp) (by simp) (filledL_long 128 6 b0 (b1 :: b2 :: b3 :: r) (by rw [hw]; simp))]
     match r with
     | [] =>
      simp only [fits]
      split
      · rw [if_neg (by omega)]
      · rfl
     | _ :: _ => rfl
  by_cases h4 : b0 / 8 = 30
  · match r, hb with
    | [], _ =>
     simp only [fits]
     rw [if_neg h2, if_neg h3, if_pos h4]
     by_cases e1 : b0 = 240
     · subst e1
       decide +kernel
     by_cases e2 : b0 = 244
     · subst e2
       rw [show ((endsL [244]).2.2 && meetsFrom ((endsL [244]).1 : Int) ((endsL [244]).2.1 : Int) 19 0) = mt 1048576 1114111 by decide +kernel]
       refine mt_eq fun c hc => ?_
       unfold MayC at hc
       omega
     refine fits_pair (by simp; omega) (by simp; omega) (by simp; omega) (by simp; omega) (filled4 h4 128 0 0 0).1 (filled4 h4 191 0 0 0).1 ?_ ?_ ?_
     all_goals unfold u4 MayR
     · intro hA hB
       omega
     · intro hA hB c hc
       omega
     · intro hAB c g1 g2 hc
       unfold MayC at hc
       omega
    | [b1], hb =>
     have hb1 := hb b1 (by simp)
     by_cases hc1 : b1 / 64 = 2
     · simp only [fits]
       rw [if_pos hc1, if_neg h2, if_neg h3, if_pos h4]
       refine fits_pair (by simp) (by simp) (by simp) (by simp) (filled4 h4 128 b1 0 0).2.1 (filled4 h4 191 b1 0 0).2.1 ?_ ?_ ?_
       all_goals unfold u4 MayR
       · intro hA hB
         omega
       · intro hA hB c hc
         omega
       · intro hAB c g1 g2 hc
         unfold MayC at hc
         omega
     · have : fits [b0, b1] = false := by simp only [fits]; rw [if_neg hc1]
       rw [this]
       exact fits_no (by simp) (by simp) (by rw [(filled4 h4 128 b1 0 0).2.1, if_neg fun g => hc1 g.1])
    | [b1, b2], hb =>
     by_cases hc1 : b1 / 64 = 2 ∧ b2 / 64 = 2
     · simp only [fits]
       rw [if_pos hc1, if_neg h3, if_pos h4]
       refine fits_pair (by simp) (by simp) (by simp) (by simp) (filled4 h4 128 b1 b2 0).2.2.1 (filled4 h4 191 b1 b2 0).2.2.1 ?_ ?_ ?_
       all_goals unfold u4 MayR
       · intro hA hB
         omega
       · intro hA hB c hc
         omega
       · intro hAB c g1 g2 hc
         unfold MayC at hc
         omega
     · have : fits [b0, b1, b2] = false := by simp only [fits]; rw [if_neg hc1]
       rw [this]
       exact fits_no (by simp) (by simp) (by rw [(filled4 h4 128 b1 b2 0).2.2.1, if_neg fun g => hc1 ⟨g.1, g.2.1⟩])
    | [b1, b2, b3], hb =>
     by_cases hc1 : b1 / 64 = 2 ∧ b2 / 64 = 2 ∧ b3 / 64 = 2
     · simp only [fits]
       rw [if_pos hc1, if_pos h4]
       refine fits_pair (by simp) (by simp) (by simp) (by simp) (filled4 h4 128 b1 b2 b3).2.2.2 (filled4 h4 191 b1 b2 b3).2.2.2 ?_ ?_ ?_
       all_goals unfold u4 MayR
       · intro hA hB
         omega
       · intro hA hB c hc
         omega
       · intro hAB c g1 g2 hc
         unfold MayC at hc
         omega
     · have : fits [b0, b1, b2, b3] = false := by simp only [fits]; rw [if_neg hc1]
       rw [this]
       exact fits_no (by simp) (by simp) (by rw [(filled4 h4 128 b1 b2 b3).2.2.2, if_neg fun g => hc1 ⟨g.1, g.2.1, g.2.2.1⟩])
    | b1 :: b2 :: b3 :: b4 :: r, hb =>
     have hw := width4 h4
     rw [fits_no (by simp) (by simp) (filledL_long 128 6 b0 (b1 :: b2 :: b3 :: b4 :: r) (by rw [hw]; simp))]
     rfl
  · have hw : width b0 = 5 := by unfold width; rw [if_neg (by omega), if_neg h2, if_neg h3, if_neg h4]
    have hf : fits (b0 :: r) = false := by
     match r with
     | [] => simp only [fits]; rw [if_neg h2, if_neg h3, if_neg h4]
     | [c] => simp only [fits]; rw [if_neg h2, if_neg h3, if_neg h4]; split <;> rfl
     | [c, d] => simp only [fits]; rw [if_neg h3, if_neg h4]; split <;> rfl
     | [c, d, e] => simp only [fits]; rw [if_neg h4]; split <;> rfl
     | _ :: _ :: _ :: _ :: _ => rfl
    rw [hf]
    have n1 : ∀ x, x < 248 → b0 :: r ≠ [x] := fun x hx g => by have := (List.cons.inj g).1; omega
    refine fits_no (n1 _ (by omega)) (n1 _ (by omega)) ?_
    by_cases hlen : r.length + 1 ≤ 5
    · rw [filledL_at 128 6 (5 - (r.length + 1)) b0 r (by omega) (by omega) (by omega), if_neg fun g => by omega]
    · exact filledL_long 128 6 b0 r (by omega)
def figsN : Nat → Nat → List Nat
 | 0, _ => []
 | d + 1, n => if n < 10 then [48 + n] else figsN d (n / 10) ++ [48 + n % 10]
def Figs (r : List Nat) : Prop := r ≠ [] ∧ r.length ≤ 4 ∧ (∀ b ∈ r, 48 ≤ b ∧ b ≤ 57) ∧ r.head? ≠ some 48
theorem digit_iff (b : Nat) : isDigit b = true ↔ 48 ≤ b ∧ b ≤ 57 := by
 simp only [isDigit, Bool.and_eq_true, decide_eq_true_eq]
 omega
theorem c_digits : ∀ (r : List Nat) (k : Nat), NoSep r → (far step (.c k) r = r.length ↔ (∀ b ∈ r, 48 ≤ b ∧ b ≤ 57) ∧ (r = [] ∨ k + r.length ≤ 4) ∧ (k = 0 → r.head? ≠ some 48))
 | [], k, _ => by simp [far]
 | b :: r, k, hs => by
  have hf := fin_other (hs b (by simp)).1 (hs b (by simp)).2
  by_cases h : isDigit b = true ∧ k < 4 ∧ ¬ (k = 0 ∧ b = 48)
  · have s : step (.c k) b = some (.c (k + 1)) := by simp only [step]; rw [if_pos h]
    rw [far_some s, List.length_cons, Nat.add_right_cancel_iff, c_digits r (k + 1) hs.tail]
    have hb := (digit_iff b).1 h.1
    constructor
    · rintro ⟨a, c, -⟩
      refine ⟨fun x hx => ?_, .inr ?_, fun hk => ?_⟩
      · rcases List.mem_cons.1 hx with rfl | hx
        · exact hb
        · exact a x hx
      · rcases c with rfl | c
        · simp
          omega
        · omega
      · intro g
        exact h.2.2 ⟨hk, Option.some.inj g⟩
    · rintro ⟨a, c, -⟩
      refine ⟨fun x hx => a x (List.mem_cons_of_mem _ hx), .inr ?_, fun hk => by omega⟩
      rcases c with c | c
      · cases c
      · omega
  · have s : step (.c k) b = none := by
     simp only [step]
     rw [if_neg h, hf]
     split <;> rfl
    rw [far_none s, List.length_cons]
    constructor
    · intro g
      omega
    · rintro ⟨a, c, e⟩
      refine absurd ⟨(digit_iff b).2 (a b (by simp)), ?_, fun g => ?_⟩ h
      · rcases c with c | c
        · cases c
        · omega
      · exact e g.1 (by rw [g.2]; rfl)
theorem figs_iff {r : List Nat} (hs : NoSep r) : (r ≠ [] ∧ far step (.c 0) r = r.length) ↔ Figs r := by
 rw [c_digits r 0 hs]
 constructor
 · rintro ⟨a, b, c, d⟩
   refine ⟨a, ?_, b, d rfl⟩
   rcases c with c | c
   · exact absurd c a
   · omega
 · rintro ⟨a, b, c, d⟩
   exact ⟨a, c, .inr (by omega), fun _ => d⟩
theorem num_figs {r : List Nat} (h : Figs r) : figsN 4 (num r) = r ∧ 1 ≤ num r ∧ num r ≤ 9999 := by
 obtain ⟨h1, h2, h3, h4⟩ := h
 match r, h1, h2, h3, h4 with
 | [], h1, _, _, _ => exact absurd rfl h1
 | [a], _, _, h3, h4 =>
  have ha := h3 a (by simp)
  have h4' : a ≠ 48 := fun g => h4 (by rw [g]; rfl)
  have e : num [a] = 10 * (0) + (a - 48) := rfl
  generalize num [a] = m at e ⊢
  simp only [figsN]
  rw [if_pos (by omega)]
  refine ⟨?_, by omega, by omega⟩
  congr 1
  omega
 | [a, b], _, _, h3, h4 =>
  have ha := h3 a (by simp)
  have hb := h3 b (by simp)
  have h4' : a ≠ 48 := fun g => h4 (by rw [g]; rfl)
  have e : num [a, b] = 10 * (10 * (0) + (a - 48)) + (b - 48) := rfl
  generalize num [a, b] = m at e ⊢
  simp only [figsN]
  rw [if_neg (by omega), if_pos (by omega)]
  refine ⟨?_, by omega, by omega⟩
  simp only [List.cons_append, List.nil_append, List.cons.injEq, and_true]
  omega
 | [a, b, c], _, _, h3, h4 =>
  have ha := h3 a (by simp)
  have hb := h3 b (by simp)
  have hc := h3 c (by simp)
  have h4' : a ≠ 48 := fun g => h4 (by rw [g]; rfl)
  have e : num [a, b, c] = 10 * (10 * (10 * (0) + (a - 48)) + (b - 48)) + (c - 48) := rfl
  generalize num [a, b, c] = m at e ⊢
  simp only [figsN]
  rw [if_neg (by omega), if_neg (by omega), if_pos (by omega)]
  refine ⟨?_, by omega, by omega⟩
  simp only [List.cons_append, List.nil_append, List.cons.injEq, and_true]
  omega
 | [a, b, c, d], _, _, h3, h4 =>
  have ha := h3 a (by simp)
  have hb := h3 b (by simp)
  have hc := h3 c (by simp)
  have hd := h3 d (by simp)
  have h4' : a ≠ 48 := fun g => h4 (by rw [g]; rfl)
  have e : num [a, b, c, d] = 10 * (10 * (10 * (10 * (0) + (a - 48)) + (b - 48)) + (c - 48)) + (d - 48) := rfl
  generalize num [a, b, c, d] = m at e ⊢
  simp only [figsN]
  rw [if_neg (by omega), if_neg (by omega), if_neg (by omega), if_pos (by omega)]
  refine ⟨?_, by omega, by omega⟩
  simp only [List.cons_append, List.nil_append, List.cons.injEq, and_true]
  omega
 | _ :: _ :: _ :: _ :: _ :: _, _, h2, _, _ => simp at h2
theorem figs_num {m : Nat} (h1 : 1 ≤ m) (h2 : m ≤ 9999) : Figs (figsN 4 m) ∧ num (figsN 4 m) = m := by
 by_cases a : m < 10
 · simp only [figsN]
   rw [if_pos a]
   refine ⟨⟨by simp, by simp, fun b hb => ?_, ?_⟩, ?_⟩
   · simp at hb
     omega
   · simp
     omega
   · simp only [num, List.foldl]
     omega
 by_cases b : m < 100
 · simp only [figsN]
   rw [if_neg a, if_pos (by omega)]
   refine ⟨⟨by simp, by simp, fun b hb => ?_, ?_⟩, ?_⟩
   · simp at hb
     omega
   · simp
     omega
   · simp only [num, List.cons_append, List.nil_append, List.foldl]
     omega
 by_cases c : m < 1000
 · simp only [figsN]
   rw [if_neg a, if_neg (by omega), if_pos (by omega)]
   refine ⟨⟨by simp, by simp, fun b hb => ?_, ?_⟩, ?_⟩
   · simp at hb
     omega
   · simp
     omega
   · simp only [num, List.cons_append, List.nil_append, List.foldl]
     omega
 · simp only [figsN]
   rw [if_neg a, if_neg (by omega), if_neg (by omega), if_pos (by omega)]
   refine ⟨⟨by simp, by simp, fun b hb => ?_, ?_⟩, ?_⟩
   · simp at hb
     omega
   · simp
     omega
   · simp only [num, List.cons_append, List.nil_append, List.foldl]
     omega
theorem behindIs_iff {l : List Nat} (hs : NoSep l) (t : Int × Bool) : behindIs l = some t ↔ (l = [] ∧ t = (0, false)) ∨ (l = [42] ∧ t = (0, true)) ∨ ∃ r, l = 58 :: r ∧ Figs r ∧ t = (((num r : Nat) : Int), false) := by
 match l, hs with
 | [], _ =>
  show some (0, false) = some t ↔ _
  constructor
  · intro h
    exact .inl ⟨rfl, (Option.some.inj h).symm⟩
  · rintro (⟨-, rfl⟩ | ⟨h, -⟩ | ⟨r, h, -⟩)
    · rfl
    · cases h
    · cases h
 | b :: r, hs =>
  simp only [behindIs]
  by_cases h42 : b = 42
  · rw [if_pos h42]
    subst h42
    by_cases hr : r = []
    · rw [if_pos hr]
      subst hr
      constructor
      · intro h
        exact .inr (.inl ⟨rfl, (Option.some.inj h).symm⟩)
      · rintro (⟨h, -⟩ | ⟨-, rfl⟩ | ⟨r, h, -⟩)
        · cases h
        · rfl
        · cases h
    · rw [if_neg hr]
      constructor
      · intro h
        cases h
      · rintro (⟨h, -⟩ | ⟨h, -⟩ | ⟨r, h, -⟩)
        · cases h
        · exact absurd (List.cons.inj h).2 hr
        · cases h
  rw [if_neg h42]
  by_cases h58 : b = 58
  · rw [if_pos h58]
    subst h58
    by_cases hf : Figs r
    · rw [if_pos ((figs_iff hs.tail).2 hf)]
      constructor
      · intro h
        exact .inr (.inr ⟨r, rfl, hf, (Option.some.inj h).symm⟩)
      · rintro (⟨h, -⟩ | ⟨h, -⟩ | ⟨r', h, -, rfl⟩)
        · cases h
        · cases h
        · cases h
          rfl
    · rw [if_neg (fun g => hf ((figs_iff hs.tail).1 g))]
      constructor
      · intro h
        cases h
      · rintro (⟨h, -⟩ | ⟨h, -⟩ | ⟨r', h, hf', rfl⟩)
        · cases h
        · cases h
        · cases h
          exact absurd hf' hf
  · rw [if_neg h58]
    constructor
    · intro h
      cases h
    · rintro (⟨h, -⟩ | ⟨h, -⟩ | ⟨r', h, -⟩)
      · cases h
      · exact absurd (List.cons.inj h).1 h42
      · exact absurd (List.cons.inj h).1 h58
end Go.Proofs.YtkipkbggnfllkaaGreatDoor.P
end
section
namespace Go.Proofs.YtkipkbggnfllkaaGreatDoor.P
open Go.RowKit Go.Proofs.YtkipkbggnfllkaaGreatDoorW.PrintWords Go.Proofs.YtkipkbggnfllkaaGreatDoorW.PrintLast Go.Proofs.YtkipkbggnfllkaaGreatDoorW.PrintMore
set_option linter.unusedVariables false
set_option linter.unusedSimpArgs false
theorem bs_one (b : Nat) (h : b < 256) : bs (strOfNums [(wrap64 (b : Int)) % 256]) = [b] := by
 have e : (wrap64 (b : Int)) % 256 = (b : Int) := by unfold wrap64; omega
 rw [e, bs_strOfNums]
 · simp
 · intro x hx
   simp at hx
   omega
theorem ref_figures : ∀ (d m : Nat), m < 10 ^ (d + 1) → d ≤ 3 → ∃ t, Ev (fun k => rf06_figures.f k (m : Int)) t ∧ bs t = figsN (d + 1) m ∧ t.size = (figsN (d + 1) m).length ∧ t.size ≤ d + 1 := by
 intro d
 induction d with
 | zero =>
  intro m hm _
  have e : (48 + (m : Int)) = ((48 + m : Nat) : Int) := by omega
  refine ⟨strOfNums [(wrap64 (48 + (m : Int))) % 256], Ev.step (f := fun _ => some _) (fun k => by simp only [rf06_figures.f]; rw [if_pos (by omega)]) (Ev.now _), ?_, ?_, ?_⟩
  · rw [e, bs_one _ (by omega)]
    simp only [figsN]
    rw [if_pos (by omega)]
  · rw [strOfNums_size]
    simp only [figsN]
    rw [if_pos (by omega)]
    rfl
  · rw [strOfNums_size]
    simp
 | succ d ih =>
  intro m hm hd
  by_cases h : m < 10
  · have e : (48 + (m : Int)) = ((48 + m : Nat) : Int) := by omega
    refine ⟨strOfNums [(wrap64 (48 + (m : Int))) % 256], Ev.step (f := fun _ => some _) (fun k => by simp only [rf06_figures.f]; rw [if_pos (by omega)]) (Ev.now _), ?_, ?_, ?_⟩
    · rw [e, bs_one _ (by omega)]
      simp only [figsN]
      rw [if_pos (by omega)]
    · rw [strOfNums_size]
      simp only [figsN]
      rw [if_pos (by omega)]
      rfl
    · rw [strOfNums_size]
      simp
  · have hm2 : m / 10 < 10 ^ (d + 1) := by
     rw [Nat.pow_succ] at hm
     omega
    obtain ⟨t, ht, h1, h2, h3⟩ := ih (m / 10) hm2 (by omega)
    have hb : m < 1000000 := by
     have : 10 ^ (d + 1 + 1) ≤ 10 ^ 6 := Nat.pow_le_pow_right (by omega) (by omega)
     omega
    have e1 : wrap64 (Int.tdiv (m : Int) 10) = ((m / 10 : Nat) : Int) := by
     rw [show Int.tdiv (m : Int) 10 = ((m / 10 : Nat) : Int) from rfl, w64 (by omega) (by omega)]
    have e2 : (48 + Int.tmod (m : Int) 10) = ((48 + m % 10 : Nat) : Int) := by
     rw [show Int.tmod (m : Int) 10 = ((m % 10 : Nat) : Int) from rfl]
     omega
    refine ⟨t ++ strOfNums [(wrap64 (48 + Int.tmod (m : Int) 10)) % 256], ?_, ?_, ?_, ?_⟩
    · refine Ev.step (f := fun k => (rf06_figures.f k ((m / 10 : Nat) : Int)).bind fun t133 => if t133.size + (strOfNums [(wrap64 (48 + Int.tmod (m : Int) 10)) % 256]).size ≤ 9223372036854775807 then some (t133 ++ strOfNums [(wrap64 (48 + Int.tmod (m : Int) 10)) % 256]) else none) (fun k => ?_) ?_
      · simp only [rf06_figures.f]
        rw [if_neg (by omega), e1]
        rfl
      · refine ht.bind ?_
        rw [if_pos (by rw [strOfNums_size]; simp; omega)]
        exact Ev.now _
    · rw [bs_append, h1, e2, bs_one _ (by omega)]
      conv => rhs; simp only [figsN]
      rw [if_neg h]
      rfl
    · rw [ByteArray.size_append, strOfNums_size, h2]
      conv => rhs; simp only [figsN]
      rw [if_neg h, List.length_append]
      rfl
    · rw [ByteArray.size_append, strOfNums_size]
      simp
      omega
theorem ref_may6 (nm : ByteArray) (m : Int) (st : Bool) : Ev (fun k => rf06_May.f k nm m st) (nameFrom .ns (bs nm) && (decide (0 ≤ m) && (decide (m ≤ 9999) && (!st || m == 0)))) := by
 refine (ref_may nm).bind ?_
 cases h : nameFrom .ns (bs nm) with
 | false => exact Ev.now _
 | true =>
  simp only [if_true, Bool.true_and]
  by_cases h1 : 0 ≤ m
  · rw [if_pos (by omega), decide_eq_true h1]
    by_cases h2 : m ≤ 9999
    · rw [if_pos h2, decide_eq_true h2]
      cases st
      · simp only [Bool.false_eq_true, if_false]
        exact Ev.now _
      · simp only [if_true]
        exact Ev.now _
    · rw [if_neg h2, decide_eq_false h2]
      exact Ev.now _
  · rw [if_neg (by omega), decide_eq_false h1]
    exact Ev.now _
def tailN (m : Int) (st : Bool) : List Nat := if st = true then [42] else if m > 0 then 58 :: figsN 4 m.toNat else []
theorem ref_put6 (nm : ByteArray) (m : Int) (st : Bool) (hs : nm.size ≤ 1099511627776) (h : (nameFrom .ns (bs nm) && (decide (0 ≤ m) && (decide (m ≤ 9999) && (!st || m == 0)))) = true) :
 ∃ p, Ev (fun k => rf06_Put.f k nm m st) p ∧ bs p = bs nm ++ tailN m st := by
 have hm := ref_may6 nm m st
 rw [h] at hm
 simp only [Bool.and_eq_true, decide_eq_true_eq] at h
 obtain ⟨-, h1, h2, -⟩ := h
 cases st with
 | true =>
  refine ⟨nm ++ ⟨#[42]⟩, ?_, by rw [bs_append]; rfl⟩
  refine hm.bind ?_
  simp only [if_true]
  rw [if_pos (by omega)]
  exact Ev.now _
 | false =>
  by_cases h3 : m > 0
  · obtain ⟨t, ht, g1, g2, g3⟩ := ref_figures 3 m.toNat (by omega) (by omega)
    rw [Int.toNat_of_nonneg h1] at ht
    have e1 : (nm ++ (⟨#[58]⟩ : ByteArray)).size = nm.size + 1 := by rw [ByteArray.size_append]; rfl
    refine ⟨(nm ++ ⟨#[58]⟩) ++ t, ?_, ?_⟩
    · refine hm.bind ?_
      simp only [if_true, Bool.false_eq_true, if_false]
      refine Ev.pos h3 (Ev.pos (by omega) ?_)
      refine ht.bind ?_
      rw [if_pos (by omega)]
      exact Ev.now _
    · rw [bs_append, bs_append, g1, tailN]
      simp only [Bool.false_eq_true, if_false]
      rw [if_pos h3]
      simp [show bs ⟨#[58]⟩ = [58] from rfl]
  · refine ⟨nm, ?_, ?_⟩
    · refine hm.bind ?_
      simp only [if_true, Bool.false_eq_true, if_false]
      exact Ev.neg h3 (Ev.now _)
    · rw [tailN]
      simp only [Bool.false_eq_true, if_false]
      rw [if_neg h3, List.append_nil]
def numI (l : List Nat) (m : Int) : Int := l.foldl (fun (a : Int) (b : Nat) => 10 * a + (b : Int) - 48) m
theorem numI_num : ∀ (l : List Nat) (a : Nat), (∀ b ∈ l, 48 ≤ b ∧ b ≤ 57) → numI l (a : Int) = ((l.foldl (fun a d => 10 * a + (d - 48)) a : Nat) : Int)
 | [], a, _ => rfl
 | b :: l, a, h => by
  have hb := h b (by simp)
  have e : (10 * (a : Int) + (b : Int) - 48) = ((10 * a + (b - 48) : Nat) : Int) := by omega
  simp only [numI, List.foldl] at *
  rw [e]
  exact numI_num l _ fun x hx => h x (List.mem_cons_of_mem _ hx)
def okIs (e : Nat) (l : List Nat) (m : Int) (st : Bool) : Bool := decide (0 < e) && ((decide (0 ≤ m) && (decide (m ≤ 9999) && (!st || m == 0))) && decide (tailN m st = l.drop e))
theorem ref_is_end (s : ByteArray) (e : Nat) (he : e = nameEnd (bs s)) (hs : s.size ≤ 1099511627776) (m : Int) (st : Bool) :
 Ev (fun k => if (e : Int) > 0 then ((rf06_May.f k (s.extract 0 e) m st).bind fun t144 => (if t144 = true then ((rf06_Put.f k (s.extract 0 e) m st).bind fun t145 => (some (s.extract 0 e, m, st, (t145.toList == s.toList)))) else (some (s.extract 0 e, m, st, false)))) else (some (s.extract 0 e, m, st, false)))
  (s.extract 0 e, m, st, okIs e (bs s) m st) := by
 have hle := nameEnd_le (bs s)
 rw [← he, bs_length] at hle
 by_cases h0 : 0 < e
 · have hn : nameFrom .ns (bs (s.extract 0 e)) = true := by
    rw [bs_upto, nameFrom_iff, he]
    exact nameEnd_is _ (by omega)
   have hm := ref_may6 (s.extract 0 e) m st
   have ec : ((e : Int) > 0) = True := eq_true (by omega)
   simp only [ec, if_true, okIs]
   rw [decide_eq_true h0, Bool.true_and]
   rw [hn, Bool.true_and] at hm
   refine hm.bind ?_
   cases hc : (decide (0 ≤ m) && (decide (m ≤ 9999) && (!st || m == 0))) with
   | false =>
    simp only [Bool.false_eq_true, if_false, Bool.false_and]
    exact Ev.now _
   | true =>
    obtain ⟨p, hp, hb⟩ := ref_put6 (s.extract 0 e) m st (by rw [bs_size_upto s e hle]; omega) (by rw [hn, hc]; rfl)
    simp only [if_true, Bool.true_and]
    refine hp.bind ?_
    have : (p.toList == s.toList) = decide (tailN m st = (bs s).drop e) := by
     rw [Bool.eq_iff_iff, beq_iff_eq, decide_eq_true_eq, toList_bs, hb, bs_upto]
     constructor
     · intro g
       conv at g => rhs; rw [← List.take_append_drop e (bs s)]
       exact List.append_cancel_left g
     · intro g
       rw [g, List.take_append_drop]
    rw [this]
    exact Ev.now _
 · have ec : ((e : Int) > 0) = False := eq_false (by omega)
   simp only [ec, if_false, okIs]
   rw [decide_eq_false h0, Bool.false_and]
   exact Ev.now _
theorem ref_is_loop (s rest : ByteArray) (e : Nat) (he : e = nameEnd (bs s)) (hs : s.size ≤ 1099511627776) (hr : rest.size ≤ 1099511627776) (st : Bool) : ∀ (d i : Nat) (m : Int), i + d = 6 → 1 ≤ i → -(10 ^ i * 30 : Nat) + 30 ≤ m → m ≤ (10 ^ i * 30 : Nat) - 30 →
 Ev (fun k => rf06_Is.l0 k s (e : Int) rest (i : Int) (s.extract 0 e) m st) (s.extract 0 e, numI (((bs rest).take 6).drop i) m, st, okIs e (bs s) (numI (((bs rest).take 6).drop i) m) st)
 | 0, i, m, hi, h1, b1, b2 => by
  obtain rfl : i = 6 := by omega
  have e0 : ((bs rest).take 6).drop 6 = [] := List.drop_eq_nil_of_le (by rw [List.length_take]; omega)
  rw [e0]
  refine Ev.step (f := _) (fun k => ?_) (ref_is_end s e he hs m st)
  simp only [rf06_Is.l0]
  by_cases h : ((6 : Nat) : Int) < (rest.size : Int)
  · rw [if_pos h, if_neg (by omega)]
  · rw [if_neg h]
 | d + 1, i, m, hi, h1, b1, b2 => by
  by_cases h : i < rest.size
  · obtain ⟨b, hb, hbt, hd⟩ := bs_get rest i h
    have e0 : ((bs rest).take 6).drop i = b :: ((bs rest).take 6).drop (i + 1) := by
     rw [List.drop_take, hd, show 6 - i = (6 - (i + 1)) + 1 by omega, List.take_succ_cons, List.drop_take]
    have hp : 10 ^ (i + 1) = 10 * 10 ^ i := by rw [Nat.pow_succ, Nat.mul_comm]
    have hp2 : 10 ^ i ≤ 10 ^ 5 := Nat.pow_le_pow_right (by omega) (by omega)
    have hp3 : 1 ≤ 10 ^ i := Nat.pos_of_ne_zero (by simp)
    have ih := ref_is_loop s rest e he hs hr st d (i + 1) (10 * m + (b : Int) - 48) (by omega) (by omega) (by rw [hp]; omega) (by rw [hp]; omega)
    refine Ev.step (f := fun k => rf06_Is.l0 k s (e : Int) rest ((i + 1 : Nat) : Int) (s.extract 0 e) (10 * m + (b : Int) - 48) st) (fun k => ?_) ?_
    · simp only [rf06_Is.l0]
      rw [if_pos (by omega), if_pos (by omega), if_pos (by omega), hbt]
      rw [w64 (n := (i : Int) + 1) (by omega) (by omega), w64 (n := 10 * m) (by omega) (by omega), w64 (n := (b : Int)) (by omega) (by omega), w64 (n := 10 * m + (b : Int)) (by omega) (by omega), w64 (n := 10 * m + (b : Int) - 48) (by omega) (by omega)]
      rfl
    · rw [e0]
      exact ih
  · have e0 : ((bs rest).take 6).drop i = [] := List.drop_eq_nil_of_le (by rw [List.length_take, bs_length]; omega)
    rw [e0]
    refine Ev.step (f := _) (fun k => ?_) (ref_is_end s e he hs m st)
    simp only [rf06_Is.l0]
    rw [if_neg (by omega)]
theorem ref_is (s : ByteArray) (hs : s.size ≤ 1099511627776) (hsep : NoSep (bs s)) :
 ∃ nm m st ok, Ev (fun k => rf06_Is.f k s) (nm, m, st, ok) ∧ (ok = true → mVar (bs s) = some ⟨bs nm, m, st⟩) ∧ (ok = false → mVar (bs s) = none) := by
 have hle := nameEnd_le (bs s)
 rw [bs_length] at hle
 have hrest : bs (s.extract (nameEnd (bs s)) s.size) = (bs s).drop (nameEnd (bs s)) := bs_from _ _
 have hsz : (s.extract (nameEnd (bs s)) s.size).size ≤ 1099511627776 := by rw [bs_size_from]; omega
 have hloop := fun st => ref_is_loop s (s.extract (nameEnd (bs s)) s.size) (nameEnd (bs s)) rfl hs hsz st 5 1 0 (by omega) (by omega) (by omega) (by omega)
 simp only [hrest] at hloop
 have hM : ∀ r, Figs r → numI ((((58 :: r : List Nat)).take 6).drop 1) 0 = ((num r : Nat) : Int) := by
  intro r hf
  obtain ⟨-, h2, h3, -⟩ := hf
  rw [List.take_of_length_le (by rw [List.length_cons]; omega)]
  exact numI_num r 0 h3
 refine ⟨s.extract 0 (nameEnd (bs s)), numI ((((bs s).drop (nameEnd (bs s))).take 6).drop 1) 0, decide ((bs s).drop (nameEnd (bs s)) = [42]),
  okIs (nameEnd (bs s)) (bs s) (numI ((((bs s).drop (nameEnd (bs s))).take 6).drop 1) 0) (decide ((bs s).drop (nameEnd (bs s)) = [42])), ?_, ?_, ?_⟩
 · refine (ref_end s hs).bind ?_
   refine Ev.pos (by omega) (Ev.pos (by omega) ?_)
   rw [Int.toNat_natCast]
   by_cases h42 : (bs s).drop (nameEnd (bs s)) = [42]
   · have h42' : (s.extract (nameEnd (bs s)) s.size).toList = ([42] : List UInt8) := by
      rw [toList_is, hrest, h42]
      rfl
     rw [decide_eq_true h42]
     refine Ev.pos h42' ?_
     exact Ev.step (fun k => by simp only [rf06_Is.j0]; rfl) (hloop true)
   · have h42' : ¬ (s.extract (nameEnd (bs s)) s.size).toList = ([42] : List UInt8) := by
      rw [toList_is, hrest]
      exact h42
     rw [decide_eq_false h42]
     refine Ev.neg h42' ?_
     exact Ev.step (fun k => by simp only [rf06_Is.j0]; rfl) (hloop false)
 · intro hok
   simp only [okIs, Bool.and_eq_true, decide_eq_true_eq] at hok
   obtain ⟨h0, ⟨h1, h2, h3⟩, h4⟩ := hok
   have hb : behindIs ((bs s).drop (nameEnd (bs s))) = some (numI ((((bs s).drop (nameEnd (bs s))).take 6).drop 1) 0, decide ((bs s).drop (nameEnd (bs s)) = [42])) := by
    rw [behindIs_iff (hsep.drop _)]
    by_cases h42 : (bs s).drop (nameEnd (bs s)) = [42]
    · refine .inr (.inl ⟨h42, ?_⟩)
      rw [decide_eq_true h42, h42]
      rfl
    · rw [decide_eq_false h42] at h4 ⊢
      generalize hm : numI ((((bs s).drop (nameEnd (bs s))).take 6).drop 1) 0 = M at *
      simp only [tailN, Bool.false_eq_true, if_false] at h4
      by_cases hp : M > 0
      · rw [if_pos hp] at h4
        obtain ⟨g1, g2⟩ := figs_num (m := M.toNat) (by omega) (by omega)
        refine .inr (.inr ⟨figsN 4 M.toNat, h4.symm, g1, ?_⟩)
        rw [g2]
        congr 1
        omega
      · rw [if_neg hp] at h4
        refine .inl ⟨h4.symm, ?_⟩
        congr 1
        omega
   rw [mVar, if_neg (by omega), hb, bs_upto]
   rfl
 · intro hok
   rw [mVar]
   by_cases h0 : nameEnd (bs s) = 0
   · rw [if_pos h0]
   rw [if_neg h0]
   cases hb : behindIs ((bs s).drop (nameEnd (bs s))) with
   | none => rfl
   | some t =>
    exfalso
    rcases (behindIs_iff (hsep.drop _) t).1 hb with ⟨h, rfl⟩ | ⟨h, rfl⟩ | ⟨r, h, hf, rfl⟩
    · rw [okIs, h] at hok
      simp [numI, tailN] at hok
      omega
    · rw [okIs, h] at hok
      simp [numI, tailN] at hok
      omega
    · have hne : ¬ (58 :: r = [42]) := fun g => by cases g
      obtain ⟨g1, g2, g3⟩ := num_figs hf
      rw [okIs, h, hM r hf, decide_eq_false hne] at hok
      have e1 : decide (0 < nameEnd (bs s)) = true := decide_eq_true (by omega)
      have e2 : decide ((0 : Int) ≤ ((num r : Nat) : Int)) = true := decide_eq_true (by omega)
      have e3 : decide (((num r : Nat) : Int) ≤ 9999) = true := decide_eq_true (by omega)
      have e4 : tailN ((num r : Nat) : Int) false = 58 :: r := by
       simp only [tailN, Bool.false_eq_true, if_false]
       rw [if_pos (by omega), Int.toNat_natCast, g1]
      rw [e1, e2, e3, e4] at hok
      simp at hok
theorem decide_is {p : Prop} [Decidable p] {b : Bool} (h : b = true ↔ p) : b = decide p := by
 cases b with
 | true => exact (decide_eq_true (h.1 rfl)).symm
 | false => exact (decide_eq_false fun g => by cases h.2 g).symm
theorem ref_may4 (c : Nat) : rf04_May.f (c : Int) = some (decide (MayC c)) := by
 unfold rf04_May.f
 have e : Int.tmod (c : Int) 65536 = ((c % 65536 : Nat) : Int) := rfl
 simp only [e]
 repeat' split
 all_goals
  refine congrArg some (decide_is ?_)
  unfold MayC
  simp only [decide_eq_true_eq, true_iff, Bool.false_eq_true, false_iff]
  omega
theorem ref_mayU (c : Nat) : rf01_May.f (c : Int) = some (decide (c ≤ 1114111 ∧ (c < 55296 ∨ 57343 < c))) := by
 unfold rf01_May.f
 repeat' split
 all_goals
  refine congrArg some (decide_is ?_)
  simp only [decide_eq_true_eq, true_iff, Bool.false_eq_true, false_iff]
  omega
theorem ref_tail : ∀ (n j c : Nat), n + j ≤ 5 → c ≤ 1114111 → Ev (fun k => rf01_tail.l0 k (c : Int) ((n + j : Nat) : Int) (j : Int)) ((128 + c / 64 ^ n % 64 : Nat) : Int)
 | 0, j, c, hn, hc => by
  refine Ev.step (f := fun _ => some _) (fun k => by simp only [rf01_tail.l0]; rw [if_neg (by omega)]) ?_
  have e : (wrap64 (128 + Int.tmod (c : Int) 64)) % 256 = ((128 + c / 64 ^ 0 % 64 : Nat) : Int) := by
   rw [show Int.tmod (c : Int) 64 = ((c % 64 : Nat) : Int) from rfl, w64 (by omega) (by omega)]
   simp
   omega
  rw [e]
  exact Ev.now _
 | n + 1, j, c, hn, hc => by
  have ih := ref_tail n (j + 1) (c / 64) (by omega) (by omega)
  have e : c / 64 / 64 ^ n = c / 64 ^ (n + 1) := by rw [Nat.div_div_eq_div_mul, Nat.pow_succ, Nat.mul_comm]
  rw [e] at ih
  refine Ev.step (f := fun k => rf01_tail.l0 k ((c / 64 : Nat) : Int) ((n + (j + 1) : Nat) : Int) ((j + 1 : Nat) : Int)) (fun k => ?_) ih
  simp only [rf01_tail.l0]
  rw [if_pos (by omega), show Int.tdiv (c : Int) 64 = ((c / 64 : Nat) : Int) from rfl, w64 (by omega) (by omega), w64 (by omega) (by omega)]
  have e1 : ((n + 1 + j : Nat) : Int) = ((n + (j + 1) : Nat) : Int) := by omega
  have e2 : (j : Int) + 1 = ((j + 1 : Nat) : Int) := by omega
  rw [e1, e2]
theorem ref_tail_at (n c : Nat) (hn : n ≤ 5) (hc : c ≤ 1114111) : Ev (fun k => rf01_tail.f k (c : Int) (n : Int)) ((128 + c / 64 ^ n % 64 : Nat) : Int) := ref_tail n 0 c hn hc
def oneN (c : Nat) : List Nat :=
 if c < 128 then [c] else if c < 2048 then [192 + c / 64, 128 + c % 64] else if c < 65536 then [224 + c / 4096, 128 + c / 64 % 64, 128 + c % 64]
 else [240 + c / 262144, 128 + c / 4096 % 64, 128 + c / 64 % 64, 128 + c % 64]
theorem bs_str2 (a b : Nat) (ha : a < 256) (hb : b < 256) : bs (strOfNums [(a : Int), (b : Int)]) = [a, b] := by
 rw [bs_strOfNums]
 · simp
 · intro x hx
   simp at hx
   omega
theorem bs_str3 (a b c : Nat) (ha : a < 256) (hb : b < 256) (hc : c < 256) : bs (strOfNums [(a : Int), (b : Int), (c : Int)]) = [a, b, c] := by
 rw [bs_strOfNums]
 · simp
 · intro x hx
   simp at hx
   omega
theorem bs_str4 (a b c d : Nat) (ha : a < 256) (hb : b < 256) (hc : c < 256) (hd : d < 256) : bs (strOfNums [(a : Int), (b : Int), (c : Int), (d : Int)]) = [a, b, c, d] := by
 rw [bs_strOfNums]
 · simp
 · intro x hx
   simp at hx
   omega
theorem ref_one (c : Nat) (hc : c ≤ 1114111) : ∃ t, Ev (fun k => rf01_One.f k (c : Int)) t ∧ bs t = oneN c := by
 have t0 : Ev (fun k => rf01_tail.f k (c : Int) 0) ((128 + c % 64 : Nat) : Int) := by
  have := ref_tail_at 0 c (by omega) hc
  simpa using this
 have t1 : Ev (fun k => rf01_tail.f k (c : Int) 1) ((128 + c / 64 % 64 : Nat) : Int) := ref_tail_at 1 c (by omega) hc
 have t2 : Ev (fun k => rf01_tail.f k (c : Int) 2) ((128 + c / 4096 % 64 : Nat) : Int) := ref_tail_at 2 c (by omega) hc
 unfold oneN
 by_cases h1 : c < 128
 · rw [if_pos h1]
   refine ⟨_, Ev.congr (f := fun _ => some (strOfNums [(c : Int) % 256])) (fun k => by simp only [rf01_One.f]; rw [if_pos (by omega)]) (Ev.now _), ?_⟩
   rw [show (c : Int) % 256 = (c : Int) by omega, bs_strOfNums]
   · simp
   · intro x hx
     simp at hx
     omega
 by_cases h2 : c < 2048
 · rw [if_neg h1, if_pos h2]
   refine ⟨_, Ev.congr (fun k => by simp only [rf01_One.f]; rw [if_neg (by omega), if_pos (by omega)]) (t0.bind (Ev.now _)), ?_⟩
   rw [show (wrap64 (192 + (wrap64 (Int.tdiv (c : Int) 64)))) % 256 = ((192 + c / 64 : Nat) : Int) by
    rw [show Int.tdiv (c : Int) 64 = ((c / 64 : Nat) : Int) from rfl, w64 (n := ((c / 64 : Nat) : Int)) (by omega) (by omega), w64 (by omega) (by omega)]; omega]
   exact bs_str2 _ _ (by omega) (by omega)
 by_cases h3 : c < 65536
 · rw [if_neg h1, if_neg h2, if_pos h3]
   refine ⟨strOfNums [(wrap64 (224 + (wrap64 (Int.tdiv (c : Int) 4096)))) % 256, ((128 + c / 64 % 64 : Nat) : Int), ((128 + c % 64 : Nat) : Int)], ?_, ?_⟩
   · refine Ev.congr (fun k => by simp only [rf01_One.f]; rw [if_neg (by omega), if_neg (by omega), if_pos (by omega)]) ?_
     refine t1.bind ?_
     refine t0.bind ?_
     exact Ev.now _
   rw [show (wrap64 (224 + (wrap64 (Int.tdiv (c : Int) 4096)))) % 256 = ((224 + c / 4096 : Nat) : Int) by
    rw [show Int.tdiv (c : Int) 4096 = ((c / 4096 : Nat) : Int) from rfl, w64 (n := ((c / 4096 : Nat) : Int)) (by omega) (by omega), w64 (by omega) (by omega)]; omega]
   exact bs_str3 _ _ _ (by omega) (by omega) (by omega)
 · rw [if_neg h1, if_neg h2, if_neg h3]
   refine ⟨strOfNums [(wrap64 (240 + (wrap64 (Int.tdiv (c : Int) 262144)))) % 256, ((128 + c / 4096 % 64 : Nat) : Int), ((128 + c / 64 % 64 : Nat) : Int), ((128 + c % 64 : Nat) : Int)], ?_, ?_⟩
   · refine Ev.congr (fun k => by simp only [rf01_One.f]; rw [if_neg (by omega), if_neg (by omega), if_neg (by omega)]) ?_
     refine t2.bind ?_
     refine t1.bind ?_
     refine t0.bind ?_
     exact Ev.now _
   rw [show (wrap64 (240 + (wrap64 (Int.tdiv (c : Int) 262144)))) % 256 = ((240 + c / 262144 : Nat) : Int) by
    rw [show Int.tdiv (c : Int) 262144 = ((c / 262144 : Nat) : Int) from rfl, w64 (n := ((c / 262144 : Nat) : Int)) (by omega) (by omega), w64 (by omega) (by omega)]; omega]
   exact bs_str4 _ _ _ _ (by omega) (by omega) (by omega) (by omega)
def nextC (i c b : Nat) : Nat := if i = 1 then (if b ≥ 240 then b - 240 else if b ≥ 224 then b - 224 else if b ≥ 192 then b - 192 else b) else 64 * c + b % 64
def firstL (l : List Nat) : Nat → Nat → Nat → Nat × Nat
 | 0, _, _ => (0, 0)
 | d + 1, i, c => match l[i - 1]? with
  | none => (0, 0)
  | some b => if (nextC i c b ≤ 1114111 ∧ (nextC i c b < 55296 ∨ 57343 < nextC i c b)) ∧ oneN (nextC i c b) = l.take i then (nextC i c b, i) else firstL l d (i + 1) (nextC i c b)
theorem ref_first_at (s : ByteArray) (c i : Nat) (hi : 1 ≤ i) (hi4 : i ≤ 4) (hs : i ≤ s.size) (R : Nat × Nat)
 (h : ¬ ((c ≤ 1114111 ∧ (c < 55296 ∨ 57343 < c)) ∧ oneN c = (bs s).take i) → Ev (fun k => rf01_First.l0 k s (c : Int) ((i + 1 : Nat) : Int)) ((R.1 : Int), (R.2 : Int))) :
 Ev (fun k => rf01_First.j3 k s (c : Int) (i : Int)) (if (c ≤ 1114111 ∧ (c < 55296 ∨ 57343 < c)) ∧ oneN c = (bs s).take i then ((c : Int), (i : Int)) else ((R.1 : Int), (R.2 : Int))) := by
 have ew : wrap64 ((i : Int) + 1) = ((i + 1 : Nat) : Int) := by rw [w64 (by omega) (by omega)]; omega
 refine Ev.step (f := _) (fun k => by simp only [rf01_First.j3]; rw [ref_mayU, ew]) ?_
 simp only [Option.bind_some]
 by_cases h1 : c ≤ 1114111 ∧ (c < 55296 ∨ 57343 < c)
 · rw [decide_eq_true h1]
   refine Ev.pos rfl ?_
   obtain ⟨t, ht, hb⟩ := ref_one c h1.1
   refine ht.bind (Ev.pos (by omega) (Ev.pos (by omega) ?_))
   have hu : bs (s.extract 0 (i : Int).toNat) = (bs s).take i := by rw [Int.toNat_natCast, bs_upto]
   by_cases h2 : oneN c = (bs s).take i
   · rw [if_pos ⟨h1, h2⟩]
     exact Ev.pos (by rw [toList_bs, hb, hu, h2]) (Ev.now _)
   · have h3 := h fun g => h2 g.2
     rw [if_neg fun g => h2 g.2]
     exact Ev.neg (by rw [toList_bs, hb, hu]; exact h2) h3
 · have h3 := h fun g => h1 g.1
   rw [decide_eq_false h1, if_neg fun g => h1 g.1]
   exact Ev.neg (by simp) h3
theorem ref_first_j2 (s : ByteArray) (b c : Nat) (hb : b < 256) (R : Int × Int) (h : Ev (fun k => rf01_First.j3 k s ((nextC 1 c b : Nat) : Int) ((1 : Nat) : Int)) R) :
 Ev (fun k => if (b : Int) ≥ 192 then (rf01_First.j2 k s (wrap64 ((b : Int) - 192)) ((1 : Nat) : Int) (b : Int)) else (rf01_First.j2 k s (b : Int) ((1 : Nat) : Int) (b : Int))) R := by
 have en : nextC 1 c b = if b ≥ 240 then b - 240 else if b ≥ 224 then b - 224 else if b ≥ 192 then b - 192 else b := by unfold nextC; rw [if_pos rfl]
 by_cases a2 : b ≥ 240
 · rw [if_pos a2] at en
   refine Ev.pos (by omega) (Ev.step (f := fun k => rf01_First.j3 k s ((nextC 1 c b : Nat) : Int) ((1 : Nat) : Int)) (fun k => ?_) h)
   simp only [rf01_First.j2]
   rw [if_pos (by omega), if_pos (by omega), w64 (n := (b : Int) - 240) (by omega) (by omega), en, show (b : Int) - 240 = ((b - 240 : Nat) : Int) by omega]
 rw [if_neg a2] at en
 by_cases a3 : b ≥ 224
 · rw [if_pos a3] at en
   refine Ev.pos (by omega) (Ev.step (f := fun k => rf01_First.j3 k s ((nextC 1 c b : Nat) : Int) ((1 : Nat) : Int)) (fun k => ?_) h)
   simp only [rf01_First.j2]
   rw [if_pos (by omega), if_neg (by omega), w64 (n := (b : Int) - 224) (by omega) (by omega), en, show (b : Int) - 224 = ((b - 224 : Nat) : Int) by omega]
 rw [if_neg a3] at en
 by_cases a1 : b ≥ 192
 · rw [if_pos a1] at en
   refine Ev.pos (by omega) (Ev.step (f := fun k => rf01_First.j3 k s ((nextC 1 c b : Nat) : Int) ((1 : Nat) : Int)) (fun k => ?_) h)
   simp only [rf01_First.j2]
   rw [if_neg (by omega), if_neg (by omega), w64 (n := (b : Int) - 192) (by omega) (by omega), en, show (b : Int) - 192 = ((b - 192 : Nat) : Int) by omega]
 rw [if_neg a1] at en
 refine Ev.neg (by omega) (Ev.step (f := fun k => rf01_First.j3 k s ((nextC 1 c b : Nat) : Int) ((1 : Nat) : Int)) (fun k => ?_) h)
 simp only [rf01_First.j2]
 rw [if_neg (by omega), if_neg (by omega), en]
theorem next_wrap {i b c : Nat} (hb : b < 256) (hc : c ≤ 6000000000) (g : ¬ i = 1) : wrap64 ((wrap64 (64 * (c : Int))) + (Int.tmod (b : Int) 64)) = ((nextC i c b : Nat) : Int) := by
 unfold nextC
 rw [if_neg g, show Int.tmod (b : Int) 64 = ((b % 64 : Nat) : Int) from rfl, w64 (n := 64 * (c : Int)) (by omega) (by omega), w64 (by omega) (by omega)]
 omega
theorem ref_first_from (s : ByteArray) (hs : s.size ≤ 1099511627776) : ∀ (d i c : Nat), i + d = 5 → 1 ≤ i → c + 1 ≤ 64 ^ i * 300 → Ev (fun k => rf01_First.l0 k s (c : Int) (i : Int)) (((firstL (bs s) d i c).1 : Int), ((firstL (bs s) d i c).2 : Int))
 | 0, i, c, hi, h1, hc => by
  obtain rfl : i = 5 := by omega
  refine Ev.step (f := fun k => rf01_First.j1 k s (c : Int) ((5 : Nat) : Int) false) (fun k => by simp only [rf01_First.l0]; rw [if_neg (by omega)]) ?_
  exact Ev.step (f := fun _ => some (0, 0)) (fun k => by simp only [rf01_First.j1]; rw [if_neg (by simp)]) (Ev.now _)
 | d + 1, i, c, hi, h1, hc => by
  by_cases h : i ≤ s.size
  · obtain ⟨b, hb, hbt, hd⟩ := bs_get s (i - 1) (by omega)
    have hget : (bs s)[i - 1]? = some b := by
     rw [← List.head?_drop, hd]
     rfl
    have hp : 64 ^ (i + 1) = 64 * 64 ^ i := by rw [Nat.pow_succ, Nat.mul_comm]
    have hp2 : 64 ^ i ≤ 16777216 := Nat.le_trans (Nat.pow_le_pow_right (by decide) (show i ≤ 4 by omega)) (by decide)
    have hp4 : 1 ≤ 64 ^ i := Nat.pos_of_ne_zero (by simp)
    have hn1 : nextC i c b + 1 ≤ 64 ^ (i + 1) * 300 := by
     unfold nextC
     rw [hp]
     generalize 64 ^ i = p at *
     repeat' split
     all_goals omega
    have hcb : c ≤ 6000000000 := by
     have h300 := Nat.mul_le_mul_right 300 hp2
     exact Nat.le_trans (Nat.le_of_succ_le hc) (Nat.le_trans h300 (by decide))
    clear hp hp2 hp4 hc
    have ih := ref_first_from s hs d (i + 1) (nextC i c b) (by omega) (by omega) hn1
    clear hn1
    have ew : wrap64 ((i : Int) - 1) = ((i - 1 : Nat) : Int) := by rw [w64 (by omega) (by omega)]; omega
    have ewb : wrap64 (b : Int) = (b : Int) := w64 (by omega) (by omega)
    have hres : firstL (bs s) (d + 1) i c = if (nextC i c b ≤ 1114111 ∧ (nextC i c b < 55296 ∨ 57343 < nextC i c b)) ∧ oneN (nextC i c b) = (bs s).take i then (nextC i c b, i) else firstL (bs s) d (i + 1) (nextC i c b) := by
     simp only [firstL]
     rw [hget]
    rw [hres]
    have hj := ref_first_at s (nextC i c b) i h1 (by omega) h (firstL (bs s) d (i + 1) (nextC i c b)) fun _ => ih
    refine Ev.step (f := fun k => rf01_First.j1 k s (c : Int) (i : Int) true) (fun k => ?_) (Ev.step (f := fun k => if (i : Int) = 1 then (if (b : Int) ≥ 192 then (rf01_First.j2 k s (wrap64 ((b : Int) - 192)) (i : Int) (b : Int)) else (rf01_First.j2 k s (b : Int) (i : Int) (b : Int))) else (rf01_First.j3 k s (wrap64 ((wrap64 (64 * (c : Int))) + (Int.tmod (b : Int) 64))) (i : Int))) (fun k => ?_) ?_)
    · simp only [rf01_First.l0]
      rw [if_pos (by omega), decide_eq_true (by omega)]
    · simp only [rf01_First.j1]
      rw [if_pos trivial, ew, if_pos (by omega), if_pos (by omega), hbt, ewb]
    · have e : (if (nextC i c b ≤ 1114111 ∧ (nextC i c b < 55296 ∨ 57343 < nextC i c b)) ∧ oneN (nextC i c b) = (bs s).take i then (((nextC i c b : Nat) : Int), (i : Int)) else (((firstL (bs s) d (i + 1) (nextC i c b)).1 : Int), ((firstL (bs s) d (i + 1) (nextC i c b)).2 : Int))) =
       (((if (nextC i c b ≤ 1114111 ∧ (nextC i c b < 55296 ∨ 57343 < nextC i c b)) ∧ oneN (nextC i c b) = (bs s).take i then (nextC i c b, i) else firstL (bs s) d (i + 1) (nextC i c b)).1 : Int), ((if (nextC i c b ≤ 1114111 ∧ (nextC i c b < 55296 ∨ 57343 < nextC i c b)) ∧ oneN (nextC i c b) = (bs s).take i then (nextC i c b, i) else firstL (bs s) d (i + 1) (nextC i c b)).2 : Int)) := by split <;> rfl
      rw [e] at hj
      by_cases g : i = 1
      · refine Ev.pos (by omega) ?_
        rw [g] at hj ⊢
        exact ref_first_j2 s b c hb _ hj
      · refine Ev.neg (by omega) ?_
        have e2 := next_wrap (i := i) hb hcb g
        rw [e2]
        exact hj
  · refine Ev.step (f := fun k => rf01_First.j1 k s (c : Int) (i : Int) false) (fun k => ?_) ?_
    · simp only [rf01_First.l0]
      rw [if_pos (by omega), decide_eq_false (by omega)]
    · have hget : (bs s)[i - 1]? = none := List.getElem?_eq_none (by rw [bs_length]; omega)
      have hres : firstL (bs s) (d + 1) i c = (0, 0) := by
       simp only [firstL]
       rw [hget]
      rw [hres]
      exact Ev.step (f := fun _ => some (0, 0)) (fun k => by simp only [rf01_First.j1]; rw [if_neg (by simp)]) (Ev.now _)
def adj (b : Nat) : Nat := if b ≥ 240 then b - 240 else if b ≥ 224 then b - 224 else if b ≥ 192 then b - 192 else b
def MayU (c : Nat) : Prop := c ≤ 1114111 ∧ (c < 55296 ∨ 57343 < c)
theorem oneN1 (c a : Nat) : oneN c = [a] ↔ c < 128 ∧ a = c := by
 unfold oneN
 repeat' split
 all_goals (simp only [List.cons.injEq, and_true, reduceCtorEq, and_false, false_iff]; omega)
theorem oneN2 (c a b : Nat) : oneN c = [a, b] ↔ 128 ≤ c ∧ c < 2048 ∧ a = 192 + c / 64 ∧ b = 128 + c % 64 := by
 unfold oneN
 repeat' split
 all_goals (simp only [List.cons.injEq, and_true, reduceCtorEq, and_false, false_iff]; omega)
theorem oneN3 (c a b d : Nat) : oneN c = [a, b, d] ↔ 2048 ≤ c ∧ c < 65536 ∧ a = 224 + c / 4096 ∧ b = 128 + c / 64 % 64 ∧ d = 128 + c % 64 := by
 unfold oneN
 repeat' split
 all_goals (simp only [List.cons.injEq, and_true, reduceCtorEq, and_false, false_iff]; omega)
theorem oneN4 (c a b d e : Nat) : oneN c = [a, b, d, e] ↔ 65536 ≤ c ∧ a = 240 + c / 262144 ∧ b = 128 + c / 4096 % 64 ∧ d = 128 + c / 64 % 64 ∧ e = 128 + c % 64 := by
 unfold oneN
 repeat' split
 all_goals (simp only [List.cons.injEq, and_true, reduceCtorEq, and_false, false_iff]; omega)
theorem adj_cases (b : Nat) : (240 ≤ b ∧ adj b = b - 240) ∨ (224 ≤ b ∧ b < 240 ∧ adj b = b - 224) ∨ (192 ≤ b ∧ b < 224 ∧ adj b = b - 192) ∨ (b < 192 ∧ adj b = b) := by
 unfold adj
 repeat' split
 all_goals omega
theorem one1 (b0 : Nat) (h0 : b0 < 256) : (MayU (adj b0) ∧ oneN (adj b0) = [b0]) ↔ b0 < 128 := by
 have ha := adj_cases b0
 unfold MayU
 rw [oneN1]
 omega
theorem one2 (b0 b1 : Nat) (h0 : b0 < 256) (h1 : b1 < 256) (hb : 128 ≤ b0) : (MayU (64 * adj b0 + b1 % 64) ∧ oneN (64 * adj b0 + b1 % 64) = [b0, b1]) ↔ (b0 / 32 = 6 ∧ b1 / 64 = 2 ∧ 128 ≤ b0 % 32 * 64 + b1 % 64) := by
 have ha := adj_cases b0
 unfold MayU
 rw [oneN2]
 rcases ha with ha | ha | ha | ha <;> omega
theorem one3 (b0 b1 b2 : Nat) (h0 : b0 < 256) (h1 : b1 < 256) (h2 : b2 < 256) (hb : 128 ≤ b0) : (MayU (64 * (64 * adj b0 + b1 % 64) + b2 % 64) ∧ oneN (64 * (64 * adj b0 + b1 % 64) + b2 % 64) = [b0, b1, b2]) ↔
 (b0 / 16 = 14 ∧ b1 / 64 = 2 ∧ b2 / 64 = 2 ∧ 2048 ≤ b0 % 16 * 4096 + b1 % 64 * 64 + b2 % 64 ∧ MayU (b0 % 16 * 4096 + b1 % 64 * 64 + b2 % 64)) := by
 have ha := adj_cases b0
 unfold MayU
 rw [oneN3]
 rcases ha with ha | ha | ha | ha
 · constructor
   · omega
   · omega
 · have e : 64 * (64 * adj b0 + b1 % 64) + b2 % 64 = b0 % 16 * 4096 + b1 % 64 * 64 + b2 % 64 := by omega
   rw [e]
   constructor
   · intro h
     refine ⟨by omega, by omega, by omega, h.2.1, h.1⟩
   · intro h
     refine ⟨h.2.2.2.2, h.2.2.2.1, by omega, by omega, by omega, by omega⟩
 · constructor
   · omega
   · omega
 · constructor
   · omega
   · omega
theorem one4 (b0 b1 b2 b3 : Nat) (h0 : b0 < 256) (h1 : b1 < 256) (h2 : b2 < 256) (h3 : b3 < 256) (hb : 128 ≤ b0) : (MayU (64 * (64 * (64 * adj b0 + b1 % 64) + b2 % 64) + b3 % 64) ∧ oneN (64 * (64 * (64 * adj b0 + b1 % 64) + b2 % 64) + b3 % 64) = [b0, b1, b2, b3]) ↔
 (b0 / 8 = 30 ∧ b1 / 64 = 2 ∧ b2 / 64 = 2 ∧ b3 / 64 = 2 ∧ 65536 ≤ b0 % 8 * 262144 + b1 % 64 * 4096 + b2 % 64 * 64 + b3 % 64 ∧ MayU (b0 % 8 * 262144 + b1 % 64 * 4096 + b2 % 64 * 64 + b3 % 64)) := by
 have ha := adj_cases b0
 unfold MayU
 rw [oneN4]
 rcases ha with ha | ha | ha | ha
 · by_cases h8 : b0 / 8 = 30
   · have e : 64 * (64 * (64 * adj b0 + b1 % 64) + b2 % 64) + b3 % 64 = b0 % 8 * 262144 + b1 % 64 * 4096 + b2 % 64 * 64 + b3 % 64 := by omega
     rw [e]
     constructor
     · intro h
       refine ⟨by omega, by omega, by omega, by omega, h.2.1, h.1⟩
     · intro h
       refine ⟨h.2.2.2.2.2, h.2.2.2.2.1, by omega, by omega, by omega, by omega⟩
   · constructor
     · intro h
       have a := h.1.1
       clear h
       omega
     · intro h
       exact absurd h.1 h8
 all_goals
  constructor
  · intro h
    have a := h.2.2.1
    clear h
    generalize (64 * (64 * (64 * adj b0 + b1 % 64) + b2 % 64) + b3 % 64) / 262144 = X at a
    omega
  · intro h
    have a := h.1
    clear h
    omega
theorem mayC_mayU {c : Nat} (h : MayC c) : MayU c := by
 unfold MayC at h
 unfold MayU
 omega
def ucsOf (p : Nat × Nat) : Nat := if p.2 = 0 then 0 else if MayC p.1 then p.2 else 0
theorem ucsOf_pos {c n : Nat} (hn : n ≠ 0) : ucsOf (c, n) = if MayC c then n else 0 := by simp only [ucsOf]; rw [if_neg hn]
theorem firstL_none {l : List Nat} {d i c : Nat} (h : l[i - 1]? = none) : firstL l d i c = (0, 0) := by
 cases d with
 | zero => rfl
 | succ d =>
  simp only [firstL]
  rw [h]
instance (c : Nat) : Decidable (MayU c) := by unfold MayU; exact inferInstance
theorem firstL_some {l : List Nat} {d i c b : Nat} (h : l[i - 1]? = some b) : firstL l (d + 1) i c = if MayU (nextC i c b) ∧ oneN (nextC i c b) = l.take i then (nextC i c b, i) else firstL l d (i + 1) (nextC i c b) := by
 simp only [firstL]
 rw [h]
 rfl
theorem firstL_ucs (l : List Nat) (hl : ∀ b ∈ l, b < 256) : ucsOf (firstL l 4 1 0) = ucsAt l := by
 match l, hl with
 | [], _ => rfl
 | b0 :: r, hl =>
  have h0 := hl b0 (by simp)
  have n1 : nextC 1 0 b0 = adj b0 := rfl
  rw [firstL_some (i := 1) (b := b0) rfl, n1, List.take_succ_cons, List.take_zero]
  by_cases c1 : b0 < 128
  · rw [if_pos ((one1 b0 h0).2 c1), ucsOf_pos (by omega), ucsAt_low _ _ (by omega), if_neg]
    unfold MayC adj
    rw [if_neg (by omega), if_neg (by omega), if_neg (by omega)]
    omega
  rw [if_neg fun g => c1 ((one1 b0 h0).1 g)]
  match r, hl with
  | [], _ =>
   rw [firstL_none rfl]
   rfl
  | b1 :: r, hl =>
   have h1 := hl b1 (by simp)
   have n2 : nextC 2 (adj b0) b1 = 64 * adj b0 + b1 % 64 := rfl
   rw [firstL_some (i := 2) (b := b1) rfl, n2, List.take_succ_cons, List.take_succ_cons, List.take_zero]
   by_cases c2 : b0 / 32 = 6 ∧ b1 / 64 = 2 ∧ 128 ≤ b0 % 32 * 64 + b1 % 64
   · rw [if_pos ((one2 b0 b1 h0 h1 (by omega)).2 c2), ucsOf_pos (by omega)]
     have e : 64 * adj b0 + b1 % 64 = b0 % 32 * 64 + b1 % 64 := by
      unfold adj
      rw [if_neg (by omega), if_neg (by omega), if_pos (by omega)]
      omega
     rw [e]
     simp only [ucsAt]
     rw [if_pos c2.1]
     by_cases hm : MayC (b0 % 32 * 64 + b1 % 64)
     · rw [if_pos hm, if_pos ⟨c2.2.1, c2.2.2, hm⟩]
     · rw [if_neg hm, if_neg fun g => hm g.2.2]
   rw [if_neg fun g => c2 ((one2 b0 b1 h0 h1 (by omega)).1 g)]
   match r, hl with
   | [], _ =>
    rw [firstL_none rfl]
    simp only [ucsAt]
    by_cases h6 : b0 / 32 = 6
    · rw [if_pos h6, if_neg fun g => c2 ⟨h6, g.1, g.2.1⟩]
      rfl
    · rw [if_neg h6]
      rfl
   | b2 :: r, hl =>
    have h2 := hl b2 (by simp)
    have n3 : nextC 3 (64 * adj b0 + b1 % 64) b2 = 64 * (64 * adj b0 + b1 % 64) + b2 % 64 := rfl
    rw [firstL_some (i := 3) (b := b2) rfl, n3, List.take_succ_cons, List.take_succ_cons, List.take_succ_cons, List.take_zero]
    have hu2 : b0 / 32 = 6 → ucsAt (b0 :: b1 :: b2 :: r) = 0 := by
     intro h6
     simp only [ucsAt]
     rw [if_pos h6, if_neg fun g => c2 ⟨h6, g.1, g.2.1⟩]
    by_cases c3 : b0 / 16 = 14 ∧ b1 / 64 = 2 ∧ b2 / 64 = 2 ∧ 2048 ≤ b0 % 16 * 4096 + b1 % 64 * 64 + b2 % 64 ∧ MayU (b0 % 16 * 4096 + b1 % 64 * 64 + b2 % 64)
    · have c31 := c3.1
      rw [if_pos ((one3 b0 b1 b2 h0 h1 h2 (by omega)).2 c3), ucsOf_pos (by omega)]
      have e : 64 * (64 * adj b0 + b1 % 64) + b2 % 64 = b0 % 16 * 4096 + b1 % 64 * 64 + b2 % 64 := by
       unfold adj
       rw [if_neg (by omega), if_pos (by omega)]
       omega
      rw [e]
      by_cases hm : MayC (b0 % 16 * 4096 + b1 % 64 * 64 + b2 % 64)
      · rw [if_pos hm]
        simp only [ucsAt]
        rw [if_neg (by omega), if_pos c3.1, if_pos ⟨c3.2.1, c3.2.2.1, c3.2.2.2.1, hm⟩]
      · rw [if_neg hm]
        simp only [ucsAt]
        rw [if_neg (by omega), if_pos c3.1, if_neg fun g => hm g.2.2.2]
    rw [if_neg fun g => c3 ((one3 b0 b1 b2 h0 h1 h2 (by omega)).1 g)]
    have hu3 : b0 / 16 = 14 → ucsAt (b0 :: b1 :: b2 :: r) = 0 := by
     intro h6
     simp only [ucsAt]
     rw [if_neg (by omega), if_pos h6, if_neg fun g => c3 ⟨h6, g.1, g.2.1, g.2.2.1, mayC_mayU g.2.2.2⟩]
    match r, hl, hu2, hu3 with
    | [], _, hu2, hu3 =>
     rw [firstL_none rfl]
     by_cases h6 : b0 / 32 = 6
     · rw [hu2 h6]
       rfl
     by_cases h7 : b0 / 16 = 14
     · rw [hu3 h7]
       rfl
     · simp only [ucsAt]
       rw [if_neg h6, if_neg h7]
       rfl
    | b3 :: r, hl, hu2, hu3 =>
     have h3 := hl b3 (by simp)
     have n4 : nextC 4 (64 * (64 * adj b0 + b1 % 64) + b2 % 64) b3 = 64 * (64 * (64 * adj b0 + b1 % 64) + b2 % 64) + b3 % 64 := rfl
     rw [firstL_some (i := 4) (b := b3) rfl, n4, List.take_succ_cons, List.take_succ_cons, List.take_succ_cons, List.take_succ_cons, List.take_zero]
     by_cases c4 : b0 / 8 = 30 ∧ b1 / 64 = 2 ∧ b2 / 64 = 2 ∧ b3 / 64 = 2 ∧ 65536 ≤ b0 % 8 * 262144 + b1 % 64 * 4096 + b2 % 64 * 64 + b3 % 64 ∧ MayU (b0 % 8 * 262144 + b1 % 64 * 4096 + b2 % 64 * 64 + b3 % 64)
     · have c41 := c4.1
       rw [if_pos ((one4 b0 b1 b2 b3 h0 h1 h2 h3 (by omega)).2 c4), ucsOf_pos (by omega)]
       have e : 64 * (64 * (64 * adj b0 + b1 % 64) + b2 % 64) + b3 % 64 = b0 % 8 * 262144 + b1 % 64 * 4096 + b2 % 64 * 64 + b3 % 64 := by
        unfold adj
        rw [if_pos (by omega)]
        omega
       rw [e]
       by_cases hm : MayC (b0 % 8 * 262144 + b1 % 64 * 4096 + b2 % 64 * 64 + b3 % 64)
       · rw [if_pos hm]
         simp only [ucsAt]
         rw [if_neg (by omega), if_neg (by omega), if_pos c4.1, if_pos ⟨c4.2.1, c4.2.2.1, c4.2.2.2.1, c4.2.2.2.2.1, hm⟩]
       · rw [if_neg hm]
         simp only [ucsAt]
         rw [if_neg (by omega), if_neg (by omega), if_pos c4.1, if_neg fun g => hm g.2.2.2.2]
     · rw [if_neg fun g => c4 ((one4 b0 b1 b2 b3 h0 h1 h2 h3 (by omega)).1 g)]
       by_cases h6 : b0 / 32 = 6
       · rw [hu2 h6]
         rfl
       by_cases h7 : b0 / 16 = 14
       · rw [hu3 h7]
         rfl
       · simp only [ucsAt]
         rw [if_neg h6, if_neg h7]
         by_cases h8 : b0 / 8 = 30
         · rw [if_pos h8, if_neg fun g => c4 ⟨h8, g.1, g.2.1, g.2.2.1, g.2.2.2.1, mayC_mayU g.2.2.2.2⟩]
           rfl
         · rw [if_neg h8]
           rfl
theorem ref_take (s : ByteArray) (hs : s.size ≤ 1099511627776) : ∃ c : Int, Ev (fun k => rf04_Take.f k s) (c, (ucsAt (bs s) : Int)) := by
 have h1 := ref_first_from s hs 4 1 0 (by omega) (by omega) (by omega)
 have h2 := firstL_ucs (bs s) (bs_lt s)
 unfold ucsOf at h2
 by_cases h : (firstL (bs s) 4 1 0).2 = 0
 · rw [if_pos h] at h2
   rw [← h2]
   exact ⟨0, h1.bind (Ev.pos (by omega) (Ev.now _))⟩
 · rw [if_neg h] at h2
   by_cases h3 : MayC (firstL (bs s) 4 1 0).1
   · rw [if_pos h3] at h2
     rw [← h2]
     refine ⟨((firstL (bs s) 4 1 0).1 : Int), h1.bind (Ev.neg (by omega) ?_)⟩
     simp only [ref_may4, decide_eq_true h3, Option.bind_some, if_true]
     exact Ev.now _
   · rw [if_neg h3] at h2
     rw [← h2]
     refine ⟨0, h1.bind (Ev.neg (by omega) ?_)⟩
     simp only [ref_may4, decide_eq_false h3, Option.bind_some, Bool.false_eq_true, if_false]
     exact Ev.now _
theorem ref_piece (s : ByteArray) (hs : s.size ≤ 1099511627776) : Ev (fun k => rf07_Piece.f k s) (pieceN (bs s) : Int) := by
 unfold rf07_Piece.f
 rcases bs_cases s with ⟨-, h2, h3⟩ | ⟨b, r, hb, h2, h3, h4, h5, h6, h7⟩
 · rw [h2]
   exact Ev.pos h3 (Ev.now _)
 · have hp : pieceN (bs s) = if isLit b = true then 1 else if trip (bs s) = true then 3 else ucsAt (bs s) := by rw [h2]; rfl
   refine Ev.neg h6 (Ev.pos (by omega) ?_)
   rw [h3, hp]
   refine (ref_lit hb).bind ?_
   by_cases hl : isLit b = true
   · rw [if_pos hl]
     exact Ev.pos hl (Ev.now _)
   rw [if_neg hl]
   refine Ev.neg hl ?_
   rw [ref_trip]
   simp only [Option.bind_some]
   by_cases ht : trip (bs s) = true
   · rw [if_pos ht]
     exact Ev.pos ht (Ev.now _)
   rw [if_neg ht]
   refine Ev.neg ht ?_
   obtain ⟨c, hc⟩ := ref_take s hs
   exact hc.bind (Ev.now _)
theorem mt_next {lo hi : Nat} (h : ¬ MayC lo) : mt lo hi = mt (lo + 1) hi := by
 rw [Bool.eq_iff_iff, mt_iff, mt_iff]
 constructor
 · rintro ⟨c, h1, h2, h3⟩
   refine ⟨c, ?_, h2, h3⟩
   by_cases e : c = lo
   · subst e
     exact absurd h3 h
   · omega
 · rintro ⟨c, h1, h2, h3⟩
   exact ⟨c, by omega, h2, h3⟩
theorem mt_empty {lo hi : Nat} (h : hi < lo) : mt lo hi = false := by
 unfold mt
 rw [decide_eq_false (by omega), Bool.false_and]
theorem mt_min {lo hi : Nat} : mt lo (min hi 1114111) = mt lo hi := by
 rw [Bool.eq_iff_iff, mt_iff, mt_iff]
 constructor
 · rintro ⟨c, h1, h2, h3⟩
   exact ⟨c, h1, by omega, h3⟩
 · rintro ⟨c, h1, h2, h3⟩
   refine ⟨c, h1, ?_, h3⟩
   have := mayC_mayU h3
   unfold MayU at this
   omega
theorem ref_some_from : ∀ (d lo hi : Nat), hi + 1 - lo ≤ d → hi ≤ 2000000 → Ev (fun k => rf04_some.l0 k (hi : Int) (lo : Int)) (mt lo hi)
 | 0, lo, hi, hd, hh => by
  rw [mt_empty (by omega)]
  exact Ev.step (f := fun _ => some false) (fun k => by simp only [rf04_some.l0]; rw [if_neg (by omega)]) (Ev.now _)
 | d + 1, lo, hi, hd, hh => by
  by_cases h : lo ≤ hi
  · have ih := ref_some_from d (lo + 1) hi (by omega) hh
    refine Ev.step (f := fun k => if MayC lo then some true else rf04_some.l0 k (hi : Int) ((lo + 1 : Nat) : Int)) (fun k => ?_) ?_
    · simp only [rf04_some.l0]
      rw [if_pos (by omega), ref_may4]
      simp only [Option.bind_some, decide_eq_true_eq]
      rw [w64 (by omega) (by omega)]
      rfl
    · by_cases hm : MayC lo
      · rw [mt_of hm (Nat.le_refl _) h]
        exact Ev.pos hm (Ev.now _)
      · rw [mt_next hm]
        exact Ev.neg hm ih
  · rw [mt_empty (by omega)]
    exact Ev.step (f := fun _ => some false) (fun k => by simp only [rf04_some.l0]; rw [if_neg (by omega)]) (Ev.now _)
theorem ref_some (lo hi : Nat) (h : hi ≤ 2000000) : Ev (fun k => rf04_some.f k (lo : Int) (hi : Int)) (mt lo hi) := ref_some_from _ lo hi (Nat.le_refl _) h
def leastN (n : Nat) : Nat := if n = 2 then 128 else if n = 3 then 2048 else 65536
def mostN (n : Nat) : Nat := if n = 2 then 2047 else if n = 3 then 65535 else 1114111
theorem fits_l1 (n : Nat) (hn : n = 2 ∨ n = 3 ∨ n = 4) : ∀ (j i c h : Nat), i + j = n → (h + 1) * 64 ^ j ≤ 2097152 → c ≤ h →
 Ev (fun k => rf04_Fits.l1 k (n : Int) [0, 0, 128, 2048, 65536] [0, 0, 2047, 65535, 1114111] (c : Int) (h : Int) (i : Int)) (mt (max (leastN n) (c * 64 ^ j)) (min ((h + 1) * 64 ^ j - 1) (mostN n)))
 | 0, i, c, h, hi, hh, hc => by
  rw [Nat.pow_zero, Nat.mul_one] at hh
  have e1 : mx (c : Int) (rd [0, 0, 128, 2048, 65536] (n : Int)) = ((max (leastN n) (c * 64 ^ 0) : Nat) : Int) := by
   rcases hn with rfl | rfl | rfl <;> simp [mx, rd, leastN] <;> split <;> omega
  have e2 : mn (h : Int) (rd [0, 0, 2047, 65535, 1114111] (n : Int)) = ((min ((h + 1) * 64 ^ 0 - 1) (mostN n) : Nat) : Int) := by
   rcases hn with rfl | rfl | rfl <;> simp [mn, rd, mostN] <;> split <;> omega
  refine Ev.step (f := fun k => (rf04_some.f k ((max (leastN n) (c * 64 ^ 0) : Nat) : Int) ((min ((h + 1) * 64 ^ 0 - 1) (mostN n) : Nat) : Int)).bind fun t => some t) (fun k => ?_) ?_
  · simp only [rf04_Fits.l1]
    rw [if_neg (by omega), if_pos (by omega), if_pos (by rcases hn with rfl | rfl | rfl <;> decide), if_pos (by rcases hn with rfl | rfl | rfl <;> decide), e1, e2]
  · refine (ref_some _ _ ?_).bind (Ev.now _)
    have : mostN n ≤ 1114111 := by rcases hn with rfl | rfl | rfl <;> decide
    omega
 | j + 1, i, c, h, hi, hh, hc => by
  have hq : (h + 1) * 64 ^ (j + 1) = (64 * h + 63 + 1) * 64 ^ j := by
   rw [Nat.pow_succ, Nat.mul_comm (64 ^ j) 64, ← Nat.mul_assoc]
   congr 1
   omega
  have hq2 : c * 64 ^ (j + 1) = (64 * c) * 64 ^ j := by
   rw [Nat.pow_succ, Nat.mul_comm (64 ^ j) 64, ← Nat.mul_assoc]
   congr 1
   omega
  rw [hq] at hh ⊢
  rw [hq2]
  have hh2 : h ≤ 2097152 := by
   have := Nat.le_mul_of_pos_right (64 * h + 63 + 1) (show 0 < 64 ^ j from Nat.pow_pos (by decide))
   omega
  have ih := fits_l1 n hn j (i + 1) (64 * c) (64 * h + 63) (by omega) hh (by omega)
  refine Ev.step (f := _) (fun k => ?_) ih
  simp only [rf04_Fits.l1]
  rw [if_pos (by omega), w64 (n := 64 * (c : Int)) (by omega) (by omega), w64 (n := 64 * (h : Int)) (by omega) (by omega), w64 (n := 64 * (h : Int) + 63) (by omega) (by omega), w64 (n := (i : Int) + 1) (by omega) (by omega)]
  rfl
def goOn (c : Nat) (l : List Nat) : Nat := l.foldl (fun a b => 64 * a + b - 128) c
def conts (l : List Nat) : Bool := l.all fun b => b / 64 == 2
theorem fits_l0 (s : ByteArray) (n : Nat) (hn : n = 2 ∨ n = 3 ∨ n = 4) (hs : s.size ≤ n) (h0 : 1 ≤ s.size) : ∀ (d i c : Nat), i + d = s.size → (c + 1) * 64 ^ (n - i) ≤ 2097152 →
 Ev (fun k => rf04_Fits.l0 k s (n : Int) [0, 0, 128, 2048, 65536] [0, 0, 2047, 65535, 1114111] (c : Int) (i : Int))
  (conts ((bs s).drop i) && mt (max (leastN n) (goOn c ((bs s).drop i) * 64 ^ (n - s.size))) (min ((goOn c ((bs s).drop i) + 1) * 64 ^ (n - s.size) - 1) (mostN n)))
 | 0, i, c, hi, hc => by
  have hi' : i = s.size := by omega
  rw [List.drop_eq_nil_of_le (by rw [bs_length]; omega)]
  have := fits_l1 n hn (n - s.size) s.size c c (by omega) (by rw [← hi']; exact hc) (Nat.le_refl _)
  refine Ev.step (f := _) (fun k => ?_) this
  simp only [rf04_Fits.l0]
  rw [if_neg (by omega)]
 | d + 1, i, c, hi, hc => by
  obtain ⟨b, hb, hbt, hd⟩ := bs_get s i (by omega)
  rw [hd]
  by_cases h2 : b / 64 = 2
  · have e : conts (b :: (bs s).drop (i + 1)) = conts ((bs s).drop (i + 1)) := by simp [conts, h2]
    have e2 : goOn c (b :: (bs s).drop (i + 1)) = goOn (64 * c + b - 128) ((bs s).drop (i + 1)) := by simp only [goOn, List.foldl]
    rw [e, e2]
    have hq : (c + 1) * 64 ^ (n - i) = (64 * c + 64) * 64 ^ (n - (i + 1)) := by
     rw [show n - i = (n - (i + 1)) + 1 by omega, Nat.pow_succ, Nat.mul_comm (64 ^ (n - (i + 1))) 64, ← Nat.mul_assoc]
     congr 1
     omega
    rw [hq] at hc
    have hc2 : c ≤ 2097152 := by
     have := Nat.le_mul_of_pos_right (64 * c + 64) (show 0 < 64 ^ (n - (i + 1)) from Nat.pow_pos (by decide))
     omega
    have ih := fits_l0 s n hn hs h0 d (i + 1) (64 * c + b - 128) (by omega) (Nat.le_trans (Nat.mul_le_mul_right _ (by omega)) hc)
    refine Ev.step (f := _) (fun k => ?_) ih
    simp only [rf04_Fits.l0]
    rw [if_pos (by omega), if_pos (by omega), hbt, if_neg (by omega), if_neg (by omega), w64 (n := 64 * (c : Int)) (by omega) (by omega), w64 (n := (b : Int)) (by omega) (by omega), w64 (n := 64 * (c : Int) + (b : Int)) (by omega) (by omega),
     w64 (n := 64 * (c : Int) + (b : Int) - 128) (by omega) (by omega), w64 (n := (i : Int) + 1) (by omega) (by omega), show 64 * (c : Int) + (b : Int) - 128 = ((64 * c + b - 128 : Nat) : Int) by omega]
    rfl
  · have e : conts (b :: (bs s).drop (i + 1)) = false := by simp [conts, h2]
    rw [e, Bool.false_and]
    refine Ev.step (f := fun _ => some false) (fun k => ?_) (Ev.now _)
    simp only [rf04_Fits.l0]
    rw [if_pos (by omega), if_pos (by omega), hbt]
    by_cases h3 : b < 128
    · rw [if_pos (by omega)]
    · rw [if_neg (by omega), if_pos (by omega)]
def sizeN (b : Nat) : Nat := if b < 192 then 0 else if b > 247 then 0 else if b < 224 then 2 else if b < 240 then 3 else 4
theorem ref_size (b : Nat) : Ev (fun k => rf04_size.f k (b : Int)) (sizeN b : Int) := by
 unfold rf04_size.f sizeN
 by_cases h1 : b < 192
 · rw [if_pos h1]
   refine Ev.pos (by omega) (Ev.step (f := fun _ => some 0) (fun k => by simp only [rf04_size.j0]; rw [if_pos trivial]) (Ev.now _))
 rw [if_neg h1]
 refine Ev.neg (by omega) ?_
 by_cases h2 : b > 247
 · rw [if_pos h2, decide_eq_true (show (b : Int) > 247 by omega)]
   exact Ev.step (f := fun _ => some 0) (fun k => by simp only [rf04_size.j0]; rw [if_pos trivial]) (Ev.now _)
 rw [if_neg h2, decide_eq_false (show ¬ (b : Int) > 247 by omega)]
 by_cases h3 : b < 224
 · rw [if_pos h3]
   exact Ev.step (f := fun _ => some 2) (fun k => by simp only [rf04_size.j0]; rw [if_neg (by simp), if_pos (by omega)]) (Ev.now _)
 rw [if_neg h3]
 by_cases h4 : b < 240
 · rw [if_pos h4]
   exact Ev.step (f := fun _ => some 3) (fun k => by simp only [rf04_size.j0]; rw [if_neg (by simp), if_neg (by omega), if_pos (by omega)]) (Ev.now _)
 rw [if_neg h4]
 exact Ev.step (f := fun _ => some 4) (fun k => by simp only [rf04_size.j0]; rw [if_neg (by simp), if_neg (by omega), if_neg (by omega)]) (Ev.now _)
def leadN (b : Nat) : Nat := if b < 224 then b - 192 else if b < 240 then b - 224 else b - 240
theorem ref_fits_body (s : ByteArray) {b : Nat} {r : List Nat} (hb : b < 256) (h : bs s = b :: r) (hbt : bt s 0 = (b : Int)) (h4 : 0 < s.size) (n : Nat) (hn : n = sizeN b) (hn0 : n ≠ 0) (hl : s.size ≤ n) :
 Ev (fun k => rf04_Fits.j0 k s (n : Int) false) (conts r && mt (max (leastN n) (goOn (leadN b) r * 64 ^ (n - s.size))) (min ((goOn (leadN b) r + 1) * 64 ^ (n - s.size) - 1) (mostN n))) := by
 have hcase : (n = 2 ∧ 192 ≤ b ∧ b < 224) ∨ (n = 3 ∧ 224 ≤ b ∧ b < 240) ∨ (n = 4 ∧ 240 ≤ b ∧ b ≤ 247) := by
  unfold sizeN at hn
  repeat' split at hn
  all_goals omega
 have hnn : n = 2 ∨ n = 3 ∨ n = 4 := by omega
 have h0 := fits_l0 s n hnn hl h4 (s.size - 1) 1 (leadN b) (by omega) (by
  unfold leadN
  rcases hcase with ⟨rfl, h1, h2⟩ | ⟨rfl, h1, h2⟩ | ⟨rfl, h1, h2⟩
  · rw [if_pos h2]
    omega
  · rw [if_neg (by omega), if_pos h2]
    omega
  · rw [if_neg (by omega), if_neg (by omega)]
    omega)
 have hd : (bs s).drop 1 = r := by rw [h]; rfl
 rw [hd] at h0
 have hj2 : Ev (fun k => rf04_Fits.j2 k s (n : Int) [0, 0, 128, 2048, 65536] [0, 0, 2047, 65535, 1114111] ((leadN b : Nat) : Int)) (conts r && mt (max (leastN n) (goOn (leadN b) r * 64 ^ (n - s.size))) (min ((goOn (leadN b) r + 1) * 64 ^ (n - s.size) - 1) (mostN n))) :=
  Ev.step (fun k => by simp only [rf04_Fits.j2]; rfl) h0
 have ew : wrap64 (b : Int) = (b : Int) := w64 (by omega) (by omega)
 refine Ev.step (f := fun k => if (n : Int) = 3 then (rf04_Fits.j1 k s (n : Int) [0, 0, 128, 2048, 65536] [0, 0, 2047, 65535, 1114111] (wrap64 ((b : Int) - 224))) else (rf04_Fits.j1 k s (n : Int) [0, 0, 128, 2048, 65536] [0, 0, 2047, 65535, 1114111] (wrap64 ((b : Int) - 192)))) (fun k => ?_) ?_
 · simp only [rf04_Fits.j0, Option.bind_some]
   rw [if_neg (by simp), if_pos (by omega), hbt, ew]
 · rcases hcase with ⟨rfl, h1, h2⟩ | ⟨rfl, h1, h2⟩ | ⟨rfl, h1, h2⟩
   · refine Ev.neg (by omega) (Ev.step (f := _) (fun k => ?_) hj2)
     simp only [rf04_Fits.j1]
     rw [if_neg (by omega), w64 (by omega) (by omega), show (b : Int) - 192 = ((leadN b : Nat) : Int) by unfold leadN; rw [if_pos h2]; omega]
   · refine Ev.pos (by omega) (Ev.step (f := _) (fun k => ?_) hj2)
     simp only [rf04_Fits.j1]
     rw [if_neg (by omega), w64 (by omega) (by omega), show (b : Int) - 224 = ((leadN b : Nat) : Int) by unfold leadN; rw [if_neg (by omega), if_pos h2]; omega]
   · refine Ev.neg (by omega) (Ev.step (f := _) (fun k => ?_) hj2)
     simp only [rf04_Fits.j1]
     rw [if_pos (by omega), if_pos (by omega), hbt, ew, w64 (by omega) (by omega), show (b : Int) - 240 = ((leadN b : Nat) : Int) by unfold leadN; rw [if_neg (by omega), if_neg (by omega)]; omega]
theorem mt_same {a b c d : Nat} (h1 : a = c) (h2 : b = d) : mt a b = mt c d := by rw [h1, h2]
theorem mt_most {lo lo' hi hi' : Nat} (h1 : lo = lo') (h2 : hi = hi') : mt lo (min hi 1114111) = mt lo' hi' := by rw [mt_min, h1, h2]
theorem fits_is {b : Nat} {r : List Nat} (hb : b < 256) (hr : ∀ x ∈ r, x < 256) :
 (if sizeN b = 0 ∨ r.length + 1 > sizeN b then false else conts r && mt (max (leastN (sizeN b)) (goOn (leadN b) r * 64 ^ (sizeN b - (r.length + 1)))) (min ((goOn (leadN b) r + 1) * 64 ^ (sizeN b - (r.length + 1)) - 1) (mostN (sizeN b)))) = fits (b :: r) := by
 by_cases h2 : b / 32 = 6
 · have e1 : sizeN b = 2 := by unfold sizeN; rw [if_neg (by omega), if_neg (by omega), if_pos (by omega)]
   have e2 : leadN b = b % 32 := by unfold leadN; rw [if_pos (by omega)]; omega
   rw [e1, e2]
   match r, hr with
   | [], _ =>
    rw [if_neg (by simp)]
    simp only [fits, conts, goOn, List.all_nil, Bool.true_and, List.foldl, List.length_nil]
    rw [if_pos h2]
    refine mt_same rfl ?_
    simp only [mostN, if_true]
    omega
   | [c], hr =>
    rw [if_neg (by simp)]
    simp only [fits, conts, goOn, List.all_cons, List.all_nil, Bool.and_true, List.foldl, List.length_cons, List.length_nil]
    by_cases h3 : c / 64 = 2
    · rw [if_pos h3, if_pos h2, beq_iff_eq.2 h3, Bool.true_and]
      refine mt_same ?_ ?_
      · simp only [leastN, if_true]
        omega
      · simp only [mostN, if_true]
        omega
    · rw [if_neg h3, beq_eq_false_iff_ne.2 h3, Bool.false_and]
   | c :: d :: r, _ =>
    rw [if_pos (by simp)]
    simp only [fits]
    match r with
    | [] => simp only [fits]; split; rw [if_neg (by omega), if_neg (by omega)]; rfl
    | [e] => simp only [fits]; split; rw [if_neg (by omega)]; rfl
    | _ :: _ :: _ => rfl
 by_cases h3 : b / 16 = 14
 · have e1 : sizeN b = 3 := by unfold sizeN; rw [if_neg (by omega), if_neg (by omega), if_neg (by omega), if_pos (by omega)]
   have e2 : leadN b = b % 16 := by unfold leadN; rw [if_neg (by omega), if_pos (by omega)]; omega
   rw [e1, e2]
   match r, hr with
   | [], _ =>
    rw [if_neg (by simp)]
    simp only [fits, conts, goOn, List.all_nil, Bool.true_and, List.foldl, List.length_nil]
    rw [if_neg h2, if_pos h3]
    refine mt_same ?_ ?_
    · simp [leastN]
    · simp [mostN]
      omega
   | [c], hr =>
    rw [if_neg (by simp)]
    simp only [fits, conts, goOn, List.all_cons, List.all_nil, Bool.and_true, List.foldl, List.length_cons, List.length_nil]
    by_cases h4 : c / 64 = 2
    · rw [if_pos h4, if_neg h2, if_pos h3, beq_iff_eq.2 h4, Bool.true_and]
      refine mt_same ?_ ?_
      · simp [leastN]
        omega
      · simp [mostN]
        omega
    · rw [if_neg h4, beq_eq_false_iff_ne.2 h4, Bool.false_and]
   | [c, d], hr =>
    rw [if_neg (by simp)]
    simp only [fits, conts, goOn, List.all_cons, List.all_nil, Bool.and_true, List.foldl, List.length_cons, List.length_nil]
    by_cases h4 : c / 64 = 2 ∧ d / 64 = 2
    · rw [if_pos h4, if_pos h3, beq_iff_eq.2 h4.1, beq_iff_eq.2 h4.2, Bool.true_and, Bool.true_and]
      refine mt_same ?_ ?_
      · simp [leastN]
        omega
      · simp [mostN]
        omega
    · rw [if_neg h4]
      by_cases h5 : c / 64 = 2
      · rw [beq_eq_false_iff_ne.2 (show d / 64 ≠ 2 from fun g => h4 ⟨h5, g⟩), Bool.and_false, Bool.false_and]
      · rw [beq_eq_false_iff_ne.2 h5, Bool.false_and, Bool.false_and]
   | c :: d :: e :: r, _ =>
    rw [if_pos (by simp)]
    match r with
    | [] => simp only [fits]; split; rw [if_neg (by omega)]; rfl
    | _ :: _ => rfl
 by_cases h4 : b / 8 = 30
 · have e1 : sizeN b = 4 := by unfold sizeN; rw [if_neg (by omega), if_neg (by omega), if_neg (by omega), if_neg (by omega)]
   have e2 : leadN b = b % 8 := by unfold leadN; rw [if_neg (by omega), if_neg (by omega)]; omega
   have e3 : mostN 4 = 1114111 := rfl
   have e4 : leastN 4 = 65536 := rfl
   rw [e1, e2, e3, e4]
   match r, hr with
   | [], _ =>
    rw [if_neg (by simp)]
    simp only [fits, conts, goOn, List.all_nil, Bool.true_and, List.foldl, List.length_nil]
    rw [if_neg h2, if_neg h3, if_pos h4]
    exact mt_most (by omega) (by omega)
   | [c], hr =>
    rw [if_neg (by simp)]
    simp only [fits, conts, goOn, List.all_cons, List.all_nil, Bool.and_true, List.foldl, List.length_cons, List.length_nil]
    by_cases h5 : c / 64 = 2
    · rw [if_pos h5, if_neg h2, if_neg h3, if_pos h4, beq_iff_eq.2 h5, Bool.true_and]
      exact mt_most (by omega) (by omega)
    · rw [if_neg h5, beq_eq_false_iff_ne.2 h5, Bool.false_and]
   | [c, d], hr =>
    rw [if_neg (by simp)]
    simp only [fits, conts, goOn, List.all_cons, List.all_nil, Bool.and_true, List.foldl, List.length_cons, List.length_nil]
    by_cases h5 : c / 64 = 2 ∧ d / 64 = 2
    · rw [if_pos h5, if_neg h3, if_pos h4, beq_iff_eq.2 h5.1, beq_iff_eq.2 h5.2, Bool.true_and, Bool.true_and]
      exact mt_most (by omega) (by omega)
    · rw [if_neg h5]
      by_cases h6 : c / 64 = 2
      · rw [beq_eq_false_iff_ne.2 (show d / 64 ≠ 2 from fun g => h5 ⟨h6, g⟩), Bool.and_false, Bool.false_and]
      · rw [beq_eq_false_iff_ne.2 h6, Bool.false_and, Bool.false_and]
   | [c, d, e], hr =>
    rw [if_neg (by simp)]
    simp only [fits, conts, goOn, List.all_cons, List.all_nil, Bool.and_true, List.foldl, List.length_cons, List.length_nil]
    by_cases h5 : c / 64 = 2 ∧ d / 64 = 2 ∧ e / 64 = 2
    · rw [if_pos h5, if_pos h4, beq_iff_eq.2 h5.1, beq_iff_eq.2 h5.2.1, beq_iff_eq.2 h5.2.2, Bool.true_and, Bool.true_and, Bool.true_and]
      exact mt_most (by omega) (by omega)
    · rw [if_neg h5]
      have : ((c / 64 == 2) && ((d / 64 == 2) && (e / 64 == 2))) = false := by
       rw [Bool.eq_false_iff]
       intro g
       simp only [Bool.and_eq_true, beq_iff_eq] at g
       exact h5 g
      rw [this, Bool.false_and]
   | c :: d :: e :: f :: r, _ =>
    rw [if_pos (by simp)]
    rfl
 · have e1 : sizeN b = 0 := by
    unfold sizeN
    repeat' split
    all_goals omega
   rw [if_pos (.inl e1)]
   match r with
   | [] => simp only [fits]; rw [if_neg h2, if_neg h3, if_neg h4]
   | [c] => simp only [fits]; rw [if_neg h2, if_neg h3, if_neg h4]; split <;> rfl
   | [c, d] => simp only [fits]; rw [if_neg h3, if_neg h4]; split <;> rfl
   | [c, d, e] => simp only [fits]; rw [if_neg h4]; split <;> rfl
   | _ :: _ :: _ :: _ :: _ => rfl
theorem ref_fits (s : ByteArray) (hs : s.size ≤ 1099511627776) : Ev (fun k => rf04_Fits.f k s) (fits (bs s)) := by
 unfold rf04_Fits.f
 rcases bs_cases s with ⟨-, h2, h3⟩ | ⟨b, r, hb, h2, h3, h4, h5, h6, h7⟩
 · rw [h2]
   exact Ev.pos h3 (Ev.now _)
 · refine Ev.neg h6 (Ev.pos (by omega) ?_)
   have hr : ∀ x ∈ r, x < 256 := fun x hx => bs_lt s x (by rw [h2]; exact List.mem_cons_of_mem _ hx)
   rw [h3, h2, ← fits_is hb hr]
   refine (ref_size b).bind ?_
   by_cases h0 : sizeN b = 0
   · rw [if_pos (.inl h0)]
     refine Ev.pos (by omega) (Ev.step (f := fun _ => some false) (fun k => by simp only [rf04_Fits.j0]; rw [if_pos trivial]) (Ev.now _))
   · refine Ev.neg (by omega) ?_
     by_cases hl : r.length + 1 > sizeN b
     · rw [if_pos (.inr hl), decide_eq_true (by omega)]
       exact Ev.step (f := fun _ => some false) (fun k => by simp only [rf04_Fits.j0]; rw [if_pos trivial]) (Ev.now _)
     · rw [if_neg (by omega), decide_eq_false (by omega), h7]
       exact ref_fits_body s hb h2 h3 h4 _ rfl h0 (by omega)
def vM (x : S43) : MVar := ⟨bs x.f0, x.f1, x.f2⟩
def pM (x : S41) : MPart := ⟨bs x.f0, x.f1, x.f2.map vM⟩
theorem vM_inj {x y : S43} (h : vM x = vM y) : x = y := by
 cases x
 cases y
 simp only [vM, MVar.mk.injEq] at h
 obtain ⟨h1, h2, h3⟩ := h
 rw [bs_inj h1, h2, h3]
theorem map_vM_inj : ∀ {l m : List S43}, l.map vM = m.map vM → l = m
 | [], [], _ => rfl
 | [], _ :: _, h => by simp at h
 | _ :: _, [], h => by simp at h
 | x :: l, y :: m, h => by
  simp only [List.map_cons, List.cons.injEq] at h
  rw [vM_inj h.1, map_vM_inj h.2]
theorem pM_inj {x y : S41} (h : pM x = pM y) : x = y := by
 cases x
 cases y
 simp only [pM, MPart.mk.injEq] at h
 obtain ⟨h1, h2, h3⟩ := h
 rw [bs_inj h1, h2, map_vM_inj h3]
theorem map_pM_inj : ∀ {l m : List S41}, l.map pM = m.map pM → l = m
 | [], [], _ => rfl
 | [], _ :: _, h => by simp at h
 | _ :: _, [], h => by simp at h
 | x :: l, y :: m, h => by
  simp only [List.map_cons, List.cons.injEq] at h
  rw [pM_inj h.1, map_pM_inj h.2]
theorem bs_sub (s : ByteArray) (i : Nat) {b : Nat} (hd : (bs s).drop i = b :: (bs s).drop (i + 1)) : bs (s.extract i (i + 1)) = [b] := by
 rw [bs_extract, List.drop_take, hd, show i + 1 - i = 0 + 1 by omega, List.take_succ_cons, List.take_zero]
def insideEnd (o : Option (List MVar × List Nat)) (nm : ByteArray) (op : Int) (l : List S43) : ByteArray × Int × List S43 × Bool := match o with
 | some _ => (nm, op, l, true)
 | none => (⟨#[]⟩, 0, [], false)
theorem ref_inside_loop (x0 : ByteArray) (hs : x0.size ≤ 1099511627776) (h125 : ∀ b ∈ bs x0, b ≠ 125) (t : List Nat) (nm : ByteArray) (op : Int) :
 ∀ (n i : Nat) (one : ByteArray) (sp : List S43) (d : Nat), i + n = x0.size → NoSep (bs one) → one.size ≤ i → sp.length ≤ i → (bs one ++ ((bs x0).drop i ++ 125 :: t)).length < d →
  ∃ l, Ev (fun k => rf07_inside.l0 k x0 one (i : Int) nm op sp) (insideEnd (exprN d (bs one ++ ((bs x0).drop i ++ 125 :: t))) nm op (sp ++ l)) ∧
   ∀ vs r, exprN d (bs one ++ ((bs x0).drop i ++ 125 :: t)) = some (vs, r) → l.map vM = vs ∧ r = t := by
 intro n
 induction n with
 | zero =>
  intro i one sp d hi hone hsz hlen hd
  obtain ⟨d, rfl⟩ : ∃ e, d = e + 1 := ⟨d - 1, by omega⟩
  obtain ⟨n1, m1, st1, ok, hev, hy, hn⟩ := ref_is one (by omega) hone
  have e0 : (bs x0).drop i = [] := List.drop_eq_nil_of_le (by rw [bs_length]; omega)
  rw [e0, List.nil_append]
  have hcut := cut_of (t := t) hone (c := 125) (.inr rfl)
  have hx : exprN (d + 1) (bs one ++ 125 :: t) = (mVar (bs one)).map fun v => ([v], t) := by
   simp only [exprN]
   rw [hcut]
   simp only [if_true]
   cases mVar (bs one) <;> rfl
  have ew : wrap64 ((i : Int) + 1) = ((i + 1 : Nat) : Int) := by rw [w64 (by omega) (by omega)]; omega
  cases ok with
  | true =>
   rw [hx, hy rfl]
   refine ⟨[⟨n1, m1, st1⟩], ?_, ?_⟩
   · refine Ev.step (f := fun k => rf07_inside.j3 k x0 one (i : Int) false nm op sp) (fun k => by simp only [rf07_inside.l0]; rw [if_pos (by omega), if_neg (by omega)]) ?_
     refine Ev.step (f := fun k => (rf06_Is.f k one).bind fun bt151 => (if bt151.2.2.2 = true then (if sp.length < 4398046511104 then (rf07_inside.l0 k x0 (⟨#[]⟩ : ByteArray) ((i + 1 : Nat) : Int) nm op (sp ++ [(⟨bt151.1, bt151.2.1, bt151.2.2.1⟩ : S43)])) else (none)) else (some ((⟨#[]⟩ : ByteArray), 0, ([] : List (S43)), false)))) (fun k => by simp only [rf07_inside.j3]; rw [if_neg (by simp), ew]) ?_
     refine hev.bind (Ev.pos rfl (Ev.pos (by omega) ?_))
     exact Ev.step (f := fun _ => some (nm, op, sp ++ [⟨n1, m1, st1⟩], true)) (fun k => by simp only [rf07_inside.l0]; rw [if_neg (by omega)]) (Ev.now _)
   · intro vs r h
     cases h
     exact ⟨rfl, rfl⟩
  | false =>
   rw [hx, hn rfl]
   refine ⟨[], ?_, fun vs r h => by cases h⟩
   refine Ev.step (f := fun k => rf07_inside.j3 k x0 one (i : Int) false nm op sp) (fun k => by simp only [rf07_inside.l0]; rw [if_pos (by omega), if_neg (by omega)]) ?_
   refine Ev.step (f := fun k => (rf06_Is.f k one).bind fun bt151 => (if bt151.2.2.2 = true then (if sp.length < 4398046511104 then (rf07_inside.l0 k x0 (⟨#[]⟩ : ByteArray) ((i + 1 : Nat) : Int) nm op (sp ++ [(⟨bt151.1, bt151.2.1, bt151.2.2.1⟩ : S43)])) else (none)) else (some ((⟨#[]⟩ : ByteArray), 0, ([] : List (S43)), false)))) (fun k => by simp only [rf07_inside.j3]; rw [if_neg (by simp), ew]) ?_
   exact hev.bind (Ev.neg (by simp) (Ev.now _))
 | succ n ih =>
  intro i one sp d hi hone hsz hlen hd
  obtain ⟨b, hb, hbt, hdrop⟩ := bs_get x0 i (by omega)
  have hmem : b ∈ bs x0 := List.mem_of_mem_drop (i := i) (by rw [hdrop]; simp)
  have hb125 := h125 b hmem
  have ew : wrap64 ((i : Int) + 1) = ((i + 1 : Nat) : Int) := by rw [w64 (by omega) (by omega)]; omega
  rw [hdrop] at hd ⊢
  by_cases h44 : b = 44
  · obtain ⟨d, rfl⟩ : ∃ e, d = e + 1 := ⟨d - 1, by omega⟩
    obtain ⟨n1, m1, st1, ok, hev, hy, hn⟩ := ref_is one (by omega) hone
    have hcut := cut_of (t := (bs x0).drop (i + 1) ++ 125 :: t) hone (c := 44) (.inl rfl)
    have hx : exprN (d + 1) (bs one ++ (b :: (bs x0).drop (i + 1) ++ 125 :: t)) = (mVar (bs one)).bind fun v => (exprN d ((bs x0).drop (i + 1) ++ 125 :: t)).map fun p => (v :: p.1, p.2) := by
     subst h44
     simp only [exprN, List.cons_append]
     rw [hcut]
     simp only
     cases mVar (bs one) with
     | none => rfl
     | some v =>
      simp only [Option.bind_some]
      rw [if_neg (by decide)]
      cases exprN d ((bs x0).drop (i + 1) ++ 125 :: t) <;> rfl
    have hj : ∀ r, Ev (fun k => (rf06_Is.f k one).bind fun bt151 => (if bt151.2.2.2 = true then (if sp.length < 4398046511104 then (rf07_inside.l0 k x0 (⟨#[]⟩ : ByteArray) ((i + 1 : Nat) : Int) nm op (sp ++ [(⟨bt151.1, bt151.2.1, bt151.2.2.1⟩ : S43)])) else (none)) else (some ((⟨#[]⟩ : ByteArray), 0, ([] : List (S43)), false)))) r →
     Ev (fun k => rf07_inside.l0 k x0 one (i : Int) nm op sp) r := by
     intro r hr
     refine Ev.step (f := fun k => rf07_inside.j3 k x0 one (i : Int) false nm op sp) (fun k => ?_) ?_
     · simp only [rf07_inside.l0]
       rw [if_pos (by omega), if_pos (by omega), if_pos (by omega), hbt, show ((b : Int) != 44) = false by rw [h44]; rfl]
     · exact Ev.step (f := _) (fun k => by simp only [rf07_inside.j3]; rw [if_neg (by simp), ew]) hr
    cases ok with
    | true =>
     have hd2 : (bs ⟨#[]⟩ ++ ((bs x0).drop (i + 1) ++ 125 :: t)).length < d := by
      rw [bs_nil, List.nil_append]
      simp only [List.length_append, List.length_cons] at hd ⊢
      omega
     obtain ⟨l, h1, h2⟩ := ih (i + 1) ⟨#[]⟩ (sp ++ [⟨n1, m1, st1⟩]) d (by omega) (fun x hx => by cases hx) (by show 0 ≤ _; omega) (by simp; omega) hd2
     rw [bs_nil, List.nil_append] at h1 h2
     rw [hx, hy rfl, Option.bind_some]
     refine ⟨⟨n1, m1, st1⟩ :: l, hj _ (hev.bind (Ev.pos rfl (Ev.pos (by omega) ?_))), ?_⟩
     · cases he : exprN d ((bs x0).drop (i + 1) ++ 125 :: t) with
       | none =>
        rw [he] at h1
        exact h1
       | some p =>
        rw [he] at h1
        rw [List.append_assoc] at h1
        exact h1
     · intro vs r h
       cases he : exprN d ((bs x0).drop (i + 1) ++ 125 :: t) with
       | none =>
        rw [he] at h
        cases h
       | some p =>
        rw [he] at h
        cases h
        obtain ⟨g1, g2⟩ := h2 p.1 p.2 he
        exact ⟨by rw [List.map_cons, g1]; rfl, g2⟩
    | false =>
     rw [hx, hn rfl, Option.bind_none]
     exact ⟨[], hj _ (hev.bind (Ev.neg (by simp) (Ev.now _))), fun vs r h => by cases h⟩
  · have hsub := bs_sub x0 i hdrop
    have hone2 : bs (one ++ x0.extract i (i + 1)) = bs one ++ [b] := by rw [bs_append, hsub]
    have hsz1 : (x0.extract i (i + 1)).size = 1 := by rw [← bs_length, hsub]; rfl
    have hsz2 : (one ++ x0.extract i (i + 1)).size = one.size + 1 := by rw [ByteArray.size_append, hsz1]
    have hnosep : NoSep (bs (one ++ x0.extract i (i + 1))) := by
     rw [hone2]
     intro x hx
     rcases List.mem_append.1 hx with hx | hx
     · exact hone x hx
     · rw [List.mem_singleton] at hx
       subst hx
       exact ⟨h44, hb125⟩
    have e : bs one ++ (b :: (bs x0).drop (i + 1) ++ 125 :: t) = bs (one ++ x0.extract i (i + 1)) ++ ((bs x0).drop (i + 1) ++ 125 :: t) := by rw [hone2]; simp
    rw [e] at hd ⊢
    obtain ⟨l, h1, h2⟩ := ih (i + 1) (one ++ x0.extract i (i + 1)) sp d (by omega) hnosep (by omega) (by omega) hd
    refine ⟨l, ?_, h2⟩
    refine Ev.step (f := fun k => rf07_inside.j3 k x0 one (i : Int) true nm op sp) (fun k => ?_) (Ev.step (f := _) (fun k => ?_) h1)
    · simp only [rf07_inside.l0]
      rw [if_pos (by omega), if_pos (by omega), if_pos (by omega), hbt, show ((b : Int) != 44) = true by rw [bne_iff_ne]; omega]
    · simp only [rf07_inside.j3]
      rw [if_pos trivial, if_pos (by omega), ew, if_pos (by omega), if_pos (by omega), Int.toNat_natCast, Int.toNat_natCast, if_pos (by omega)]
theorem opN_append (l t : List Nat) : opN (l ++ 125 :: t) = ((opN l).1, (opN l).2 ++ 125 :: t) := by
 match l with
 | [] =>
  have : isOp 125 = false := by decide
  simp [opN, this]
 | b :: r =>
  simp only [List.cons_append, opN]
  split <;> rfl
theorem ref_inside (s : ByteArray) (hs : s.size ≤ 1099511627776) (h125 : ∀ b ∈ bs s, b ≠ 125) (t : List Nat) (d : Nat) (hd : (bs s ++ 125 :: t).length < d) :
 ∃ l, Ev (fun k => rf07_inside.f k s) (insideEnd (exprN d (opN (bs s ++ 125 :: t)).2) ⟨#[]⟩ (opN (bs s ++ 125 :: t)).1 l) ∧ ∀ vs r, exprN d (opN (bs s ++ 125 :: t)).2 = some (vs, r) → l.map vM = vs ∧ r = t := by
 rw [opN_append]
 have hj1 : ∀ (x : ByteArray) (op : Int), x.size ≤ s.size → (∀ b ∈ bs x, b ≠ 125) → (bs x ++ 125 :: t).length < d →
  ∃ l, Ev (fun k => rf07_inside.j1 k x ⟨#[]⟩ op) (insideEnd (exprN d (bs x ++ 125 :: t)) ⟨#[]⟩ op l) ∧ ∀ vs r, exprN d (bs x ++ 125 :: t) = some (vs, r) → l.map vM = vs ∧ r = t := by
  intro x op hx hx1 hx2
  obtain ⟨l, h1, h2⟩ := ref_inside_loop x (by omega) hx1 t ⟨#[]⟩ op x.size 0 ⟨#[]⟩ [] d (by omega) (fun b hb => by cases hb) (by show 0 ≤ _; omega) (by simp) (by rw [bs_nil, List.drop_zero, List.nil_append]; exact hx2)
  rw [bs_nil, List.drop_zero, List.nil_append] at h1 h2
  exact ⟨l, Ev.step (fun k => by simp only [rf07_inside.j1]; rfl) h1, h2⟩
 rcases bs_cases s with ⟨-, h2, h3⟩ | ⟨b, r, hb, h2, h3, h4, h5, h6, h7⟩
 · obtain ⟨l, g1, g2⟩ := hj1 s 0 (Nat.le_refl _) h125 hd
   rw [h2] at g1 g2 ⊢
   refine ⟨l, ?_, g2⟩
   unfold rf07_inside.f
   exact Ev.pos h3 (Ev.step (f := _) (fun k => by simp only [rf07_inside.j0]; rw [if_neg (by simp)]) g1)
 · unfold rf07_inside.f
   by_cases hop : isOp b = true
   · have hb0 : b ≠ 0 := by
      rintro rfl
      cases hop
     have e1 : opN (bs s) = ((b : Int), r) := by rw [h2]; simp only [opN]; rw [if_pos hop]
     have e2 : bs (s.extract 1 s.size) = r := h5
     rw [h2] at hd h125
     obtain ⟨l, g1, g2⟩ := hj1 (s.extract 1 s.size) (b : Int) (by rw [bs_size_from]; omega) (by rw [e2]; exact fun x hx => h125 x (List.mem_cons_of_mem _ hx)) (by rw [e2]; simp only [List.cons_append, List.length_cons] at hd; omega)
     rw [e2] at g1 g2
     rw [e1]
     refine ⟨l, ?_, g2⟩
     refine Ev.neg h6 (Ev.pos (by omega) (Ev.neg (by omega) ?_))
     have := ref_op hb
     rw [hop, Bool.or_true] at this
     rw [h3]
     refine this.bind ?_
     refine Ev.step (f := _) (fun k => ?_) g1
     simp only [rf07_inside.j0]
     rw [if_pos trivial, if_pos (by omega), if_pos (by omega), h3]
   · have e1 : opN (bs s) = (0, bs s) := by rw [h2]; simp only [opN]; rw [if_neg hop]
     obtain ⟨l, g1, g2⟩ := hj1 s 0 (Nat.le_refl _) h125 hd
     rw [e1]
     refine ⟨l, Ev.neg h6 (Ev.pos (by omega) ?_), g2⟩
     have hj0 : Ev (fun k => rf07_inside.j0 k s false ⟨#[]⟩ 0) (insideEnd (exprN d (bs s ++ 125 :: t)) ⟨#[]⟩ 0 l) := Ev.step (f := _) (fun k => by simp only [rf07_inside.j0]; rw [if_neg (by simp)]) g1
     by_cases hb0 : b = 0
     · exact Ev.pos (by omega) hj0
     · refine Ev.neg (by omega) ?_
       have := ref_op hb
       have hb0' : (b == 0) = false := by simpa using hb0
       rw [hb0', Bool.false_or, Bool.eq_false_iff.2 hop] at this
       rw [h3]
       exact this.bind hj0
def shutAt : List Nat → Nat
 | [] => 0
 | b :: r => if b = 125 then 0 else shutAt r + 1
theorem shutAt_le : ∀ l, shutAt l ≤ l.length
 | [] => Nat.le_refl _
 | b :: r => by
  simp only [shutAt]
  split
  · omega
  · have := shutAt_le r
    simp only [List.length_cons]
    omega
theorem shutAt_end : ∀ {l}, shutAt l = l.length → ∀ b ∈ l, b ≠ 125
 | [], _ => fun b hb => by cases hb
 | b :: r, h => by
  simp only [shutAt, List.length_cons] at h
  split at h
  · omega
  · rename_i hb
    intro x hx
    rcases List.mem_cons.1 hx with rfl | hx
    · exact hb
    · exact shutAt_end (by omega) x hx
theorem shutAt_split : ∀ {l}, shutAt l < l.length → l = l.take (shutAt l) ++ 125 :: l.drop (shutAt l + 1) ∧ ∀ b ∈ l.take (shutAt l), b ≠ 125
 | [], h => by simp [shutAt] at h
 | b :: r, h => by
  simp only [shutAt, List.length_cons] at h ⊢
  by_cases hb : b = 125
  · rw [if_pos hb]
    subst hb
    exact ⟨rfl, fun x hx => by cases hx⟩
  · rw [if_neg hb] at h ⊢
    obtain ⟨h1, h2⟩ := shutAt_split (l := r) (by omega)
    refine ⟨?_, ?_⟩
    · rw [List.take_succ_cons, List.drop_succ_cons, List.cons_append, ← h1]
    · intro x hx
      rw [List.take_succ_cons] at hx
      rcases List.mem_cons.1 hx with rfl | hx
      · exact hb
      · exact h2 x hx
theorem expr_open : ∀ (d : Nat) (l : List Nat), (∀ b ∈ l, b ≠ 125) → exprN d l = none
 | 0, l, _ => rfl
 | d + 1, l, h => by
  simp only [exprN]
  cases e : cut l with
  | none => rfl
  | some p =>
   obtain ⟨a, c, r⟩ := p
   obtain ⟨hl, -, hc⟩ := cut_some e
   have hc' : c ≠ 125 := h c (by rw [hl]; simp)
   have hr := expr_open d r fun b hb => h b (by rw [hl]; simp [hb])
   simp only
   cases mVar a with
   | none => rfl
   | some v =>
    simp only
    rw [if_neg hc', hr]
theorem opN_mem {l : List Nat} {b : Nat} (h : b ∈ (opN l).2) : b ∈ l := by
 match l, h with
 | [], h => cases h
 | c :: r, h =>
  simp only [opN] at h
  split at h
  · exact List.mem_cons_of_mem _ h
  · exact h
def isEnd (o : Option (List MPart)) (L ps : List S41) : List S41 × Bool := match o with
 | some _ => (L ++ ps, true)
 | none => ([], false)
theorem ref_is7_l1 (x0 : ByteArray) (L : List S41) (hs : x0.size ≤ 1099511627776) (R : List S41 × Bool) : ∀ (n i : Nat), i + n = x0.size →
 Ev (fun k => rf07_Is.j2 k x0 L ((i + shutAt ((bs x0).drop i) : Nat) : Int)) R → Ev (fun k => rf07_Is.l1 k x0 L (i : Int)) R
 | 0, i, hi, h => by
  rw [List.drop_eq_nil_of_le (by rw [bs_length]; omega)] at h
  refine Ev.step (f := _) (fun k => ?_) h
  simp only [rf07_Is.l1]
  rw [if_neg (by omega)]
  rfl
 | n + 1, i, hi, h => by
  obtain ⟨b, hb, hbt, hd⟩ := bs_get x0 i (by omega)
  rw [hd] at h
  simp only [shutAt] at h
  have ew : wrap64 ((i : Int) + 1) = ((i + 1 : Nat) : Int) := by rw [w64 (by omega) (by omega)]; omega
  by_cases hb1 : b = 125
  · rw [if_pos hb1] at h
    refine Ev.step (f := _) (fun k => ?_) h
    simp only [rf07_Is.l1]
    rw [if_pos (by omega), if_pos (by omega), hbt, if_pos (by omega)]
    rfl
  · rw [if_neg hb1, show i + (shutAt ((bs x0).drop (i + 1)) + 1) = i + 1 + shutAt ((bs x0).drop (i + 1)) by omega] at h
    refine Ev.step (f := _) (fun k => ?_) (ref_is7_l1 x0 L hs R n (i + 1) (by omega) h)
    simp only [rf07_Is.l1]
    rw [if_pos (by omega), if_pos (by omega), hbt, if_neg (by omega), ew]
def l2End (x0 : ByteArray) (L : List S41) (q k : Nat) : Option (List S41 × Bool) := if q = 0 then some (([] : List S41), false) else rf07_Is.l0 k (x0.extract q x0.size) (L ++ [⟨x0.extract 0 q, 0, []⟩])
theorem l2End_zero {x0 : ByteArray} {L : List S41} {R : List S41 × Bool} (h : Ev (l2End x0 L 0) R) : Ev (fun _ => some (([] : List S41), false)) R := Ev.congr (fun k => by simp only [l2End]; rw [if_pos trivial]) h
theorem l2End_pos {x0 : ByteArray} {L : List S41} {R : List S41 × Bool} {q : Nat} (hq : q ≠ 0) (h : Ev (l2End x0 L q) R) : Ev (fun k => rf07_Is.l0 k (x0.extract q x0.size) (L ++ [⟨x0.extract 0 q, 0, []⟩])) R := Ev.congr (fun k => by simp only [l2End]; rw [if_neg hq]) h
theorem ref_is7_l2 (x0 : ByteArray) (L : List S41) (hs : x0.size ≤ 1099511627776) (hL : L.length ≤ 1099511627776) (R : List S41 × Bool) : ∀ (d a : Nat), x0.size - a < d → a ≤ x0.size →
 Ev (l2End x0 L (a + piecesN d ((bs x0).drop a))) R →
 Ev (fun k => rf07_Is.l2 k x0 L (a : Int)) R
 | 0, a, h, _, _ => by omega
 | d + 1, a, h, ha, he => by
  have hdrop : bs (x0.extract a x0.size) = (bs x0).drop a := bs_from x0 a
  by_cases hlt : a < x0.size
  · have hp := ref_piece (x0.extract a x0.size) (by rw [bs_size_from]; omega)
    rw [hdrop] at hp
    refine Ev.step (f := fun k => ((rf07_Piece.f k (x0.extract a x0.size)).bind fun t197 => (if t197 > 0 then ((rf07_Piece.f k (x0.extract a x0.size)).bind fun t198 => (rf07_Is.l2 k x0 L (wrap64 ((a : Int) + t198)))) else (if (a : Int) = 0 then (some (([] : List S41), false)) else (if L.length < 2932031007402 then (rf07_Is.l0 k (x0.extract a x0.size) (L ++ [(⟨x0.extract 0 a, 0, ([] : List (S43))⟩ : S41)])) else (none)))))) (fun k => ?_) ?_
    · simp only [rf07_Is.l2]
      rw [if_pos (by omega), if_pos (by omega), if_pos (by omega), Int.toNat_natCast]
    · refine hp.bind ?_
      by_cases h0 : pieceN ((bs x0).drop a) = 0
      · simp only [piecesN] at he
        rw [if_pos h0, Nat.add_zero] at he
        refine Ev.neg (by omega) ?_
        by_cases ha0 : a = 0
        · rw [ha0] at he
          exact Ev.pos (by omega) (l2End_zero he)
        · exact Ev.neg (by omega) (Ev.pos (by omega) (l2End_pos ha0 he))
      · obtain ⟨q1, -, -⟩ := piece_top h0
        rw [List.length_drop, bs_length] at q1
        simp only [piecesN] at he
        rw [if_neg h0, List.drop_drop, ← Nat.add_assoc] at he
        refine Ev.pos (by omega) (hp.bind ?_)
        have ew : wrap64 ((a : Int) + (pieceN ((bs x0).drop a) : Int)) = ((a + pieceN ((bs x0).drop a) : Nat) : Int) := by rw [w64 (by omega) (by omega)]; omega
        rw [ew]
        exact ref_is7_l2 x0 L hs hL R d (a + pieceN ((bs x0).drop a)) (by omega) (by omega) he
  · have e0 : (bs x0).drop a = [] := List.drop_eq_nil_of_le (by rw [bs_length]; omega)
    have e1 : piecesN (d + 1) ((bs x0).drop a) = 0 := by rw [e0]; rfl
    rw [e1, Nat.add_zero] at he
    refine Ev.step (f := fun k => if (a : Int) = 0 then (some (([] : List S41), false)) else (rf07_Is.l0 k (x0.extract a x0.size) (L ++ [(⟨x0.extract 0 a, 0, ([] : List (S43))⟩ : S41)]))) (fun k => ?_) ?_
    · simp only [rf07_Is.l2]
      have c1 : (0 ≤ (a : Int)) = True := eq_true (by omega)
      have c2 : ((a : Int) ≤ (x0.size : Int)) = True := eq_true (by omega)
      have c3 : (L.length < 2932031007402) = True := eq_true (by omega)
      rw [if_neg (by omega)]
      simp only [c1, c2, c3, if_true, Int.toNat_natCast]
    · by_cases ha0 : a = 0
      · rw [ha0] at he
        exact Ev.pos (by omega) (l2End_zero he)
      · exact Ev.neg (by omega) (l2End_pos ha0 he)
theorem ref_is7_j2 (x0 : ByteArray) (L : List S41) (hs : x0.size ≤ 1099511627776) (hL : L.length ≤ 1099511627776) (m : Nat) (h1 : 1 ≤ m) (h2 : m < x0.size) (R : List S41 × Bool)
 (hR : Ev (fun k => ((rf07_inside.f k (x0.extract 1 m)).bind fun bt187 => (if bt187.2.2.2 = true then (rf07_Is.l0 k (x0.extract (m + 1) x0.size) (L ++ [(⟨bt187.1, bt187.2.1, bt187.2.2.1⟩ : S41)])) else (some (([] : List S41), false))))) R) :
 Ev (fun k => rf07_Is.j2 k x0 L (m : Int)) R := by
 refine Ev.step (f := _) (fun k => ?_) hR
 have ew : wrap64 ((m : Int) + 1) = ((m + 1 : Nat) : Int) := by rw [w64 (by omega) (by omega)]; omega
 have c0 : ((m : Int) = (x0.size : Int)) = False := eq_false (by omega)
 have c4 : (1 ≤ (m : Int)) = True := eq_true (by omega)
 have c5 : ((m : Int) ≤ (x0.size : Int)) = True := eq_true (by omega)
 have c1 : (0 ≤ ((m + 1 : Nat) : Int)) = True := eq_true (by omega)
 have c2 : (((m + 1 : Nat) : Int) ≤ (x0.size : Int)) = True := eq_true (by omega)
 have c3 : (L.length < 2932031007402) = True := eq_true (by omega)
 simp only [rf07_Is.j2, ew, c0, c4, c5, c1, c2, c3, if_true, if_false, Int.toNat_natCast]
theorem ref_is7_at : ∀ (n : Nat) (x0 : ByteArray) (L : List S41) (d : Nat), x0.size ≤ n → x0.size ≤ d → x0.size + L.length ≤ 1099511627776 →
 ∃ ps, Ev (fun k => rf07_Is.l0 k x0 L) (isEnd (mP d (bs x0)) L ps) ∧ ∀ t, mP d (bs x0) = some t → ps.map pM = t := by
 intro n
 induction n with
 | zero =>
  intro x0 L d h1 h2 h3
  rcases bs_cases x0 with ⟨-, g2, g3⟩ | ⟨b, r, -, -, -, g4, -⟩
  · refine ⟨[], ?_, ?_⟩
    · rw [g2]
      have : mP d [] = some [] := by cases d <;> rfl
      rw [this]
      refine Ev.step (f := fun _ => some (L, true)) (fun k => by simp only [rf07_Is.l0]; rw [if_pos g3]) ?_
      simp only [isEnd, List.append_nil]
      exact Ev.now _
    · intro t ht
      rw [g2] at ht
      have : mP d [] = some [] := by cases d <;> rfl
      rw [this] at ht
      cases ht
      rfl
  · omega
 | succ n ih =>
  intro x0 L d h1 h2 h3
  rcases bs_cases x0 with ⟨-, g2, g3⟩ | ⟨b, r, hb, g2, g3, g4, g5, g6, g7⟩
  · refine ⟨[], ?_, ?_⟩
    · rw [g2]
      have : mP d [] = some [] := by cases d <;> rfl
      rw [this]
      refine Ev.step (f := fun _ => some (L, true)) (fun k => by simp only [rf07_Is.l0]; rw [if_pos g3]) ?_
      simp only [isEnd, List.append_nil]
      exact Ev.now _
    · intro t ht
      rw [g2] at ht
      have : mP d [] = some [] := by cases d <;> rfl
      rw [this] at ht
      cases ht
      rfl
  · obtain ⟨d, rfl⟩ : ∃ e, d = e + 1 := ⟨d - 1, by omega⟩
    rw [g2]
    simp only [mP]
    by_cases hb1 : b = 123
    · rw [if_pos hb1]
      have hl1 : ∀ R, Ev (fun k => rf07_Is.j2 k x0 L ((1 + shutAt r : Nat) : Int)) R → Ev (fun k => rf07_Is.l0 k x0 L) R := by
       intro R hR
       have hd1 : (bs x0).drop 1 = r := by rw [g2]; rfl
       refine Ev.step (f := fun k => rf07_Is.l1 k x0 L 1) (fun k => by simp only [rf07_Is.l0]; rw [if_neg g6, if_pos (by omega), if_pos (by omega)]) ?_
       exact ref_is7_l1 x0 L (by omega) R (x0.size - 1) 1 (by omega) (by rw [hd1]; exact hR)
      have hle := shutAt_le r
      by_cases hend : shutAt r = r.length
      · have hno := expr_open (r.length + 1) (opN r).2 fun b hb => shutAt_end hend b (opN_mem hb)
        rw [hno]
        refine ⟨[], hl1 _ ?_, fun t ht => by cases ht⟩
        exact Ev.step (f := fun _ => some ([], false)) (fun k => by simp only [rf07_Is.j2]; rw [if_pos (by omega)]) (Ev.now _)
      · obtain ⟨hsp, hin⟩ := shutAt_split (l := r) (by omega)
        generalize shutAt r = m at *
        have hbi : bs (x0.extract 1 (1 + m)) = r.take (m) := by rw [bs_extract, List.drop_take, show (bs x0).drop 1 = r by rw [g2]; rfl, show 1 + m - 1 = m by omega]
        have hbo : bs (x0.extract (1 + m + 1) x0.size) = r.drop (m + 1) := by rw [bs_from, g2, show 1 + m + 1 = (m + 1) + 1 by omega, List.drop_succ_cons]
        have hszi : (x0.extract 1 (1 + m)).size ≤ 1099511627776 := by rw [ByteArray.size_extract]; omega
        obtain ⟨l, k1, k2⟩ := ref_inside (x0.extract 1 (1 + m)) hszi (by rw [hbi]; exact hin) (r.drop (m + 1)) (r.length + 1) (by rw [hbi, ← hsp]; omega)
        rw [hbi, ← hsp] at k1 k2
        have hszo : (x0.extract (1 + m + 1) x0.size).size = r.length - (m + 1) := by rw [← bs_length, hbo, List.length_drop]
        have hj2 := fun R hR => ref_is7_j2 x0 L (by omega) (by omega) (1 + m) (by omega) (by omega) R hR
        cases hx : exprN (r.length + 1) (opN r).2 with
        | none =>
         rw [hx] at k1
         exact ⟨[], hl1 _ (hj2 _ (k1.bind (Ev.neg (by simp [insideEnd]) (Ev.now _)))), fun t ht => by cases ht⟩
        | some p =>
         obtain ⟨vs, t⟩ := p
         obtain ⟨m1, m2⟩ := k2 vs t hx
         rw [hx] at k1
         simp only
         obtain ⟨ps, w1, w2⟩ := ih (x0.extract (1 + m + 1) x0.size) (L ++ [⟨⟨#[]⟩, (opN r).1, l⟩]) d (by omega) (by omega) (by rw [List.length_append, List.length_singleton]; omega)
         rw [hbo, ← m2] at w1 w2
         refine ⟨⟨⟨#[]⟩, (opN r).1, l⟩ :: ps, hl1 _ (hj2 _ (k1.bind (Ev.pos rfl ?_))), ?_⟩
         · cases hm : mP d t with
           | none =>
            rw [hm] at w1
            exact w1
           | some q =>
            rw [hm] at w1
            simp only [isEnd, List.append_assoc, List.singleton_append] at w1 ⊢
            exact w1
         · intro q hq
           cases hm : mP d t with
           | none =>
            rw [hm] at hq
            cases hq
           | some q' =>
            rw [hm] at hq
            cases hq
            rw [List.map_cons, w2 q' hm]
            simp only [pM, m1, bs_nil]
    · rw [if_neg hb1]
      have hl2 : ∀ R, Ev (l2End x0 L (piecesN (r.length + 2) (b :: r))) R → Ev (fun k => rf07_Is.l0 k x0 L) R := by
       intro R hR
       refine Ev.step (f := fun k => rf07_Is.l2 k x0 L 0) (fun k => by simp only [rf07_Is.l0]; rw [if_neg g6, if_pos (by omega), if_neg (by omega)]) ?_
       refine ref_is7_l2 x0 L (by omega) (by omega) R (r.length + 2) 0 (by omega) (by omega) ?_
       rw [List.drop_zero, Nat.zero_add, g2]
       exact hR
      by_cases hz : piecesN (r.length + 2) (b :: r) = 0
      · rw [if_pos hz]
        exact ⟨[], hl2 _ (Ev.congr (f := fun _ => some ([], false)) (fun k => by simp only [l2End]; rw [if_pos hz]) (Ev.now _)), fun t ht => by cases ht⟩
      · rw [if_neg hz]
        obtain ⟨q1, -⟩ := pieces_top (r.length + 2) (b :: r)
        have hbo : bs (x0.extract (piecesN (r.length + 2) (b :: r)) x0.size) = (b :: r).drop (piecesN (r.length + 2) (b :: r)) := by rw [bs_from, g2]
        have hbu : bs (x0.extract 0 (piecesN (r.length + 2) (b :: r))) = (b :: r).take (piecesN (r.length + 2) (b :: r)) := by rw [bs_upto, g2]
        generalize piecesN (r.length + 2) (b :: r) = m at *
        rw [List.length_cons] at q1
        have hszo : (x0.extract m x0.size).size = x0.size - m := bs_size_from x0 m
        obtain ⟨ps, w1, w2⟩ := ih (x0.extract m x0.size) (L ++ [⟨x0.extract 0 m, 0, []⟩]) d (by omega) (by omega) (by rw [List.length_append, List.length_singleton]; omega)
        rw [hbo] at w1 w2
        refine ⟨⟨x0.extract 0 m, 0, []⟩ :: ps, hl2 _ (Ev.congr (f := fun k => rf07_Is.l0 k (x0.extract m x0.size) (L ++ [⟨x0.extract 0 m, 0, []⟩])) (fun k => by simp only [l2End]; rw [if_neg hz]) ?_), ?_⟩
        · cases hm : mP d ((b :: r).drop m) with
          | none =>
           rw [hm] at w1
           exact w1
          | some q =>
           rw [hm] at w1
           simp only [isEnd, List.append_assoc, List.singleton_append] at w1 ⊢
           exact w1
        · intro q hq
          cases hm : mP d ((b :: r).drop m) with
          | none =>
           rw [hm] at hq
           cases hq
          | some q' =>
           rw [hm] at hq
           cases hq
           rw [List.map_cons, w2 q' hm]
           simp only [pM, hbu, List.map_nil]
theorem ref_is7 (s : ByteArray) (hs : s.size ≤ 1099511627776) : ∃ ps ok, Ev (fun k => rf07_Is.f k s) (ps, ok) ∧ (ok = true ↔ run step .top (bs s) = some .top) ∧ (ok = true → mP s.size (bs s) = some (ps.map pM)) := by
 obtain ⟨ps, h1, h2⟩ := ref_is7_at s.size s [] s.size (Nat.le_refl _) (Nat.le_refl _) (by simp; exact hs)
 have h3 := mP_run s.size (bs s) (by rw [bs_length]; exact Nat.le_refl _)
 cases hm : mP s.size (bs s) with
 | none =>
  rw [hm] at h1 h3
  refine ⟨[], false, h1, ?_, fun h => by cases h⟩
  rw [← h3]
  constructor
  · intro h
    cases h
  · rintro ⟨t, h⟩
    cases h
 | some t =>
  rw [hm] at h1 h3
  exact ⟨ps, true, h1, ⟨fun _ => h3.1 ⟨t, rfl⟩, fun _ => rfl⟩, fun _ => by rw [h2 t hm]⟩
end Go.Proofs.YtkipkbggnfllkaaGreatDoor.P
end
section
namespace Go.Proofs.YtkipkbggnfllkaaGreatDoor.P
set_option linter.unusedVariables false
set_option linter.unusedSimpArgs false
def Tail (p : List Nat) : Q → Prop
 | .u m => ∃ a, p = a ++ m ∧ run step .top a = some .top ∧ fits m = true ∧ ucsAt m ≠ m.length
 | _ => True
theorem tail_step {p : List Nat} {q q' : Q} {b : Nat} (hr : run step .top p = some q) (h : Tail p q) (hs : step q b = some q') : Tail (p ++ [b]) q' := by
 cases q' with
 | u m =>
  cases q with
  | top =>
   simp only [step] at hs
   repeat' split at hs
   all_goals first | cases hs | skip
   rename_i hf
   exact ⟨p, rfl, hr, hf, by simp [ucsAt]⟩
  | u m' =>
   obtain ⟨a, rfl, h1, h2, h3⟩ := h
   simp only [step] at hs
   split at hs
   · cases hs
   · rename_i hn
     split at hs
     · rename_i hf
       cases hs
       exact ⟨a, by simp, h1, hf, by rw [List.length_append]; exact hn⟩
     · cases hs
  | _ =>
   exfalso
   simp only [step, nsStep, fin] at hs
   repeat' split at hs
   all_goals cases hs
 | _ => trivial
theorem tail_run : ∀ (r p : List Nat) (q q' : Q), run step .top p = some q → Tail p q → run step q r = some q' → Tail (p ++ r) q'
 | [], p, q, q', hr, h, hs => by
  obtain rfl := Option.some.inj hs
  rw [List.append_nil]
  exact h
 | b :: r, p, q, q', hr, h, hs => by
  cases e : step q b with
  | none =>
   rw [run_none e] at hs
   cases hs
  | some q2 =>
   rw [run_some e] at hs
   have := tail_run r (p ++ [b]) q2 q' (by rw [run_append, hr, Option.bind_some, run_some e, run_nil]) (tail_step hr h e) hs
   rw [List.append_assoc] at this
   exact this
theorem tail_of {l : List Nat} {m : List Nat} (h : run step .top l = some (.u m)) : ∃ a, l = a ++ m ∧ run step .top a = some .top ∧ fits m = true ∧ 1 ≤ m.length ∧ m.length ≤ 3 := by
 obtain ⟨a, h1, h2, h3, h4⟩ := tail_run l [] .top (.u m) rfl trivial h
 rw [List.nil_append] at h1
 have hl := fits_length h3
 refine ⟨a, h1, h2, h3, hl.1, ?_⟩
 refine Classical.byContradiction fun g => ?_
 have h4' : m.length = 4 := by omega
 match m, h4', h3, h4 with
 | [b0, b1, b2, b3], _, h3, h4 => exact h4 (fits_four h3)
theorem fits_alive {m : List Nat} (h : fits m = true) (hl : m.length ≤ 3) : ∃ q, run step .top m = some q := by
 have lead : ∀ b r, fits (b :: r) = true → 192 ≤ b := fun b r g => by
  refine Classical.byContradiction fun k => ?_
  rw [fits_low b r (by omega)] at g
  cases g
 match m, h, hl with
 | [], h, _ => cases h
 | [b0], h, _ =>
  refine ⟨.u [b0], ?_⟩
  rw [run_some (by rw [step_u (lead _ _ h), if_pos h]), run_nil]
 | [b0, b1], h, _ =>
  have h1 : fits [b0] = true := fits_cut (l := [b0]) h (by simp)
  by_cases hw : ucsAt [b0, b1] = 2
  · exact ⟨.top, by rw [run_some (by rw [step_u (lead _ _ h), if_pos h1]), run_some (step_u_top (l := [b0]) hw), run_nil]⟩
  · exact ⟨.u [b0, b1], by rw [run_some (by rw [step_u (lead _ _ h), if_pos h1]), run_some (step_u_next (l := [b0]) hw h), run_nil]; rfl⟩
 | [b0, b1, b2], h, _ =>
  have h2 : fits [b0, b1] = true := fits_cut (l := [b0, b1]) h (by simp)
  have h1 : fits [b0] = true := fits_cut (l := [b0]) h2 (by simp)
  have hw2 : ucsAt [b0, b1] ≠ 2 := by
   intro g
   have := fits_whole (l := [b0, b1]) (m := [b2]) g (by simp) (by simp)
   rw [List.cons_append, List.cons_append, List.nil_append, h] at this
   cases this
  have s2 : step (.u [b0]) b1 = some (.u [b0, b1]) := step_u_next (l := [b0]) hw2 h2
  by_cases hw : ucsAt [b0, b1, b2] = 3
  · exact ⟨.top, by rw [run_some (by rw [step_u (lead _ _ h), if_pos h1]), run_some s2, run_some (step_u_top (l := [b0, b1]) hw), run_nil]⟩
  · exact ⟨.u [b0, b1, b2], by rw [run_some (by rw [step_u (lead _ _ h), if_pos h1]), run_some s2, run_some (step_u_next (l := [b0, b1]) hw h), run_nil]; rfl⟩
 | _ :: _ :: _ :: _ :: _, _, hl => simp at hl
def endsN : List (List Nat) := [[], [52, 49], [49], [97, 125], [125], [49, 125], [52, 49, 125]]
theorem ending (q : Q) (hq : ∀ m, q ≠ .u m) : ∃ e, e ∈ endsN ∧ run step q e = some .top := by
 cases q with
 | u m => exact absurd rfl (hq m)
 | top => exact ⟨[], by simp [endsN], rfl⟩
 | p1 => exact ⟨[52, 49], by simp [endsN], rfl⟩
 | p2 => exact ⟨[49], by simp [endsN], rfl⟩
 | e0 => exact ⟨[97, 125], by simp [endsN], rfl⟩
 | ns => exact ⟨[97, 125], by simp [endsN], rfl⟩
 | n => exact ⟨[125], by simp [endsN], rfl⟩
 | nd => exact ⟨[97, 125], by simp [endsN], rfl⟩
 | np1 => exact ⟨[52, 49, 125], by simp [endsN], rfl⟩
 | np2 => exact ⟨[49, 125], by simp [endsN], rfl⟩
 | st => exact ⟨[125], by simp [endsN], rfl⟩
 | c k =>
  by_cases hk : k = 0
  · subst hk
    exact ⟨[49, 125], by simp [endsN], rfl⟩
  · refine ⟨[125], by simp [endsN], ?_⟩
    have : step (.c k) 125 = some .top := (step_final (q := .c k) (decide_eq_true hk)).2
    rw [run_some this, run_nil]
theorem alive_iff (l : List Nat) : (∃ q, run step .top l = some q) ↔ ((∃ e, e ∈ endsN ∧ run step .top (l ++ e) = some .top) ∨
 ∃ n, 1 ≤ n ∧ n ≤ 3 ∧ n ≤ l.length ∧ run step .top (l.take (l.length - n)) = some .top ∧ fits (l.drop (l.length - n)) = true) := by
 constructor
 · rintro ⟨q, h⟩
   by_cases hq : ∃ m, q = .u m
   · obtain ⟨m, rfl⟩ := hq
     obtain ⟨a, rfl, h1, h2, h3, h4⟩ := tail_of h
     refine .inr ⟨m.length, h3, h4, by simp, ?_, ?_⟩
     · rw [List.length_append, Nat.add_sub_cancel, List.take_left]
       exact h1
     · rw [List.length_append, Nat.add_sub_cancel, List.drop_left]
       exact h2
   · obtain ⟨e, h1, h2⟩ := ending q fun m g => hq ⟨m, g⟩
     exact .inl ⟨e, h1, by rw [run_append, h, Option.bind_some, h2]⟩
 · rintro (⟨e, -, h⟩ | ⟨n, h1, h2, h3, h4, h5⟩)
   · rw [run_append] at h
     cases hr : run step .top l with
     | none =>
      rw [hr] at h
      cases h
     | some q => exact ⟨q, rfl⟩
   · obtain ⟨q, hq⟩ := fits_alive h5 (by rw [List.length_drop]; omega)
     refine ⟨q, ?_⟩
     conv => lhs; rw [← List.take_append_drop (l.length - n) l]
     rw [run_append, h4, Option.bind_some, hq]
end Go.Proofs.YtkipkbggnfllkaaGreatDoor.P
end
section
namespace Go.Proofs.YtkipkbggnfllkaaGreatDoor.P
open Go.RowKit Go.Proofs.YtkipkbggnfllkaaGreatDoorW.PrintWords Go.Proofs.YtkipkbggnfllkaaGreatDoorW.PrintLast Go.Proofs.YtkipkbggnfllkaaGreatDoorW.PrintMore
set_option linter.unusedVariables false
set_option linter.unusedSimpArgs false
def endsB : List ByteArray := [(⟨#[]⟩ : ByteArray), (⟨#[52, 49]⟩ : ByteArray), (⟨#[49]⟩ : ByteArray), (⟨#[97, 125]⟩ : ByteArray), (⟨#[125]⟩ : ByteArray), (⟨#[49, 125]⟩ : ByteArray), (⟨#[52, 49, 125]⟩ : ByteArray)]
theorem endsB_map : endsB.map bs = endsN := rfl
theorem ref_begins_l1 (s : ByteArray) (hs : s.size ≤ 1000000000) : ∀ (j n : Nat), n + j = 4 → 1 ≤ n → ∃ r, Ev (fun k => rf07_Begins.l1 k s (n : Int)) r ∧
 (r = true ↔ ∃ m, n ≤ m ∧ m ≤ 3 ∧ m ≤ (bs s).length ∧ run step .top ((bs s).take ((bs s).length - m)) = some .top ∧ fits ((bs s).drop ((bs s).length - m)) = true)
 | 0, n, hn, h1 => by
  refine ⟨false, ?_, ?_⟩
  · refine Ev.step (f := fun k => rf07_Begins.j2 k s (n : Int) false) (fun k => by simp only [rf07_Begins.l1]; rw [if_neg (by omega)]) ?_
    exact Ev.step (f := fun _ => some false) (fun k => by simp only [rf07_Begins.j2]; rw [if_neg (by simp)]) (Ev.now _)
  · constructor
    · intro h
      cases h
    · rintro ⟨m, g1, g2, -⟩
      omega
 | j + 1, n, hn, h1 => by
  by_cases h : n ≤ s.size
  · obtain ⟨r, hr1, hr2⟩ := ref_begins_l1 s hs j (n + 1) (by omega) (by omega)
    have ew : wrap64 ((s.size : Int) - (n : Int)) = ((s.size - n : Nat) : Int) := by rw [w64 (by omega) (by omega)]; omega
    have ew2 : wrap64 ((n : Int) + 1) = ((n + 1 : Nat) : Int) := by rw [w64 (by omega) (by omega)]; omega
    have hu : bs (s.extract 0 (s.size - n)) = (bs s).take ((bs s).length - n) := by rw [bs_upto, bs_length]
    have hf : bs (s.extract (s.size - n) s.size) = (bs s).drop ((bs s).length - n) := by rw [bs_from, bs_length]
    obtain ⟨ps, ok, hk1, hk2, -⟩ := ref_is7 (s.extract 0 (s.size - n)) (by rw [ByteArray.size_extract]; omega)
    rw [hu] at hk2
    have hfit := ref_fits (s.extract (s.size - n) s.size) (by rw [ByteArray.size_extract]; omega)
    rw [hf] at hfit
    have hstep : ∀ r', Ev (fun k => (rf07_Is.f k (s.extract 0 (s.size - n))).bind fun bt224 => (if bt224.2 = true then ((rf04_Fits.f k (s.extract (s.size - n) s.size)).bind fun t228 => (if t228 = true then (some true) else (rf07_Begins.l1 k s ((n + 1 : Nat) : Int)))) else (rf07_Begins.l1 k s ((n + 1 : Nat) : Int)))) r' →
     Ev (fun k => rf07_Begins.l1 k s (n : Int)) r' := by
     intro r' hr'
     refine Ev.step (f := fun k => rf07_Begins.j2 k s (n : Int) true) (fun k => by simp only [rf07_Begins.l1]; rw [if_pos (by omega), decide_eq_true (by omega)]) ?_
     refine Ev.step (f := _) (fun k => ?_) hr'
     have c1 : (0 ≤ ((s.size - n : Nat) : Int)) = True := eq_true (by omega)
     have c2 : (((s.size - n : Nat) : Int) ≤ (s.size : Int)) = True := eq_true (by omega)
     simp only [rf07_Begins.j2, ew, ew2, c1, c2, if_true, Int.toNat_natCast]
    cases ok with
    | false =>
     refine ⟨r, hstep r (hk1.bind (Ev.neg (by simp) hr1)), ?_⟩
     rw [hr2]
     constructor
     · rintro ⟨m, g1, g2⟩
       exact ⟨m, by omega, g2⟩
     · rintro ⟨m, g1, g2, g3, g4, g5⟩
       by_cases e : m = n
       · subst e
         cases hk2.2 g4
       · exact ⟨m, by omega, g2, g3, g4, g5⟩
    | true =>
     cases hb : fits ((bs s).drop ((bs s).length - n)) with
     | true =>
      rw [hb] at hfit
      refine ⟨true, hstep true (hk1.bind (Ev.pos rfl (hfit.bind (Ev.pos rfl (Ev.now _))))), ?_⟩
      exact ⟨fun _ => ⟨n, Nat.le_refl _, by omega, by rw [bs_length]; exact h, hk2.1 rfl, hb⟩, fun _ => rfl⟩
     | false =>
      rw [hb] at hfit
      refine ⟨r, hstep r (hk1.bind (Ev.pos rfl (hfit.bind (Ev.neg (by simp) hr1)))), ?_⟩
      rw [hr2]
      constructor
      · rintro ⟨m, g1, g2⟩
        exact ⟨m, by omega, g2⟩
      · rintro ⟨m, g1, g2, g3, g4, g5⟩
        by_cases e : m = n
        · subst e
          rw [hb] at g5
          cases g5
        · exact ⟨m, by omega, g2, g3, g4, g5⟩
  · refine ⟨false, ?_, ?_⟩
    · refine Ev.step (f := fun k => rf07_Begins.j2 k s (n : Int) false) (fun k => by simp only [rf07_Begins.l1]; rw [if_pos (by omega), decide_eq_false (by omega)]) ?_
      exact Ev.step (f := fun _ => some false) (fun k => by simp only [rf07_Begins.j2]; rw [if_neg (by simp)]) (Ev.now _)
    · constructor
      · intro h
        cases h
      · rintro ⟨m, g1, g2, g3, -⟩
        rw [bs_length] at g3
        omega
theorem ref_begins_l0 (s : ByteArray) (hs : s.size ≤ 1000000000) (E : List ByteArray) (hE : ∀ e ∈ E, e.size ≤ 3) (hE2 : E.length ≤ 100) (Z : Prop) (hZ : ∃ r, Ev (fun k => rf07_Begins.l1 k s 1) r ∧ (r = true ↔ Z)) :
 ∀ (es : List ByteArray) (i : Nat), E.drop i = es → ∃ r, Ev (fun k => rf07_Begins.l0 k s E (i : Int)) r ∧ (r = true ↔ (∃ e, e ∈ es ∧ run step .top (bs s ++ bs e) = some .top) ∨ Z)
 | [], i, he => by
  have hi : E.length ≤ i := List.drop_eq_nil_iff.1 he
  obtain ⟨r, h1, h2⟩ := hZ
  refine ⟨r, Ev.step (f := _) (fun k => by simp only [rf07_Begins.l0]; rw [if_neg (by omega)]) h1, ?_⟩
  rw [h2]
  exact ⟨fun h => .inr h, fun h => by
   rcases h with ⟨e, he, -⟩ | h
   · cases he
   · exact h⟩
 | e :: es, i, he => by
  have hi : i < E.length := by
   refine Classical.byContradiction fun g => ?_
   rw [List.drop_eq_nil_of_le (by omega)] at he
   cases he
  have hget : E[i]? = some e := by rw [← List.head?_drop, he]; rfl
  have hrd : rdOf ByteArray.empty E (i : Int) = e := by
   unfold rdOf
   rw [Int.toNat_natCast, List.getD_eq_getElem?_getD, hget]
   rfl
  have hnext : E.drop (i + 1) = es := by
   have := congrArg List.tail he
   rw [List.tail_drop] at this
   exact this
  have hmem := hE e (List.mem_of_getElem? hget)
  obtain ⟨r, h1, h2⟩ := ref_begins_l0 s hs E hE hE2 Z hZ es (i + 1) hnext
  have hsz : (s ++ e).size = s.size + e.size := ByteArray.size_append
  obtain ⟨ps, ok, hk1, hk2, -⟩ := ref_is7 (s ++ e) (by omega)
  rw [bs_append] at hk2
  have hstep : ∀ r', Ev (fun k => (rf07_Is.f k (s ++ e)).bind fun bt220 => (if bt220.2 = true then (some true) else (rf07_Begins.l0 k s E ((i + 1 : Nat) : Int)))) r' → Ev (fun k => rf07_Begins.l0 k s E (i : Int)) r' := by
   intro r' hr'
   refine Ev.step (f := _) (fun k => ?_) hr'
   have ew : wrap64 ((i : Int) + 1) = ((i + 1 : Nat) : Int) := by rw [w64 (by omega) (by omega)]; omega
   have c1 : ((i : Int) < (E.length : Int)) = True := eq_true (by omega)
   have c2 : (0 ≤ (i : Int)) = True := eq_true (by omega)
   have c3 : (s.size + e.size ≤ 9223372036854775807) = True := eq_true (by omega)
   simp only [rf07_Begins.l0, ew, c1, c2, hrd, c3, if_true]
  cases ok with
  | true =>
   refine ⟨true, hstep true (hk1.bind (Ev.pos rfl (Ev.now _))), ?_⟩
   exact ⟨fun _ => .inl ⟨e, by simp, hk2.1 rfl⟩, fun _ => rfl⟩
  | false =>
   refine ⟨r, hstep r (hk1.bind (Ev.neg (by simp) h1)), ?_⟩
   rw [h2]
   constructor
   · rintro (⟨x, hx, h⟩ | h)
     · exact .inl ⟨x, List.mem_cons_of_mem _ hx, h⟩
     · exact .inr h
   · rintro (⟨x, hx, h⟩ | h)
     · rcases List.mem_cons.1 hx with rfl | hx
       · cases hk2.2 h
       · exact .inl ⟨x, hx, h⟩
     · exact .inr h
theorem ref_begins (s : ByteArray) (hs : s.size ≤ 1000000000) : ∃ r, Ev (fun k => rf07_Begins.f k s) r ∧ (r = true ↔ ∃ q, run step .top (bs s) = some q) := by
 obtain ⟨r, h1, h2⟩ := ref_begins_l0 s hs endsB (by decide) (by decide) _ (ref_begins_l1 s hs 3 1 (by omega) (by omega)) endsB 0 rfl
 refine ⟨r, h1, ?_⟩
 rw [h2, alive_iff, ← endsB_map]
 constructor
 · rintro (⟨e, he, h⟩ | h)
   · exact .inl ⟨bs e, List.mem_map_of_mem he, h⟩
   · exact .inr h
 · rintro (⟨e, he, h⟩ | h)
   · obtain ⟨x, hx, rfl⟩ := List.mem_map.1 he
     exact .inl ⟨x, hx, h⟩
   · exact .inr h
theorem ref_parse_l0 (s : ByteArray) (hs : s.size ≤ 1000000000) : ∀ (n i : Nat), i + n = s.size → i ≤ far step .top (bs s) → Ev (fun k => rf07_Parse.l0 k s (i : Int)) (([] : List S41), ((far step .top (bs s) : Nat) : Int), 2)
 | 0, i, hi, hf => by
  have := far_le (f := step) (bs s) .top
  rw [bs_length] at this
  obtain rfl : i = far step .top (bs s) := by omega
  exact Ev.step (f := fun _ => some (([] : List S41), ((far step .top (bs s) : Nat) : Int), 2)) (fun k => by simp only [rf07_Parse.l0]; rw [if_neg (by omega)]) (Ev.now _)
 | n + 1, i, hi, hf => by
  have ew : wrap64 ((i : Int) + 1) = ((i + 1 : Nat) : Int) := by rw [w64 (by omega) (by omega)]; omega
  obtain ⟨r, h1, h2⟩ := ref_begins (s.extract 0 (i + 1)) (by rw [ByteArray.size_extract]; omega)
  rw [bs_upto, run_take (by rw [bs_length]; omega)] at h2
  have hstep : ∀ r', Ev (fun k => (rf07_Begins.f k (s.extract 0 (i + 1))).bind fun t233 => (if t233 = true then (rf07_Parse.l0 k s ((i + 1 : Nat) : Int)) else (some (([] : List S41), (i : Int), 2)))) r' → Ev (fun k => rf07_Parse.l0 k s (i : Int)) r' := by
   intro r' hr'
   refine Ev.step (f := _) (fun k => ?_) hr'
   have c1 : ((i : Int) < (s.size : Int)) = True := eq_true (by omega)
   have c2 : (0 ≤ ((i + 1 : Nat) : Int)) = True := eq_true (by omega)
   have c3 : (((i + 1 : Nat) : Int) ≤ (s.size : Int)) = True := eq_true (by omega)
   simp only [rf07_Parse.l0, ew, c1, c2, c3, if_true, Int.toNat_natCast]
  cases r with
  | true => exact hstep _ (h1.bind (Ev.pos rfl (ref_parse_l0 s hs n (i + 1) (by omega) (h2.1 rfl))))
  | false =>
   have : i = far step .top (bs s) := by
    refine Classical.byContradiction fun g => ?_
    cases h2.2 (by omega)
   rw [← this]
   exact hstep _ (h1.bind (Ev.neg (by simp) (Ev.now _)))
theorem ref_parse (s : ByteArray) (hs : s.size ≤ 1000000000) :
 (run step .top (bs s) = some .top → ∃ ps, mP s.size (bs s) = some (ps.map pM) ∧ Ev (fun k => rf07_Parse.f k s) (ps, (s.size : Int), 0)) ∧
 (run step .top (bs s) ≠ some .top → Ev (fun k => rf07_Parse.f k s) (([] : List S41), ((far step .top (bs s) : Nat) : Int), 2)) := by
 obtain ⟨ps, ok, h1, h2, h3⟩ := ref_is7 s (by omega)
 constructor
 · intro h
   have hok := h2.2 h
   subst hok
   exact ⟨ps, h3 rfl, h1.bind (Ev.pos rfl (Ev.now _))⟩
 · intro h
   have hok : ok = false := by
    cases ok with
    | false => rfl
    | true => exact absurd (h2.1 rfl) h
   subst hok
   exact h1.bind (Ev.neg (by simp) (ref_parse_l0 s hs s.size 0 (by omega) (Nat.zero_le _)))
end Go.Proofs.YtkipkbggnfllkaaGreatDoor.P
end
