/- What is proved here is used by the law's card: Fucsends, Ucs, FucsFits, FucsMay, FucsTake, PctOne, Ftmplpiece, Ftmplpieces, Builder, Figs, Join, PutVar, PutText, Fphalaroperef07Few, Q43, Fphalaroperef07Same. -/
import Derived.Test.YtkipkbggnfllkaaDoorCk1
import Derived.Laws.Rows
import Derived.RegionTactic
import Derived.ChangeAlike
import Derived.BigRegion
import Derived.Lib.Hide
import Derived.Test.YtkipkbggnfllkaaDoorProg
import Derived.Lib.Strings
import Derived.Lib.Slices
import Derived.Lib.Walk
import Derived.Lib.Builder
import Derived.Lib.OthersKept
import Derived.Lib.AppendStr
import Derived.Lib.UnsafeStr
import Derived.Lib.MakeNoZero
import Derived.Shelf.Strings.BuilderX
import Derived.WalkKit
import Derived.Laws.Externs
import Derived.Laws.IdiomCopy
import Derived.KernelRfl
section
namespace Go.Proofs.YtkipkbggnfllkaaDoor.P
open Go.RowKit Go.Proofs.YtkipkbggnfllkaaDoorW.PrintWords Go.Proofs.YtkipkbggnfllkaaDoorW.PrintLast Go.Proofs.YtkipkbggnfllkaaDoorW.PrintMore
attribute [local go_sem] max2_int min2_int max_two min_two max_three min_three max_four min_four
set_option linter.unusedVariables false
set_option linter.unusedSimpArgs false
def ucs_ends.f (a0 : ByteArray) : Option (Int × Int × Bool) := (ucs_filled.f a0 128).bind fun bt320 => ((ucs_filled.f a0 191).bind fun bt322 => (if a0.toList = ([224] : List UInt8) then ((ucs_filled.f (⟨#[224, 160]⟩ : ByteArray) 128).bind fun bt324 => (if bt324.2 = true then (some (bt324.1, bt322.1, bt322.2)) else (some (bt324.1, bt322.1, false)))) else (if a0.toList = ([240] : List UInt8) then ((ucs_filled.f (⟨#[240, 144]⟩ : ByteArray) 128).bind fun bt326 => (if bt326.2 = true then (some (bt326.1, bt322.1, bt322.2)) else (some (bt326.1, bt322.1, false)))) else (if a0.toList = ([237] : List UInt8) then ((ucs_filled.f (⟨#[237, 159]⟩ : ByteArray) 191).bind fun bt328 => (if bt320.2 = true then (some (bt320.1, bt328.1, bt328.2)) else (some (bt320.1, bt328.1, false)))) else (if a0.toList = ([244] : List UInt8) then ((ucs_filled.f (⟨#[244, 143]⟩ : ByteArray) 191).bind fun bt330 => (if bt320.2 = true then (some (bt320.1, bt330.1, bt330.2)) else (some (bt320.1, bt330.1, false)))) else (if bt320.2 = true then (some (bt320.1, bt322.1, bt322.2)) else (some (bt320.1, bt322.1, false))))))))
set_option maxHeartbeats 8000000 in
set_option maxRecDepth 100000 in
theorem ucs_ends.calls (a0 : ByteArray) (r1 : Int) (r2 : Int) (r3 : Bool) (w : World) (h : ucs_ends.f a0 = some (r1, r2, r3)) :
 Calls Tryd.prog 73 #[.string a0] w fun e w' => e = .returned (.tuple #[.int .i64 r1, .int .i64 r2, .bool r3]) ∧ Below w.heap.size w w' := by
 have HB := Aside0.mk (Below.refl w.heap.size w)
 have H : ((ucs_filled.f a0 128).bind fun bt320 => ((ucs_filled.f a0 191).bind fun bt322 => (if a0.toList = ([224] : List UInt8) then ((ucs_filled.f (⟨#[224, 160]⟩ : ByteArray) 128).bind fun bt324 => (if bt324.2 = true then (some (bt324.1, bt322.1, bt322.2)) else (some (bt324.1, bt322.1, false)))) else (if a0.toList = ([240] : List UInt8) then ((ucs_filled.f (⟨#[240, 144]⟩ : ByteArray) 128).bind fun bt326 => (if bt326.2 = true then (some (bt326.1, bt322.1, bt322.2)) else (some (bt326.1, bt322.1, false)))) else (if a0.toList = ([237] : List UInt8) then ((ucs_filled.f (⟨#[237, 159]⟩ : ByteArray) 191).bind fun bt328 => (if bt320.2 = true then (some (bt320.1, bt328.1, bt328.2)) else (some (bt320.1, bt328.1, false)))) else (if a0.toList = ([244] : List UInt8) then ((ucs_filled.f (⟨#[244, 143]⟩ : ByteArray) 191).bind fun bt330 => (if bt320.2 = true then (some (bt320.1, bt330.1, bt330.2)) else (some (bt320.1, bt330.1, false)))) else (if bt320.2 = true then (some (bt320.1, bt322.1, bt322.2)) else (some (bt320.1, bt322.1, false))))))))) = some (r1, r2, r3) := h
 clear h
 replace H := Option.bind_eq_some_iff.mp H
 obtain ⟨⟨t320, t321⟩, A20, H⟩ := H
 replace H : ((ucs_filled.f a0 191).bind fun bt322 => (if a0.toList = ([224] : List UInt8) then ((ucs_filled.f (⟨#[224, 160]⟩ : ByteArray) 128).bind fun bt324 => (if bt324.2 = true then (some (bt324.1, bt322.1, bt322.2)) else (some (bt324.1, bt322.1, false)))) else (if a0.toList = ([240] : List UInt8) then ((ucs_filled.f (⟨#[240, 144]⟩ : ByteArray) 128).bind fun bt326 => (if bt326.2 = true then (some (bt326.1, bt322.1, bt322.2)) else (some (bt326.1, bt322.1, false)))) else (if a0.toList = ([237] : List UInt8) then ((ucs_filled.f (⟨#[237, 159]⟩ : ByteArray) 191).bind fun bt328 => (if t321 = true then (some (t320, bt328.1, bt328.2)) else (some (t320, bt328.1, false)))) else (if a0.toList = ([244] : List UInt8) then ((ucs_filled.f (⟨#[244, 143]⟩ : ByteArray) 191).bind fun bt330 => (if t321 = true then (some (t320, bt330.1, bt330.2)) else (some (t320, bt330.1, false)))) else (if t321 = true then (some (t320, bt322.1, bt322.2)) else (some (t320, bt322.1, false)))))))) = some (r1, r2, r3) := H
 have A2 := Aside0.mk A20
 clear A20
 replace H := Option.bind_eq_some_iff.mp H
 obtain ⟨⟨t322, t323⟩, A30, H⟩ := H
 replace H : (if a0.toList = ([224] : List UInt8) then ((ucs_filled.f (⟨#[224, 160]⟩ : ByteArray) 128).bind fun bt324 => (if bt324.2 = true then (some (bt324.1, t322, t323)) else (some (bt324.1, t322, false)))) else (if a0.toList = ([240] : List UInt8) then ((ucs_filled.f (⟨#[240, 144]⟩ : ByteArray) 128).bind fun bt326 => (if bt326.2 = true then (some (bt326.1, t322, t323)) else (some (bt326.1, t322, false)))) else (if a0.toList = ([237] : List UInt8) then ((ucs_filled.f (⟨#[237, 159]⟩ : ByteArray) 191).bind fun bt328 => (if t321 = true then (some (t320, bt328.1, bt328.2)) else (some (t320, bt328.1, false)))) else (if a0.toList = ([244] : List UInt8) then ((ucs_filled.f (⟨#[244, 143]⟩ : ByteArray) 191).bind fun bt330 => (if t321 = true then (some (t320, bt330.1, bt330.2)) else (some (t320, bt330.1, false)))) else (if t321 = true then (some (t320, t322, t323)) else (some (t320, t322, false))))))) = some (r1, r2, r3) := H
 have A3 := Aside0.mk A30
 clear A30
 by_cases c4 : a0.toList = ([224] : List UInt8)
 · rw [if_pos c4] at H
   have c4b0 : (a0.toList == ([224] : List UInt8)) = true := beq_iff_eq.mpr c4
   have c4b1 : (a0.toList != ([224] : List UInt8)) = false := bne_eq_false_iff_eq.mpr c4
   clear c4
   replace H := Option.bind_eq_some_iff.mp H
   obtain ⟨⟨t324, t325⟩, A50, H⟩ := H
   replace H : (if t325 = true then (some (t324, t322, t323)) else (some (t324, t322, false))) = some (r1, r2, r3) := H
   have A5 := Aside0.mk A50
   clear A50
   by_cases c6 : t325 = true
   · subst c6
     have H1 : (some (t324, t322, t323)) = some (r1, r2, r3) := by rw [if_pos rfl] at H; exact H
     clear H
     have H := H1
     clear H1
     simp only [Option.some.injEq, Prod.mk.injEq] at H
     obtain ⟨rfl, rfl, rfl⟩ := H
     go_enter Tryd.func73, Tryd.ntmps73
     go_wp2_with (first | ((with_reducible refine gate_callee (f := 88) rfl ?_); refine goesL_ (some 11) rfl rfl Tryd.func88 (by kernel_rfl) rfl #[.string a0, .int .u8 128] rfl (by (try simp only [List.map_toArray, List.map_cons, List.map_nil]); first | done | rfl | (simp only [List.length_drop, List.length_take]; rfl)) ?_; (with_reducible refine (ucs_filled.calls a0 128 t320 t321 _ A2.out).mono ?_); rintro e w7 ⟨rfl, hb⟩; refine ⟨_, rfl, ?_⟩; have n0_ := Aside0.mk (below_step (by repeat (first | (with_reducible first | exact HB.out | apply below_alloc | apply pw_below_drewN | apply below_drew1) | exact HB.out)) hb); clear HB; have HB := n0_; clear n0_; (try clear hb); (try clear hb2); (try clear hk); (try clear hi)) | ((with_reducible refine gate_callee (f := 88) rfl ?_); refine goesL_ (some 16) rfl rfl Tryd.func88 (by kernel_rfl) rfl #[.string a0, .int .u8 191] rfl (by (try simp only [List.map_toArray, List.map_cons, List.map_nil]); first | done | rfl | (simp only [List.length_drop, List.length_take]; rfl)) ?_; (with_reducible refine (ucs_filled.calls a0 191 t322 t323 _ A3.out).mono ?_); rintro e w8 ⟨rfl, hb⟩; refine ⟨_, rfl, ?_⟩; have n0_ := Aside0.mk (below_step (by repeat (first | (with_reducible first | exact HB.out | apply below_alloc | apply pw_below_drewN | apply below_drew1) | exact HB.out)) hb); clear HB; have HB := n0_; clear n0_; (try clear hb); (try clear hb2); (try clear hk); (try clear hi)) | ((with_reducible refine gate_callee (f := 88) rfl ?_); refine goesL_ (some 23) rfl rfl Tryd.func88 (by kernel_rfl) rfl #[.string (⟨#[224, 160]⟩ : ByteArray), .int .u8 128] rfl (by (try simp only [List.map_toArray, List.map_cons, List.map_nil]); first | done | rfl | (simp only [List.length_drop, List.length_take]; rfl)) ?_; (with_reducible refine (ucs_filled.calls (⟨#[224, 160]⟩ : ByteArray) 128 t324 true _ A5.out).mono ?_); rintro e w9 ⟨rfl, hb⟩; refine ⟨_, rfl, ?_⟩; have n0_ := Aside0.mk (below_step (by repeat (first | (with_reducible first | exact HB.out | apply below_alloc | apply pw_below_drewN | apply below_drew1) | exact HB.out)) hb); clear HB; have HB := n0_; clear n0_; (try clear hb); (try clear hb2); (try clear hk); (try clear hi)))
     go_ret3
     exact ⟨by first | rfl | (simp [errW_none, errW_some] <;> rfl) | (simp [*, errW_none, errW_some] <;> rfl), by repeat (first | (with_reducible first | exact HB.out | apply below_alloc | apply pw_below_drewN | apply below_drew1) | exact HB.out)⟩
   · replace c6 := Bool.eq_false_iff.mpr c6
     subst c6
     have H1 : (some (t324, t322, false)) = some (r1, r2, r3) := by rw [if_neg (show ¬ (false = true) by decide)] at H; exact H
     clear H
     have H := H1
     clear H1
     simp only [Option.some.injEq, Prod.mk.injEq] at H
     obtain ⟨rfl, rfl, rfl⟩ := H
     go_enter Tryd.func73, Tryd.ntmps73
     go_wp2_with (first | ((with_reducible refine gate_callee (f := 88) rfl ?_); refine goesL_ (some 11) rfl rfl Tryd.func88 (by kernel_rfl) rfl #[.string a0, .int .u8 128] rfl (by (try simp only [List.map_toArray, List.map_cons, List.map_nil]); first | done | rfl | (simp only [List.length_drop, List.length_take]; rfl)) ?_; (with_reducible refine (ucs_filled.calls a0 128 t320 t321 _ A2.out).mono ?_); rintro e w10 ⟨rfl, hb⟩; refine ⟨_, rfl, ?_⟩; have n0_ := Aside0.mk (below_step (by repeat (first | (with_reducible first | exact HB.out | apply below_alloc | apply pw_below_drewN | apply below_drew1) | exact HB.out)) hb); clear HB; have HB := n0_; clear n0_; (try clear hb); (try clear hb2); (try clear hk); (try clear hi)) | ((with_reducible refine gate_callee (f := 88) rfl ?_); refine goesL_ (some 16) rfl rfl Tryd.func88 (by kernel_rfl) rfl #[.string a0, .int .u8 191] rfl (by (try simp only [List.map_toArray, List.map_cons, List.map_nil]); first | done | rfl | (simp only [List.length_drop, List.length_take]; rfl)) ?_; (with_reducible refine (ucs_filled.calls a0 191 t322 t323 _ A3.out).mono ?_); rintro e w11 ⟨rfl, hb⟩; refine ⟨_, rfl, ?_⟩; have n0_ := Aside0.mk (below_step (by repeat (first | (with_reducible first | exact HB.out | apply below_alloc | apply pw_below_drewN | apply below_drew1) | exact HB.out)) hb); clear HB; have HB := n0_; clear n0_; (try clear hb); (try clear hb2); (try clear hk); (try clear hi)) | ((with_reducible refine gate_callee (f := 88) rfl ?_); refine goesL_ (some 23) rfl rfl Tryd.func88 (by kernel_rfl) rfl #[.string (⟨#[224, 160]⟩ : ByteArray), .int .u8 128] rfl (by (try simp only [List.map_toArray, List.map_cons, List.map_nil]); first | done | rfl | (simp only [List.length_drop, List.length_take]; rfl)) ?_; (with_reducible refine (ucs_filled.calls (⟨#[224, 160]⟩ : ByteArray) 128 t324 false _ A5.out).mono ?_); rintro e w12 ⟨rfl, hb⟩; refine ⟨_, rfl, ?_⟩; have n0_ := Aside0.mk (below_step (by repeat (first | (with_reducible first | exact HB.out | apply below_alloc | apply pw_below_drewN | apply below_drew1) | exact HB.out)) hb); clear HB; have HB := n0_; clear n0_; (try clear hb); (try clear hb2); (try clear hk); (try clear hi)))
     go_ret3
     exact ⟨by first | rfl | (simp [errW_none, errW_some] <;> rfl) | (simp [*, errW_none, errW_some] <;> rfl), by repeat (first | (with_reducible first | exact HB.out | apply below_alloc | apply pw_below_drewN | apply below_drew1) | exact HB.out)⟩
 · rw [if_neg c4] at H
   have c4b0 : (a0.toList == ([224] : List UInt8)) = false := beq_eq_false_iff_ne.mpr c4
   have c4b1 : (a0.toList != ([224] : List UInt8)) = true := bne_iff_ne.mpr c4
   by_cases c13 : a0.toList = ([240] : List UInt8)
   · rw [if_pos c13] at H
     have c13b0 : (a0.toList == ([240] : List UInt8)) = true := beq_iff_eq.mpr c13
     have c13b1 : (a0.toList != ([240] : List UInt8)) = false := bne_eq_false_iff_eq.mpr c13
     clear c13
     replace H := Option.bind_eq_some_iff.mp H
     obtain ⟨⟨t326, t327⟩, A140, H⟩ := H
     replace H : (if t327 = true then (some (t326, t322, t323)) else (some (t326, t322, false))) = some (r1, r2, r3) := H
     have A14 := Aside0.mk A140
     clear A140
     by_cases c15 : t327 = true
     · subst c15
       have H1 : (some (t326, t322, t323)) = some (r1, r2, r3) := by rw [if_pos rfl] at H; exact H
       clear H
       have H := H1
       clear H1
       simp only [Option.some.injEq, Prod.mk.injEq] at H
       obtain ⟨rfl, rfl, rfl⟩ := H
       go_enter Tryd.func73, Tryd.ntmps73
       go_wp2_with (first | ((with_reducible refine gate_callee (f := 88) rfl ?_); refine goesL_ (some 11) rfl rfl Tryd.func88 (by kernel_rfl) rfl #[.string a0, .int .u8 128] rfl (by (try simp only [List.map_toArray, List.map_cons, List.map_nil]); first | done | rfl | (simp only [List.length_drop, List.length_take]; rfl)) ?_; (with_reducible refine (ucs_filled.calls a0 128 t320 t321 _ A2.out).mono ?_); rintro e w16 ⟨rfl, hb⟩; refine ⟨_, rfl, ?_⟩; have n0_ := Aside0.mk (below_step (by repeat (first | (with_reducible first | exact HB.out | apply below_alloc | apply pw_below_drewN | apply below_drew1) | exact HB.out)) hb); clear HB; have HB := n0_; clear n0_; (try clear hb); (try clear hb2); (try clear hk); (try clear hi)) | ((with_reducible refine gate_callee (f := 88) rfl ?_); refine goesL_ (some 16) rfl rfl Tryd.func88 (by kernel_rfl) rfl #[.string a0, .int .u8 191] rfl (by (try simp only [List.map_toArray, List.map_cons, List.map_nil]); first | done | rfl | (simp only [List.length_drop, List.length_take]; rfl)) ?_; (with_reducible refine (ucs_filled.calls a0 191 t322 t323 _ A3.out).mono ?_); rintro e w17 ⟨rfl, hb⟩; refine ⟨_, rfl, ?_⟩; have n0_ := Aside0.mk (below_step (by repeat (first | (with_reducible first | exact HB.out | apply below_alloc | apply pw_below_drewN | apply below_drew1) | exact HB.out)) hb); clear HB; have HB := n0_; clear n0_; (try clear hb); (try clear hb2); (try clear hk); (try clear hi)) | ((with_reducible refine gate_callee (f := 88) rfl ?_); refine goesL_ (some 29) rfl rfl Tryd.func88 (by kernel_rfl) rfl #[.string (⟨#[240, 144]⟩ : ByteArray), .int .u8 128] rfl (by (try simp only [List.map_toArray, List.map_cons, List.map_nil]); first | done | rfl | (simp only [List.length_drop, List.length_take]; rfl)) ?_; (with_reducible refine (ucs_filled.calls (⟨#[240, 144]⟩ : ByteArray) 128 t326 true _ A14.out).mono ?_); rintro e w18 ⟨rfl, hb⟩; refine ⟨_, rfl, ?_⟩; have n0_ := Aside0.mk (below_step (by repeat (first | (with_reducible first | exact HB.out | apply below_alloc | apply pw_below_drewN | apply below_drew1) | exact HB.out)) hb); clear HB; have HB := n0_; clear n0_; (try clear hb); (try clear hb2); (try clear hk); (try clear hi)))
       go_ret3
       exact ⟨by first | rfl | (simp [errW_none, errW_some] <;> rfl) | (simp [*, errW_none, errW_some] <;> rfl), by repeat (first | (with_reducible first | exact HB.out | apply below_alloc | apply pw_below_drewN | apply below_drew1) | exact HB.out)⟩
     · replace c15 := Bool.eq_false_iff.mpr c15
       subst c15
       have H1 : (some (t326, t322, false)) = some (r1, r2, r3) := by rw [if_neg (show ¬ (false = true) by decide)] at H; exact H
       clear H
       have H := H1
       clear H1
       simp only [Option.some.injEq, Prod.mk.injEq] at H
       obtain ⟨rfl, rfl, rfl⟩ := H
       go_enter Tryd.func73, Tryd.ntmps73
       go_wp2_with (first | ((with_reducible refine gate_callee (f := 88) rfl ?_); refine goesL_ (some 11) rfl rfl Tryd.func88 (by kernel_rfl) rfl #[.string a0, .int .u8 128] rfl (by (try simp only [List.map_toArray, List.map_cons, List.map_nil]); first | done | rfl | (simp only [List.length_drop, List.length_take]; rfl)) ?_; (with_reducible refine (ucs_filled.calls a0 128 t320 t321 _ A2.out).mono ?_); rintro e w19 ⟨rfl, hb⟩; refine ⟨_, rfl, ?_⟩; have n0_ := Aside0.mk (below_step (by repeat (first | (with_reducible first | exact HB.out | apply below_alloc | apply pw_below_drewN | apply below_drew1) | exact HB.out)) hb); clear HB; have HB := n0_; clear n0_; (try clear hb); (try clear hb2); (try clear hk); (try clear hi)) | ((with_reducible refine gate_callee (f := 88) rfl ?_); refine goesL_ (some 16) rfl rfl Tryd.func88 (by kernel_rfl) rfl #[.string a0, .int .u8 191] rfl (by (try simp only [List.map_toArray, List.map_cons, List.map_nil]); first | done | rfl | (simp only [List.length_drop, List.length_take]; rfl)) ?_; (with_reducible refine (ucs_filled.calls a0 191 t322 t323 _ A3.out).mono ?_); rintro e w20 ⟨rfl, hb⟩; refine ⟨_, rfl, ?_⟩; have n0_ := Aside0.mk (below_step (by repeat (first | (with_reducible first | exact HB.out | apply below_alloc | apply pw_below_drewN | apply below_drew1) | exact HB.out)) hb); clear HB; have HB := n0_; clear n0_; (try clear hb); (try clear hb2); (try clear hk); (try clear hi)) | ((with_reducible refine gate_callee (f := 88) rfl ?_); refine goesL_ (some 29) rfl rfl Tryd.func88 (by kernel_rfl) rfl #[.string (⟨#[240, 144]⟩ : ByteArray), .int .u8 128] rfl (by (try simp only [List.map_toArray, List.map_cons, List.map_nil]); first | done | rfl | (simp only [List.length_drop, List.length_take]; rfl)) ?_; (with_reducible refine (ucs_filled.calls (⟨#[240, 144]⟩ : ByteArray) 128 t326 false _ A14.out).mono ?_); rintro e w21 ⟨rfl, hb⟩; refine ⟨_, rfl, ?_⟩; have n0_ := Aside0.mk (below_step (by repeat (first | (with_reducible first | exact HB.out | apply below_alloc | apply pw_below_drewN | apply below_drew1) | exact HB.out)) hb); clear HB; have HB := n0_; clear n0_; (try clear hb); (try clear hb2); (try clear hk); (try clear hi)))
       go_ret3
       exact ⟨by first | rfl | (simp [errW_none, errW_some] <;> rfl) | (simp [*, errW_none, errW_some] <;> rfl), by repeat (first | (with_reducible first | exact HB.out | apply below_alloc | apply pw_below_drewN | apply below_drew1) | exact HB.out)⟩
   · rw [if_neg c13] at H
     have c13b0 : (a0.toList == ([240] : List UInt8)) = false := beq_eq_false_iff_ne.mpr c13
     have c13b1 : (a0.toList != ([240] : List UInt8)) = true := bne_iff_ne.mpr c13
     by_cases c22 : a0.toList = ([237] : List UInt8)
     · rw [if_pos c22] at H
       have c22b0 : (a0.toList == ([237] : List UInt8)) = true := beq_iff_eq.mpr c22
       have c22b1 : (a0.toList != ([237] : List UInt8)) = false := bne_eq_false_iff_eq.mpr c22
       clear c22
       replace H := Option.bind_eq_some_iff.mp H
       obtain ⟨⟨t328, t329⟩, A230, H⟩ := H
       replace H : (if t321 = true then (some (t320, t328, t329)) else (some (t320, t328, false))) = some (r1, r2, r3) := H
       have A23 := Aside0.mk A230
       clear A230
       by_cases c24 : t321 = true
       · subst c24
         have H1 : (some (t320, t328, t329)) = some (r1, r2, r3) := by rw [if_pos rfl] at H; exact H
         clear H
         have H := H1
         clear H1
         simp only [Option.some.injEq, Prod.mk.injEq] at H
         obtain ⟨rfl, rfl, rfl⟩ := H
         go_enter Tryd.func73, Tryd.ntmps73
         go_wp2_with (first | ((with_reducible refine gate_callee (f := 88) rfl ?_); refine goesL_ (some 11) rfl rfl Tryd.func88 (by kernel_rfl) rfl #[.string a0, .int .u8 128] rfl (by (try simp only [List.map_toArray, List.map_cons, List.map_nil]); first | done | rfl | (simp only [List.length_drop, List.length_take]; rfl)) ?_; (with_reducible refine (ucs_filled.calls a0 128 t320 true _ A2.out).mono ?_); rintro e w25 ⟨rfl, hb⟩; refine ⟨_, rfl, ?_⟩; have n0_ := Aside0.mk (below_step (by repeat (first | (with_reducible first | exact HB.out | apply below_alloc | apply pw_below_drewN | apply below_drew1) | exact HB.out)) hb); clear HB; have HB := n0_; clear n0_; (try clear hb); (try clear hb2); (try clear hk); (try clear hi)) | ((with_reducible refine gate_callee (f := 88) rfl ?_); refine goesL_ (some 16) rfl rfl Tryd.func88 (by kernel_rfl) rfl #[.string a0, .int .u8 191] rfl (by (try simp only [List.map_toArray, List.map_cons, List.map_nil]); first | done | rfl | (simp only [List.length_drop, List.length_take]; rfl)) ?_; (with_reducible refine (ucs_filled.calls a0 191 t322 t323 _ A3.out).mono ?_); rintro e w26 ⟨rfl, hb⟩; refine ⟨_, rfl, ?_⟩; have n0_ := Aside0.mk (below_step (by repeat (first | (with_reducible first | exact HB.out | apply below_alloc | apply pw_below_drewN | apply below_drew1) | exact HB.out)) hb); clear HB; have HB := n0_; clear n0_; (try clear hb); (try clear hb2); (try clear hk); (try clear hi)) | ((with_reducible refine gate_callee (f := 88) rfl ?_); refine goesL_ (some 35) rfl rfl Tryd.func88 (by kernel_rfl) rfl #[.string (⟨#[237, 159]⟩ : ByteArray), .int .u8 191] rfl (by (try simp only [List.map_toArray, List.map_cons, List.map_nil]); first | done | rfl | (simp only [List.length_drop, List.length_take]; rfl)) ?_; (with_reducible refine (ucs_filled.calls (⟨#[237, 159]⟩ : ByteArray) 191 t328 t329 _ A23.out).mono ?_); rintro e w27 ⟨rfl, hb⟩; refine ⟨_, rfl, ?_⟩; have n0_ := Aside0.mk (below_step (by repeat (first | (with_reducible first | exact HB.out | apply below_alloc | apply pw_below_drewN | apply below_drew1) | exact HB.out)) hb); clear HB; have HB := n0_; clear n0_; (try clear hb); (try clear hb2); (try clear hk); (try clear hi)))
         go_ret3
         exact ⟨by first | rfl | (simp [errW_none, errW_some] <;> rfl) | (simp [*, errW_none, errW_some] <;> rfl), by repeat (first | (with_reducible first | exact HB.out | apply below_alloc | apply pw_below_drewN | apply below_drew1) | exact HB.out)⟩
       · replace c24 := Bool.eq_false_iff.mpr c24
         subst c24
         have H1 : (some (t320, t328, false)) = some (r1, r2, r3) := by rw [if_neg (show ¬ (false = true) by decide)] at H; exact H
         clear H
         have H := H1
         clear H1
         simp only [Option.some.injEq, Prod.mk.injEq] at H
         obtain ⟨rfl, rfl, rfl⟩ := H
         go_enter Tryd.func73, Tryd.ntmps73
         go_wp2_with (first | ((with_reducible refine gate_callee (f := 88) rfl ?_); refine goesL_ (some 11) rfl rfl Tryd.func88 (by kernel_rfl) rfl #[.string a0, .int .u8 128] rfl (by (try simp only [List.map_toArray, List.map_cons, List.map_nil]); first | done | rfl | (simp only [List.length_drop, List.length_take]; rfl)) ?_; (with_reducible refine (ucs_filled.calls a0 128 t320 false _ A2.out).mono ?_); rintro e w28 ⟨rfl, hb⟩; refine ⟨_, rfl, ?_⟩; have n0_ := Aside0.mk (below_step (by repeat (first | (with_reducible first | exact HB.out | apply below_alloc | apply pw_below_drewN | apply below_drew1) | exact HB.out)) hb); clear HB; have HB := n0_; clear n0_; (try clear hb); (try clear hb2); (try clear hk); (try clear hi)) | ((with_reducible refine gate_callee (f := 88) rfl ?_); refine goesL_ (some 16) rfl rfl Tryd.func88 (by kernel_rfl) rfl #[.string a0, .int .u8 191] rfl (by (try simp only [List.map_toArray, List.map_cons, List.map_nil]); first | done | rfl | (simp only [List.length_drop, List.length_take]; rfl)) ?_; (with_reducible refine (ucs_filled.calls a0 191 t322 t323 _ A3.out).mono ?_); rintro e w29 ⟨rfl, hb⟩; refine ⟨_, rfl, ?_⟩; have n0_ := Aside0.mk (below_step (by repeat (first | (with_reducible first | exact HB.out | apply below_alloc | apply pw_below_drewN | apply below_drew1) | exact HB.out)) hb); clear HB; have HB := n0_; clear n0_; (try clear hb); (try clear hb2); (try clear hk); (try clear hi)) | ((with_reducible refine gate_callee (f := 88) rfl ?_); refine goesL_ (some 35) rfl rfl Tryd.func88 (by kernel_rfl) rfl #[.string (⟨#[237, 159]⟩ : ByteArray), .int .u8 191] rfl (by (try simp only [List.map_toArray, List.map_cons, List.map_nil]); first | done | rfl | (simp only [List.length_drop, List.length_take]; rfl)) ?_; (with_reducible refine (ucs_filled.calls (⟨#[237, 159]⟩ : ByteArray) 191 t328 t329 _ A23.out).mono ?_); rintro e w30 ⟨rfl, hb⟩; refine ⟨_, rfl, ?_⟩; have n0_ := Aside0.mk (below_step (by repeat (first | (with_reducible first | exact HB.out | apply below_alloc | apply pw_below_drewN | apply below_drew1) | exact HB.out)) hb); clear HB; have HB := n0_; clear n0_; (try clear hb); (try clear hb2); (try clear hk); (try clear hi)))
         go_ret3
         exact ⟨by first | rfl | (simp [errW_none, errW_some] <;> rfl) | (simp [*, errW_none, errW_some] <;> rfl), by repeat (first | (with_reducible first | exact HB.out | apply below_alloc | apply pw_below_drewN | apply below_drew1) | exact HB.out)⟩
     · rw [if_neg c22] at H
       have c22b0 : (a0.toList == ([237] : List UInt8)) = false := beq_eq_false_iff_ne.mpr c22
       have c22b1 : (a0.toList != ([237] : List UInt8)) = true := bne_iff_ne.mpr c22
       by_cases c31 : a0.toList = ([244] : List UInt8)
       · rw [if_pos c31] at H
         have c31b0 : (a0.toList == ([244] : List UInt8)) = true := beq_iff_eq.mpr c31
         have c31b1 : (a0.toList != ([244] : List UInt8)) = false := bne_eq_false_iff_eq.mpr c31
         clear c31
         replace H := Option.bind_eq_some_iff.mp H
         obtain ⟨⟨t330, t331⟩, A320, H⟩ := H
         replace H : (if t321 = true then (some (t320, t330, t331)) else (some (t320, t330, false))) = some (r1, r2, r3) := H
         have A32 := Aside0.mk A320
         clear A320
         by_cases c33 : t321 = true
         · subst c33
           have H1 : (some (t320, t330, t331)) = some (r1, r2, r3) := by rw [if_pos rfl] at H; exact H
           clear H
           have H := H1
           clear H1
           simp only [Option.some.injEq, Prod.mk.injEq] at H
           obtain ⟨rfl, rfl, rfl⟩ := H
           go_enter Tryd.func73, Tryd.ntmps73
           go_wp2_with (first | ((with_reducible refine gate_callee (f := 88) rfl ?_); refine goesL_ (some 11) rfl rfl Tryd.func88 (by kernel_rfl) rfl #[.string a0, .int .u8 128] rfl (by (try simp only [List.map_toArray, List.map_cons, List.map_nil]); first | done | rfl | (simp only [List.length_drop, List.length_take]; rfl)) ?_; (with_reducible refine (ucs_filled.calls a0 128 t320 true _ A2.out).mono ?_); rintro e w34 ⟨rfl, hb⟩; refine ⟨_, rfl, ?_⟩; have n0_ := Aside0.mk (below_step (by repeat (first | (with_reducible first | exact HB.out | apply below_alloc | apply pw_below_drewN | apply below_drew1) | exact HB.out)) hb); clear HB; have HB := n0_; clear n0_; (try clear hb); (try clear hb2); (try clear hk); (try clear hi)) | ((with_reducible refine gate_callee (f := 88) rfl ?_); refine goesL_ (some 16) rfl rfl Tryd.func88 (by kernel_rfl) rfl #[.string a0, .int .u8 191] rfl (by (try simp only [List.map_toArray, List.map_cons, List.map_nil]); first | done | rfl | (simp only [List.length_drop, List.length_take]; rfl)) ?_; (with_reducible refine (ucs_filled.calls a0 191 t322 t323 _ A3.out).mono ?_); rintro e w35 ⟨rfl, hb⟩; refine ⟨_, rfl, ?_⟩; have n0_ := Aside0.mk (below_step (by repeat (first | (with_reducible first | exact HB.out | apply below_alloc | apply pw_below_drewN | apply below_drew1) | exact HB.out)) hb); clear HB; have HB := n0_; clear n0_; (try clear hb); (try clear hb2); (try clear hk); (try clear hi)) | ((with_reducible refine gate_callee (f := 88) rfl ?_); refine goesL_ (some 41) rfl rfl Tryd.func88 (by kernel_rfl) rfl #[.string (⟨#[244, 143]⟩ : ByteArray), .int .u8 191] rfl (by (try simp only [List.map_toArray, List.map_cons, List.map_nil]); first | done | rfl | (simp only [List.length_drop, List.length_take]; rfl)) ?_; (with_reducible refine (ucs_filled.calls (⟨#[244, 143]⟩ : ByteArray) 191 t330 t331 _ A32.out).mono ?_); rintro e w36 ⟨rfl, hb⟩; refine ⟨_, rfl, ?_⟩; have n0_ := Aside0.mk (below_step (by repeat (first | (with_reducible first | exact HB.out | apply below_alloc | apply pw_below_drewN | apply below_drew1) | exact HB.out)) hb); clear HB; have HB := n0_; clear n0_; (try clear hb); (try clear hb2); (try clear hk); (try clear hi)))
           go_ret3
           exact ⟨by first | rfl | (simp [errW_none, errW_some] <;> rfl) | (simp [*, errW_none, errW_some] <;> rfl), by repeat (first | (with_reducible first | exact HB.out | apply below_alloc | apply pw_below_drewN | apply below_drew1) | exact HB.out)⟩
         · replace c33 := Bool.eq_false_iff.mpr c33
           subst c33
           have H1 : (some (t320, t330, false)) = some (r1, r2, r3) := by rw [if_neg (show ¬ (false = true) by decide)] at H; exact H
           clear H
           have H := H1
           clear H1
           simp only [Option.some.injEq, Prod.mk.injEq] at H
           obtain ⟨rfl, rfl, rfl⟩ := H
           go_enter Tryd.func73, Tryd.ntmps73
           go_wp2_with (first | ((with_reducible refine gate_callee (f := 88) rfl ?_); refine goesL_ (some 11) rfl rfl Tryd.func88 (by kernel_rfl) rfl #[.string a0, .int .u8 128] rfl (by (try simp only [List.map_toArray, List.map_cons, List.map_nil]); first | done | rfl | (simp only [List.length_drop, List.length_take]; rfl)) ?_; (with_reducible refine (ucs_filled.calls a0 128 t320 false _ A2.out).mono ?_); rintro e w37 ⟨rfl, hb⟩; refine ⟨_, rfl, ?_⟩; have n0_ := Aside0.mk (below_step (by repeat (first | (with_reducible first | exact HB.out | apply below_alloc | apply pw_below_drewN | apply below_drew1) | exact HB.out)) hb); clear HB; have HB := n0_; clear n0_; (try clear hb); (try clear hb2); (try clear hk); (try clear hi)) | ((with_reducible refine gate_callee (f := 88) rfl ?_); refine goesL_ (some 16) rfl rfl Tryd.func88 (by kernel_rfl) rfl #[.string a0, .int .u8 191] rfl (by (try simp only [List.map_toArray, List.map_cons, List.map_nil]); first | done | rfl | (simp only [List.length_drop, List.length_take]; rfl)) ?_; (with_reducible refine (ucs_filled.calls a0 191 t322 t323 _ A3.out).mono ?_); rintro e w38 ⟨rfl, hb⟩; refine ⟨_, rfl, ?_⟩; have n0_ := Aside0.mk (below_step (by repeat (first | (with_reducible first | exact HB.out | apply below_alloc | apply pw_below_drewN | apply below_drew1) | exact HB.out)) hb); clear HB; have HB := n0_; clear n0_; (try clear hb); (try clear hb2); (try clear hk); (try clear hi)) | ((with_reducible refine gate_callee (f := 88) rfl ?_); refine goesL_ (some 41) rfl rfl Tryd.func88 (by kernel_rfl) rfl #[.string (⟨#[244, 143]⟩ : ByteArray), .int .u8 191] rfl (by (try simp only [List.map_toArray, List.map_cons, List.map_nil]); first | done | rfl | (simp only [List.length_drop, List.length_take]; rfl)) ?_; (with_reducible refine (ucs_filled.calls (⟨#[244, 143]⟩ : ByteArray) 191 t330 t331 _ A32.out).mono ?_); rintro e w39 ⟨rfl, hb⟩; refine ⟨_, rfl, ?_⟩; have n0_ := Aside0.mk (below_step (by repeat (first | (with_reducible first | exact HB.out | apply below_alloc | apply pw_below_drewN | apply below_drew1) | exact HB.out)) hb); clear HB; have HB := n0_; clear n0_; (try clear hb); (try clear hb2); (try clear hk); (try clear hi)))
           go_ret3
           exact ⟨by first | rfl | (simp [errW_none, errW_some] <;> rfl) | (simp [*, errW_none, errW_some] <;> rfl), by repeat (first | (with_reducible first | exact HB.out | apply below_alloc | apply pw_below_drewN | apply below_drew1) | exact HB.out)⟩
       · rw [if_neg c31] at H
         have c31b0 : (a0.toList == ([244] : List UInt8)) = false := beq_eq_false_iff_ne.mpr c31
         have c31b1 : (a0.toList != ([244] : List UInt8)) = true := bne_iff_ne.mpr c31
         by_cases c40 : t321 = true
         · subst c40
           have H1 : (some (t320, t322, t323)) = some (r1, r2, r3) := by rw [if_pos rfl] at H; exact H
           clear H
           have H := H1
           clear H1
           simp only [Option.some.injEq, Prod.mk.injEq] at H
           obtain ⟨rfl, rfl, rfl⟩ := H
           go_enter Tryd.func73, Tryd.ntmps73
           go_wp2_with (first | ((with_reducible refine gate_callee (f := 88) rfl ?_); refine goesL_ (some 11) rfl rfl Tryd.func88 (by kernel_rfl) rfl #[.string a0, .int .u8 128] rfl (by (try simp only [List.map_toArray, List.map_cons, List.map_nil]); first | done | rfl | (simp only [List.length_drop, List.length_take]; rfl)) ?_; (with_reducible refine (ucs_filled.calls a0 128 t320 true _ A2.out).mono ?_); rintro e w41 ⟨rfl, hb⟩; refine ⟨_, rfl, ?_⟩; have n0_ := Aside0.mk (below_step (by repeat (first | (with_reducible first | exact HB.out | apply below_alloc | apply pw_below_drewN | apply below_drew1) | exact HB.out)) hb); clear HB; have HB := n0_; clear n0_; (try clear hb); (try clear hb2); (try clear hk); (try clear hi)) | ((with_reducible refine gate_callee (f := 88) rfl ?_); refine goesL_ (some 16) rfl rfl Tryd.func88 (by kernel_rfl) rfl #[.string a0, .int .u8 191] rfl (by (try simp only [List.map_toArray, List.map_cons, List.map_nil]); first | done | rfl | (simp only [List.length_drop, List.length_take]; rfl)) ?_; (with_reducible refine (ucs_filled.calls a0 191 t322 t323 _ A3.out).mono ?_); rintro e w42 ⟨rfl, hb⟩; refine ⟨_, rfl, ?_⟩; have n0_ := Aside0.mk (below_step (by repeat (first | (with_reducible first | exact HB.out | apply below_alloc | apply pw_below_drewN | apply below_drew1) | exact HB.out)) hb); clear HB; have HB := n0_; clear n0_; (try clear hb); (try clear hb2); (try clear hk); (try clear hi)))
           go_ret3
           exact ⟨by first | rfl | (simp [errW_none, errW_some] <;> rfl) | (simp [*, errW_none, errW_some] <;> rfl), by repeat (first | (with_reducible first | exact HB.out | apply below_alloc | apply pw_below_drewN | apply below_drew1) | exact HB.out)⟩
         · replace c40 := Bool.eq_false_iff.mpr c40
           subst c40
           have H1 : (some (t320, t322, false)) = some (r1, r2, r3) := by rw [if_neg (show ¬ (false = true) by decide)] at H; exact H
           clear H
           have H := H1
           clear H1
           simp only [Option.some.injEq, Prod.mk.injEq] at H
           obtain ⟨rfl, rfl, rfl⟩ := H
           go_enter Tryd.func73, Tryd.ntmps73
           go_wp2_with (first | ((with_reducible refine gate_callee (f := 88) rfl ?_); refine goesL_ (some 11) rfl rfl Tryd.func88 (by kernel_rfl) rfl #[.string a0, .int .u8 128] rfl (by (try simp only [List.map_toArray, List.map_cons, List.map_nil]); first | done | rfl | (simp only [List.length_drop, List.length_take]; rfl)) ?_; (with_reducible refine (ucs_filled.calls a0 128 t320 false _ A2.out).mono ?_); rintro e w43 ⟨rfl, hb⟩; refine ⟨_, rfl, ?_⟩; have n0_ := Aside0.mk (below_step (by repeat (first | (with_reducible first | exact HB.out | apply below_alloc | apply pw_below_drewN | apply below_drew1) | exact HB.out)) hb); clear HB; have HB := n0_; clear n0_; (try clear hb); (try clear hb2); (try clear hk); (try clear hi)) | ((with_reducible refine gate_callee (f := 88) rfl ?_); refine goesL_ (some 16) rfl rfl Tryd.func88 (by kernel_rfl) rfl #[.string a0, .int .u8 191] rfl (by (try simp only [List.map_toArray, List.map_cons, List.map_nil]); first | done | rfl | (simp only [List.length_drop, List.length_take]; rfl)) ?_; (with_reducible refine (ucs_filled.calls a0 191 t322 t323 _ A3.out).mono ?_); rintro e w44 ⟨rfl, hb⟩; refine ⟨_, rfl, ?_⟩; have n0_ := Aside0.mk (below_step (by repeat (first | (with_reducible first | exact HB.out | apply below_alloc | apply pw_below_drewN | apply below_drew1) | exact HB.out)) hb); clear HB; have HB := n0_; clear n0_; (try clear hb); (try clear hb2); (try clear hk); (try clear hi)))
           go_ret3
           exact ⟨by first | rfl | (simp [errW_none, errW_some] <;> rfl) | (simp [*, errW_none, errW_some] <;> rfl), by repeat (first | (with_reducible first | exact HB.out | apply below_alloc | apply pw_below_drewN | apply below_drew1) | exact HB.out)⟩
end Go.Proofs.YtkipkbggnfllkaaDoor.P
end
section
namespace Go.Proofs.YtkipkbggnfllkaaDoor.P
open Go.RowKit Go.Proofs.YtkipkbggnfllkaaDoorW.PrintWords Go.Proofs.YtkipkbggnfllkaaDoorW.PrintLast Go.Proofs.YtkipkbggnfllkaaDoorW.PrintMore
def spanCell (k j : Nat) : Int :=
 if j = 0 then 160 else if j = 1 then 55295 else if j = 2 then 57344 else if j = 3 then 64975 else if j = 4 then 65008 else if j = 5 then 65519
 else if j / 2 < k + 2 then (if j % 2 = 0 then ((j / 2 - 2 : Nat) : Int) * 65536 else ((j / 2 - 2 : Nat) : Int) * 65536 + 65533) else 0
def spanTab (k : Nat) : Array Value := ((List.range 38).map fun j => Value.int .i64 (spanCell k j)).toArray
theorem spanTab_size (k : Nat) : (spanTab k).size = 38 := by simp [spanTab]
theorem spanTab_get (k j : Nat) (h : j < 38) : (spanTab k)[j]? = some (.int .i64 (spanCell k j)) := by simp [spanTab, h]
theorem spanTab_step (k : Nat) (h1 : 1 ≤ k) (h2 : k ≤ 16) : ((spanTab k).setIfInBounds ((2 + k) * 2) (.int .i64 ((k : Int) * 65536))).setIfInBounds ((2 + k) * 2 + 1) (.int .i64 ((k : Int) * 65536 + 65533)) = spanTab (k + 1) := by
 apply Array.ext_getElem?
 intro j
 by_cases hj : j < 38
 · rw [spanTab_get (k + 1) j hj, Array.getElem?_setIfInBounds, Array.getElem?_setIfInBounds, spanTab_get k j hj]
   simp only [Array.size_setIfInBounds, spanTab_size]
   by_cases e1 : (2 + k) * 2 + 1 = j
   · subst e1
     rw [if_pos rfl, if_pos hj]
     unfold spanCell
     simp only [show ((2 + k) * 2 + 1) / 2 = k + 2 by omega, show ((2 + k) * 2 + 1) % 2 = 1 by omega]
     simp
     omega
   · rw [if_neg e1]
     by_cases e2 : (2 + k) * 2 = j
     · subst e2
       rw [if_pos rfl, if_pos hj]
       unfold spanCell
       simp only [show ((2 + k) * 2) / 2 = k + 2 by omega, show ((2 + k) * 2) % 2 = 0 by omega]
       simp
       omega
     · rw [if_neg e2]
       have : j / 2 < k + 2 ↔ j / 2 < k + 1 + 2 := by omega
       unfold spanCell
       simp only [this]
 · rw [Array.getElem?_eq_none (by simp [spanTab_size]; omega), Array.getElem?_eq_none (by rw [spanTab_size]; omega)]
def spanAll : Array Value := (spanTab 17).setIfInBounds 32 (.int .i64 921600)
theorem span_build : Tryd.prog.built 114 [(0, .agg #[.int .i64 160, .int .i64 55295]), (1, .agg #[.int .i64 57344, .int .i64 64975]), (2, .agg #[.int .i64 65008, .int .i64 65519])] = some (spanTab 1) := by kernel_rfl
theorem span_size : (Tryd.prog.info? 114).map (·.size) = some 38 := by kernel_rfl
section
variable {P : Program}
theorem wpList_build_to {ops : Array Oper} {rest : List Oper} {o : Oper} {a : Act} {w : World} {Q : Exit → Act → World → Prop} (hg : o.guard = none) (t : TypeId) (parts : Array (Nat × Operand)) (ho : o.op = .build t parts) (cs : Array Value)
 (hb : P.built t (parts.map fun (i, x) => (i, a.eval x)).toList = some cs) (h : wpList P ops Q rest (a.put o.dst (.agg cs)) w) : wpList P ops Q (o :: rest) a w :=
 wpList_build hg t parts ho (by rw [hb]; rfl) (by rw [hb]; exact h)
end
theorem spanTab_one (k : Nat) : (spanTab k).all (·.oneCell') = true := by simp [spanTab, Value.oneCell']
theorem heap_setRow_other (w : World) (g k : Nat) (cs : Array Value) (h : k ≠ g) : (w.setRow g cs).heap[k]? = w.heap[k]? := by
 simp only [World.setRow, Array.getElem?_modify]
 rw [if_neg (fun e => h e.symm)]
theorem spanAll_one : spanAll.all (·.oneCell') = true := by kernel_rfl
structure SpInv (w wr : World) (cs : Array Value) : Prop where
 s : wr.heap[w.heap.size + 1]? = some (.cells cs 114 (0, 0))
 r : ∃ z, wr.heap[w.heap.size]? = some (.cells z 114 (0, 0)) ∧ z.size = 38
 b : Below w.heap.size w wr
set_option maxRecDepth 100000 in
set_option maxHeartbeats 400000 in
theorem ucs_spans.calls (w : World) :
 Calls Tryd.prog 89 #[] w fun e w' => e = .returned (.agg spanAll) ∧ Below w.heap.size w w' := by
 obtain ⟨T, hT⟩ : ∃ T, T = spanTab := ⟨_, rfl⟩
 have hsb := span_build
 have h1 := spanTab_one 1
 have hz := spanTab_size 1
 rw [← hT] at hsb h1 hz
 have HB := Lib.hid hsb
 have H1 := Lib.hid h1
 have HZ := Lib.hid hz
 have HT := Lib.hid hT
 clear hsb h1 hz hT
 go_enter Tryd.func89, Tryd.ntmps89
 go_wp2_with (first | (refine wpList_build_to rfl 114 _ rfl (T 1) ?hb ?_) | (refine wpList_store_row rfl 114 _ _ rfl (w.heap.size + 1) (T 1) rfl rfl 114 ?old ?hg ?hi ?ho H1.out ?_))
 case hb => exact HB.out
 case hg => exact heap_alloc2_new w _ _
 case hi => rw [HZ.out]; exact span_size
 case ho => rw [HZ.out]; rfl
 go_loopw [2] (fun p wr => ∃ k : Nat, 1 ≤ k ∧ k ≤ 17 ∧ p = .int .i64 k ∧ Hid (SpInv w wr (T k))) (fun p _ => 17 - (intOf p).toNat)
 case atStart =>
  refine ⟨1, by omega, by omega, rfl, Lib.hid ⟨?_, ⟨_, (heap_setRow_other _ _ _ _ (by omega)).trans (heap_alloc2_old w _ _), rfl⟩, ?_⟩⟩
  · exact setRow_heap _ _ _ _ _ _ (heap_alloc2_new w _ _)
  · exact (((Below.refl _ _).alloc (Nat.le_refl _) _).alloc (by simp) _).trans ⟨rfl, rfl, rfl, by simp, fun k hk => heap_setRow_other _ _ _ _ (by omega)⟩
 case round =>
  obtain ⟨k, hk1, hk2, rfl, HS⟩ := hrel
  have hcell : ∀ j, j < 38 → wr.cell? ⟨w.heap.size + 1, j, none⟩ = some (.int .i64 (spanCell k j)) := fun j hj => by
   rw [cell_of_row _ _ _ _ _ _ HS.out.s, HT.out]; exact spanTab_get k j hj
  have hfree : ∀ j, wr.frozen? ⟨w.heap.size + 1, j, none⟩ = false := fun j => frozen_of_row _ _ j _ _ HS.out.s
  by_cases hlt : k ≤ 16
  · have hkc : (1 : Int) ≤ (k : Int) := by omega
    have hkd : (k : Int) ≤ 16 := by omega
    have c0 := hcell ((2 + k) * 2) (by omega)
    have c1 := hcell ((2 + k) * 2 + 1) (by omega)
    have f0 := hfree ((2 + k) * 2)
    have f1 := hfree ((2 + k) * 2 + 1)
    clear hcell hfree
    go_wp2
    go_roundw
    case rel =>
     refine ⟨k + 1, by omega, by omega, by go_num, Lib.hid ⟨?_, ?_, ?_⟩⟩
     · have h1 := heap_setCell_same _ _ ((2 + k) * 2 + 1) _ _ (.int .i64 ((k : Int) * 65536 + 65533)) (heap_setCell_same _ _ ((2 + k) * 2) _ _ (.int .i64 ((k : Int) * 65536)) HS.out.s)
       rw [HT.out, spanTab_step k hk1 hlt] at h1
       rw [HT.out]
       exact h1
     · obtain ⟨z, hz, hs⟩ := HS.out.r
       exact ⟨z, (heap_setCell_other _ _ _ _ (by simp)).trans ((heap_setCell_other _ _ _ _ (by simp)).trans hz), hs⟩
     · exact (HS.out.b.setCell (by simp) _).setCell (by simp) _
    case measure => simp [intOf]; omega
  · obtain rfl : k = 17 := by omega
    have c0 := hcell 32 (by omega)
    have f0 := hfree 32
    have HS2 := Lib.hid (heap_setCell_same _ _ 32 _ _ (.int .i64 921600) HS.out.s)
    rw [HT.out] at HS2
    clear hcell hfree
    obtain ⟨z, hz, hzs⟩ := HS.out.r
    have HZ1 := Lib.hid ((heap_setCell_other wr ⟨w.heap.size + 1, 32, none⟩ w.heap.size (.int .i64 921600) (by simp)).trans hz)
    have HZ2 := Lib.hid hzs
    clear hz hzs
    have HA := Lib.hid (show (spanTab 17).setIfInBounds 32 (.int .i64 921600) = spanAll from rfl)
    rw [HA.out] at HS2
    have hsz : spanAll.size = 38 := by simp [spanAll, spanTab_size]
    have hone := spanAll_one
    obtain ⟨A, hA⟩ : ∃ A, A = spanAll := ⟨_, rfl⟩
    rw [← hA] at HS2 hsz hone
    have HAE := Lib.hid hA
    have HSZ := Lib.hid hsz
    have HO := Lib.hid hone
    clear HA hA hsz hone
    have HB2 := Lib.hid HS.out.b
    go_wp2_with (first | (refine wpList_load_row rfl 114 _ rfl (w.heap.size + 1) rfl 114 A (0, 0) _ HS2.out Tryd.underlying114 rfl ?hi ?_) | (refine wpList_store_row rfl 114 _ _ rfl w.heap.size A rfl rfl 114 z HZ1.out ?hj ?ho HO.out ?_))
    case hi => rw [HSZ.out]; exact span_size
    case hj => rw [HSZ.out]; exact span_size
    case ho => rw [HSZ.out]; exact HZ2.out
    refine bodyPost_ret (v := .agg A) ?_ rfl ⟨by rw [HAE.out], HB2.out.trans ⟨rfl, rfl, rfl, by simp, fun i hi => ?_⟩⟩
    · exact results_cell_row Tryd.results89 _ _ w.heap.size 114 A (0, 0) _ rfl (setRow_heap _ _ _ _ _ _ HZ1.out) Tryd.underlying114 rfl (by rw [HSZ.out]; exact span_size)
    · rw [heap_setRow_other _ _ _ _ (by omega)]
      exact heap_setCell_other _ _ _ _ (by simp; omega)
theorem span_index (k : Nat) (hk : k < 19) (W : World) :
 (Instr.index 114 (.agg spanAll) (.int .i64 (k : Int))).run Tryd.prog W = .ok (.agg #[.int .i64 (spanLo k), .int .i64 (spanHi k)]) W :=
 match k, hk with
 | 0, _ => by kernel_rfl
 | 1, _ => by kernel_rfl
 | 2, _ => by kernel_rfl
 | 3, _ => by kernel_rfl
 | 4, _ => by kernel_rfl
 | 5, _ => by kernel_rfl
 | 6, _ => by kernel_rfl
 | 7, _ => by kernel_rfl
 | 8, _ => by kernel_rfl
 | 9, _ => by kernel_rfl
 | 10, _ => by kernel_rfl
 | 11, _ => by kernel_rfl
 | 12, _ => by kernel_rfl
 | 13, _ => by kernel_rfl
 | 14, _ => by kernel_rfl
 | 15, _ => by kernel_rfl
 | 16, _ => by kernel_rfl
 | 17, _ => by kernel_rfl
 | 18, _ => by kernel_rfl
 | n + 19, h => absurd h (by omega)
def ucs_meets.f (low high : Int) : Option Bool := some (meetsFrom low high 19 0)
set_option maxRecDepth 100000 in
set_option maxHeartbeats 400000 in
theorem ucs_meets.calls (low high : Int) (r : Bool) (w : World) (h : ucs_meets.f low high = some r) :
 Calls Tryd.prog 74 #[.int .i64 low, .int .i64 high] w fun e w' => e = .returned (.bool r) ∧ Below w.heap.size w w' := by
 injection h with h
 have HR := Lib.hid h
 clear h
 go_enter Tryd.func74, Tryd.ntmps74
 go_wp2_with fail
 refine (ucs_spans.calls _).mono ?_
 rintro e w1 ⟨rfl, hb⟩
 have HX := Lib.hid span_index
 obtain ⟨A, hA⟩ : ∃ A, A = spanAll := ⟨_, rfl⟩
 rw [← hA] at HX ⊢
 clear hA
 go_wp2
 go_loopw [6, 8] (fun _ i wr => ∃ k d : Nat, k + d = 19 ∧ i = .int .i64 k ∧ Hid (meetsFrom low high d k = r) ∧ Hid (Below w.heap.size w wr)) (fun _ i _ => 19 - (intOf i).toNat)
 case atStart => exact ⟨0, 19, rfl, rfl, HR, Lib.hid hb⟩
 case round =>
  obtain ⟨k, d, hkd, rfl, HM, HBw⟩ := hrel
  cases d with
  | zero =>
   have hk : k = 19 := by omega
   subst hk
   go_wp2
   go_ret
   exact ⟨by rw [← HM.out]; rfl, HBw.out⟩
  | succ d =>
   have hlt : k < 19 := by omega
   have hi := HX.out k hlt
   have HM1 := HM.out
   rw [meetsFrom] at HM1
   obtain ⟨a, ha⟩ : ∃ a, a = spanLo k := ⟨_, rfl⟩
   obtain ⟨b, hb'⟩ : ∃ b, b = spanHi k := ⟨_, rfl⟩
   rw [← ha, ← hb'] at hi HM1
   clear ha hb' HM
   by_cases h1 : low ≤ b
   · have h1b : decide (low ≤ b) = true := decide_eq_true h1
     by_cases h2 : a ≤ high
     · have h2b : decide (a ≤ high) = true := decide_eq_true h2
       have HMM := Lib.hid (show true = r by rw [← HM1]; simp [h1b, h2b])
       clear HM1
       go_wp2
       go_ret
       exact ⟨by rw [← HMM.out]; rfl, HBw.out.alloc HBw.out.size _⟩
     · have h2b : decide (a ≤ high) = false := decide_eq_false h2
       have HMM := Lib.hid (show meetsFrom low high d (k + 1) = r by rw [← HM1]; simp [h1b, h2b])
       clear HM1
       go_wp2
       go_roundw
       case rel => exact ⟨k + 1, d, by omega, by go_num, HMM, Lib.hid (HBw.out.alloc HBw.out.size _)⟩
       case measure => simp [intOf]; omega
   · have h1b : decide (low ≤ b) = false := decide_eq_false h1
     have HMM := Lib.hid (show meetsFrom low high d (k + 1) = r by rw [← HM1]; simp [h1b])
     clear HM1
     go_wp2
     go_roundw
     case rel => exact ⟨k + 1, d, by omega, by go_num, HMM, Lib.hid (HBw.out.alloc HBw.out.size _)⟩
     case measure => simp [intOf]; omega
end Go.Proofs.YtkipkbggnfllkaaDoor.P
end
section
namespace Go.Proofs.YtkipkbggnfllkaaDoor.P
open Go.RowKit Go.Proofs.YtkipkbggnfllkaaDoorW.PrintWords Go.Proofs.YtkipkbggnfllkaaDoorW.PrintLast Go.Proofs.YtkipkbggnfllkaaDoorW.PrintMore
attribute [local go_sem] max2_int min2_int max_two min_two max_three min_three max_four min_four
set_option linter.unusedVariables false
set_option linter.unusedSimpArgs false
def ucs_Fits.j0 : Nat → ByteArray → Bool → Option (Bool)
 | 0, _, _ => none
 | k + 1, x0, x12 => if x12 = true then (some false) else ((ucs_ends.f x0).bind fun bt332 => (if bt332.2.2 = true then ((ucs_meets.f bt332.1 bt332.2.1).bind fun t335 => (some t335)) else (some false)))
def ucs_Fits.f (k : Nat) (a0 : ByteArray) : Option (Bool) := if a0.toList = ([] : List UInt8) then (ucs_Fits.j0 k a0 true) else (if 0 < (a0.size : Int) then (ucs_Fits.j0 k a0 (decide ((bt a0 0) < 192))) else (none))
theorem ucs_Fits.mono_l : ∀ k, (∀ y0 y1, LeO (ucs_Fits.j0 k y0 y1) (ucs_Fits.j0 (k + 1) y0 y1))
 | 0 => fun _ _ r h => by simp [ucs_Fits.j0] at h
 | k + 1 => by
  have ih0 := ucs_Fits.mono_l k
  · intro y0 y1
    unfold ucs_Fits.j0
    repeat' first
    | (with_reducible exact ih0 _ _)
    | (with_reducible exact LeO.refl _)
    | (with_reducible exact LeO.none _)
    | (with_reducible refine LeO.ite ?_ ?_)
    | (with_reducible refine LeO.bind ?_ (fun _ => ?_))
    | exact ih0 _ _
    | exact LeO.none _
    | refine LeO.ite ?_ ?_
    | refine LeO.bind ?_ (fun _ => ?_)
theorem ucs_Fits.mono : ∀ a0 k, LeO (ucs_Fits.f k a0) (ucs_Fits.f (k + 1) a0) := by
 intro a0 k
 have ih0 := ucs_Fits.mono_l k
 unfold ucs_Fits.f
 repeat' first
  | (with_reducible exact ih0 _ _)
  | (with_reducible exact LeO.refl _)
  | (with_reducible exact LeO.none _)
  | (with_reducible refine LeO.ite ?_ ?_)
  | (with_reducible refine LeO.bind ?_ (fun _ => ?_))
  | exact ih0 _ _
  | exact LeO.none _
  | refine LeO.ite ?_ ?_
  | refine LeO.bind ?_ (fun _ => ?_)
set_option maxHeartbeats 8000000 in
set_option maxRecDepth 100000 in
theorem ucs_Fits.calls (k : Nat) (a0 : ByteArray) (r : Bool) (w : World) (h : ucs_Fits.f k a0 = some r) :
 Calls Tryd.prog 51 #[.string a0] w fun e w' => e = .returned (.bool r) ∧ Below w.heap.size w w' := by
 have HB := Aside0.mk (Below.refl w.heap.size w)
 have H : (if a0.toList = ([] : List UInt8) then (ucs_Fits.j0 k a0 true) else (if 0 < (a0.size : Int) then (ucs_Fits.j0 k a0 (decide ((bt a0 0) < 192))) else (none))) = some r := h
 clear h
 have HC2 := Aside0.mk H
 clear H
 go_enter Tryd.func51, Tryd.ntmps51
 go_upto_region 1 with (fail)
 go_cut [12] (fun v12 wc => ∃ (kq : Nat) (x12_1 : Bool), v12 = .bool x12_1 ∧ Aside0 (ucs_Fits.j0 kq a0 x12_1 = some r) ∧ Aside0 (kq ≤ k) ∧ Aside0 (Below w.heap.size w wc))
 case first =>
  have H := HC2.out
  clear HC2
  by_cases c3 : a0.toList = ([] : List UInt8)
  · rw [if_pos c3] at H
    have c3b0 : (a0.toList == ([] : List UInt8)) = true := beq_iff_eq.mpr c3
    have c3b1 : (a0.toList != ([] : List UInt8)) = false := bne_eq_false_iff_eq.mpr c3
    clear c3
    (first | rw [c3b0] | (simp only [i64_w, i32_w]; rw [c3b0]) | skip)
    have H' := Aside0.mk H
    clear H
    go_wp2
    go_meet
    case rel => exact ⟨_, (true), (by first | rfl | (simp; done) | (simp [*]; done)), H', ⟨by first | omega | exact Nat.le_refl _⟩, ⟨by repeat (first | (with_reducible first | exact HB.out | apply below_alloc | apply pw_below_drewN | apply below_drew1) | exact HB.out)⟩⟩
  · rw [if_neg c3] at H
    have c3b0 : (a0.toList == ([] : List UInt8)) = false := beq_eq_false_iff_ne.mpr c3
    have c3b1 : (a0.toList != ([] : List UInt8)) = true := bne_iff_ne.mpr c3
    (first | rw [c3b0] | (simp only [i64_w, i32_w]; rw [c3b0]) | skip)
    by_cases c4 : 0 < (a0.size : Int)
    · rw [if_pos c4] at H
      have c4b0 : decide (0 < (a0.size : Int)) = true := decide_eq_true c4
      have c4b1 : decide (0 < a0.size) = true := decide_eq_true (by omega)
      clear c4
      have H' := Aside0.mk H
      clear H
      have p5 : 0 ≤ (0 : Int) := (by omega)
      have q5 : 0 < a0.size := (by have : (0 : Int) < (a0.size : Int) := of_decide_eq_true (by first | (with_reducible assumption) | assumption); omega)
      have hx5 : ∀ h : 0 < a0.size, ((a0[0]'h).toNat : Int) = bt a0 0 := bt_at a0 0
      clear p5
      have qi5 : (0 < (a0.size : Int)) = True := eq_true (of_decide_eq_true (by first | (with_reducible assumption) | assumption))
      replace q5 := eq_true q5
      go_wp2
      go_meet
      case rel => exact ⟨_, (decide ((bt a0 0) < 192)), (by first | rfl | (simp; done) | (simp [*]; done)), H', ⟨by first | omega | exact Nat.le_refl _⟩, ⟨by repeat (first | (with_reducible first | exact HB.out | apply below_alloc | apply pw_below_drewN | apply below_drew1) | exact HB.out)⟩⟩
    · rw [if_neg c4] at H
      exact absurd H (by simp)
 case rest =>
  clear HC2
  try clear p2
  try clear c3
  try clear c3b0
  try clear c3b1
  try clear c4
  try clear c4b0
  try clear c4b1
  try clear c5
  try clear p5
  try clear q5
  try clear hx5
  try clear qi5
  try clear p5
  try clear q5
  obtain ⟨kq, x12_1, rfl, HA, HJ1, HB⟩ := hcut
  cases kq with
  | zero => exact absurd HA.out (by simp [ucs_Fits.j0])
  | succ kj1 =>
   have H := HA.out
   clear HA
   simp only [ucs_Fits.j0] at H
   by_cases c6 : x12_1 = true
   · subst c6
     have H1 : (some false) = some r := by rw [if_pos rfl] at H; exact H
     clear H
     have H := H1
     clear H1
     obtain rfl := Option.some.inj H
     go_wp2
     go_ret
     exact ⟨by first | rfl | (simp [errW_none, errW_some] <;> rfl) | (simp [*, errW_none, errW_some] <;> rfl), by repeat (first | (with_reducible first | exact HB.out | apply below_alloc | apply pw_below_drewN | apply below_drew1) | exact HB.out)⟩
   · replace c6 := Bool.eq_false_iff.mpr c6
     subst c6
     have H1 : ((ucs_ends.f a0).bind fun bt332 => (if bt332.2.2 = true then ((ucs_meets.f bt332.1 bt332.2.1).bind fun t335 => (some t335)) else (some false))) = some r := by rw [if_neg (show ¬ (false = true) by decide)] at H; exact H
     clear H
     have H := H1
     clear H1
     replace H := Option.bind_eq_some_iff.mp H
     obtain ⟨⟨t332, t333, t334⟩, A70, H⟩ := H
     replace H : (if t334 = true then ((ucs_meets.f t332 t333).bind fun t335 => (some t335)) else (some false)) = some r := H
     have A7 := Aside0.mk A70
     clear A70
     by_cases c8 : t334 = true
     · subst c8
       have H1 : ((ucs_meets.f t332 t333).bind fun t335 => (some t335)) = some r := by rw [if_pos rfl] at H; exact H
       clear H
       have H := H1
       clear H1
       replace H := Option.bind_eq_some_iff.mp H
       obtain ⟨t335, A90, H⟩ := H
       replace H : (some t335) = some r := H
       have A9 := Aside0.mk A90
       clear A90
       obtain rfl := Option.some.inj H
       go_wp2_with (first | ((with_reducible refine gate_callee (f := 73) rfl ?_); refine goesL_ (some 15) rfl rfl Tryd.func73 (by kernel_rfl) rfl #[.string a0] rfl (by (try simp only [List.map_toArray, List.map_cons, List.map_nil]); first | done | rfl | (simp only [List.length_drop, List.length_take]; rfl)) ?_; (with_reducible refine (ucs_ends.calls a0 t332 t333 true _ A7.out).mono ?_); rintro e w10 ⟨rfl, hb⟩; refine ⟨_, rfl, ?_⟩; have n0_ := Aside0.mk (below_step (by repeat (first | (with_reducible first | exact HB.out | apply below_alloc | apply pw_below_drewN | apply below_drew1) | exact HB.out)) hb); clear HB; have HB := n0_; clear n0_; (try clear hb); (try clear hb2); (try clear hk); (try clear hi)) | (go_at_call 74; (with_reducible refine (ucs_meets.calls t332 t333 t335 _ A9.out).mono ?_); rintro e w11 ⟨rfl, hb⟩; have n0_ := Aside0.mk (below_step (by repeat (first | (with_reducible first | exact HB.out | apply below_alloc | apply pw_below_drewN | apply below_drew1) | exact HB.out)) hb); clear HB; have HB := n0_; clear n0_; (try clear hb); (try clear hb2); (try clear hk); (try clear hi)))
       go_ret
       exact ⟨by first | rfl | (simp [errW_none, errW_some] <;> rfl) | (simp [*, errW_none, errW_some] <;> rfl), by repeat (first | (with_reducible first | exact HB.out | apply below_alloc | apply pw_below_drewN | apply below_drew1) | exact HB.out)⟩
     · replace c8 := Bool.eq_false_iff.mpr c8
       subst c8
       have H1 : (some false) = some r := by rw [if_neg (show ¬ (false = true) by decide)] at H; exact H
       clear H
       have H := H1
       clear H1
       obtain rfl := Option.some.inj H
       go_wp2_with (first | ((with_reducible refine gate_callee (f := 73) rfl ?_); refine goesL_ (some 15) rfl rfl Tryd.func73 (by kernel_rfl) rfl #[.string a0] rfl (by (try simp only [List.map_toArray, List.map_cons, List.map_nil]); first | done | rfl | (simp only [List.length_drop, List.length_take]; rfl)) ?_; (with_reducible refine (ucs_ends.calls a0 t332 t333 false _ A7.out).mono ?_); rintro e w12 ⟨rfl, hb⟩; refine ⟨_, rfl, ?_⟩; have n0_ := Aside0.mk (below_step (by repeat (first | (with_reducible first | exact HB.out | apply below_alloc | apply pw_below_drewN | apply below_drew1) | exact HB.out)) hb); clear HB; have HB := n0_; clear n0_; (try clear hb); (try clear hb2); (try clear hk); (try clear hi)))
       go_ret
       exact ⟨by first | rfl | (simp [errW_none, errW_some] <;> rfl) | (simp [*, errW_none, errW_some] <;> rfl), by repeat (first | (with_reducible first | exact HB.out | apply below_alloc | apply pw_below_drewN | apply below_drew1) | exact HB.out)⟩
def ucs_May.f (a0 : Int) : Option (Bool) := (ucs_meets.f a0 a0).bind fun t298 => (some t298)
set_option maxHeartbeats 8000000 in
set_option maxRecDepth 100000 in
theorem ucs_May.calls (a0 : Int) (r : Bool) (w : World) (h : ucs_May.f a0 = some r) :
 Calls Tryd.prog 83 #[.int .i64 a0] w fun e w' => e = .returned (.bool r) ∧ Below w.heap.size w w' := by
 have HB := Aside0.mk (Below.refl w.heap.size w)
 have H : ((ucs_meets.f a0 a0).bind fun t298 => (some t298)) = some r := h
 clear h
 replace H := Option.bind_eq_some_iff.mp H
 obtain ⟨t298, A20, H⟩ := H
 replace H : (some t298) = some r := H
 have A2 := Aside0.mk A20
 clear A20
 obtain rfl := Option.some.inj H
 go_enter Tryd.func83, Tryd.ntmps83
 go_wp2_with (first | ((with_reducible refine gate_callee (f := 74) rfl ?_); refine goesL_ (some 5) rfl rfl Tryd.func74 (by kernel_rfl) rfl #[.int .i64 a0, .int .i64 a0] rfl (by (try simp only [List.map_toArray, List.map_cons, List.map_nil]); first | done | rfl | (simp only [List.length_drop, List.length_take]; rfl)) ?_; (with_reducible refine (ucs_meets.calls a0 a0 t298 _ A2.out).mono ?_); rintro e w3 ⟨rfl, hb⟩; refine ⟨_, rfl, ?_⟩; have n0_ := Aside0.mk (below_step (by repeat (first | (with_reducible first | exact HB.out | apply below_alloc | apply pw_below_drewN | apply below_drew1) | exact HB.out)) hb); clear HB; have HB := n0_; clear n0_; (try clear hb); (try clear hb2); (try clear hk); (try clear hi)))
 go_ret
 exact ⟨by first | rfl | (simp [errW_none, errW_some] <;> rfl) | (simp [*, errW_none, errW_some] <;> rfl), by repeat (first | (with_reducible first | exact HB.out | apply below_alloc | apply pw_below_drewN | apply below_drew1) | exact HB.out)⟩
def ucs_Take.l0 : Nat → ByteArray → List Int → Int → Int → Option (Int × Int)
 | 0, _, _, _, _ => none
 | k + 1, x4, x16, x17, x18 => if x18 < x17 then (if 0 ≤ x18 then (if x18 < (x16.length : Int) then ((ucs_May.f (rd x16 x18)).bind fun t305 => (if t305 = true then (some (rd x16 x18, (x4.size : Int))) else (ucs_Take.l0 k x4 x16 x17 (wrap64 (x18 + 1))))) else (none)) else (none)) else (some (0, 0))
def ucs_Take.f (k : Nat) (a0 : ByteArray) : Option (Int × Int) := (utf_Prefix.f a0 1).bind fun t299 => ((utf_Chars.f t299).bind fun bt300 => (ucs_Take.l0 k t299 bt300.1 (bt300.1.length : Int) 0))
theorem ucs_Take.mono_l : ∀ k, (∀ y0 y1 y2 y3, LeO (ucs_Take.l0 k y0 y1 y2 y3) (ucs_Take.l0 (k + 1) y0 y1 y2 y3))
 | 0 => fun _ _ _ _ r h => by simp [ucs_Take.l0] at h
 | k + 1 => by
  have ih0 := ucs_Take.mono_l k
  · intro y0 y1 y2 y3
    unfold ucs_Take.l0
    repeat' first
    | (with_reducible exact ih0 _ _ _ _)
    | (with_reducible exact LeO.refl _)
    | (with_reducible exact LeO.none _)
    | (with_reducible refine LeO.ite ?_ ?_)
    | (with_reducible refine LeO.bind ?_ (fun _ => ?_))
    | exact ih0 _ _ _ _
    | exact LeO.none _
    | refine LeO.ite ?_ ?_
    | refine LeO.bind ?_ (fun _ => ?_)
theorem ucs_Take.mono : ∀ a0 k, LeO (ucs_Take.f k a0) (ucs_Take.f (k + 1) a0) := by
 intro a0 k
 have ih0 := ucs_Take.mono_l k
 unfold ucs_Take.f
 repeat' first
  | (with_reducible exact ih0 _ _ _ _)
  | (with_reducible exact LeO.refl _)
  | (with_reducible exact LeO.none _)
  | (with_reducible refine LeO.ite ?_ ?_)
  | (with_reducible refine LeO.bind ?_ (fun _ => ?_))
  | exact ih0 _ _ _ _
  | exact LeO.none _
  | refine LeO.ite ?_ ?_
  | refine LeO.bind ?_ (fun _ => ?_)
set_option maxHeartbeats 8000000 in
set_option maxRecDepth 100000 in
theorem ucs_Take.calls (k : Nat) (a0 : ByteArray) (r1 : Int) (r2 : Int) (w : World) (h : ucs_Take.f k a0 = some (r1, r2)) :
 Calls Tryd.prog 66 #[.string a0] w fun e w' => e = .returned (.tuple #[.int .i64 r1, .int .i64 r2]) ∧ Below w.heap.size w w' := by
 have HB := Aside0.mk (Below.refl w.heap.size w)
 have H : ((utf_Prefix.f a0 1).bind fun t299 => ((utf_Chars.f t299).bind fun bt300 => (ucs_Take.l0 k t299 bt300.1 (bt300.1.length : Int) 0))) = some (r1, r2) := h
 clear h
 replace H := Option.bind_eq_some_iff.mp H
 obtain ⟨t299, A20, H⟩ := H
 replace H : ((utf_Chars.f t299).bind fun bt300 => (ucs_Take.l0 k t299 bt300.1 (bt300.1.length : Int) 0)) = some (r1, r2) := H
 have A2 := Aside0.mk A20
 clear A20
 replace H := Option.bind_eq_some_iff.mp H
 obtain ⟨⟨t300, t301⟩, A30, H⟩ := H
 replace H : (ucs_Take.l0 k t299 t300 (t300.length : Int) 0) = some (r1, r2) := H
 have A3 := Aside0.mk A30
 clear A30
 have H' := Aside0.mk H
 clear H
 go_enter Tryd.func66, Tryd.ntmps66
 go_wp2_with (first | ((with_reducible refine gate_callee (f := 81) rfl ?_); refine goesL_ (some 10) rfl rfl Tryd.func81 (by kernel_rfl) rfl #[.string a0, .int .i64 1] rfl (by (try simp only [List.map_toArray, List.map_cons, List.map_nil]); first | done | rfl | (simp only [List.length_drop, List.length_take]; rfl)) ?_; (with_reducible refine (utf_Prefix.calls a0 1 t299 _ A2.out).mono ?_); rintro e w4 ⟨rfl, hb⟩; refine ⟨_, rfl, ?_⟩; have n0_ := Aside0.mk (below_step (by repeat (first | (with_reducible first | exact HB.out | apply below_alloc | apply pw_below_drewN | apply below_drew1) | exact HB.out)) hb); clear HB; have HB := n0_; clear n0_; (try clear hb); (try clear hb2); (try clear hk); (try clear hi)) | ((with_reducible refine gate_callee (f := 82) rfl ?_); refine goesL_ (some 13) rfl rfl Tryd.func82 (by kernel_rfl) rfl #[.string t299] rfl (by (try simp only [List.map_toArray, List.map_cons, List.map_nil]); first | done | rfl | (simp only [List.length_drop, List.length_take]; rfl)) ?_; (with_reducible refine (utf_Chars.calls t299 t300 t301 _ A3.out).mono ?_); rintro e w5 ⟨v302, rfl, ho0, hb⟩; refine ⟨_, rfl, ?_⟩; have n0_ := Aside0.mk (Kd.R_lower ho0 (below_size (by repeat (first | (with_reducible first | exact HB.out | apply below_alloc | apply pw_below_drewN | apply below_drew1) | exact HB.out)))); have n1_ := Aside0.mk (below_step (by repeat (first | (with_reducible first | exact HB.out | apply below_alloc | apply pw_below_drewN | apply below_drew1) | exact HB.out)) hb); clear HB; have HO303 := n0_; have HB := n1_; clear n0_ n1_; (try clear hb); (try clear hb2); (try clear hk); (try clear hi); (try clear ho0); obtain ⟨Ao6, co6, eo6⟩ := Kd.R_slice HO303.out; subst eo6))
 go_loopg [18] k (fun kq v18 w' => ∃ (x18_1 : Int), v18 = .int .i64 x18_1 ∧ Aside0 (ucs_Take.l0 kq t299 t300 (t300.length : Int) x18_1 = some (r1, r2)) ∧ Aside0 (kq ≤ k) ∧ Aside0 (Kd.R (Kd.int .i64) 3 w' w.heap.size (fun _ => True) (.slice Ao6 t300.length co6) t300) ∧ Aside0 (Below w.heap.size w w'))
 case atStart => exact ⟨(0), (by first | rfl | (simp; done) | (simp [*]; done)), H', ⟨Nat.le_refl _⟩, ⟨by (with_reducible repeat (first | apply Kd.R_alloc | apply Kd.R_drewN | apply Kd.R_drew)); exact HO303.out⟩, ⟨by repeat (first | (with_reducible first | exact HB.out | apply below_alloc | apply pw_below_drewN | apply below_drew1) | exact HB.out)⟩⟩
 case round =>
  clear H'
  try clear p2
  try clear c6
  obtain ⟨x18_1, rfl, HA, HK1, HO_16, HB⟩ := hrel
  cases gk with
  | zero => exact absurd HA.out (by simp [ucs_Take.l0])
  | succ k1 =>
   have H := HA.out
   clear HA
   simp only [ucs_Take.l0] at H
   by_cases c7 : x18_1 < (t300.length : Int)
   · rw [if_pos c7] at H
     have c7b0 : decide (x18_1 < (t300.length : Int)) = true := decide_eq_true c7
     clear c7
     by_cases c8 : 0 ≤ x18_1
     · rw [if_pos c8] at H
       have c8b0 : decide (0 ≤ x18_1) = true := decide_eq_true c8
       clear c8
       by_cases c9 : x18_1 < (t300.length : Int)
       · rw [if_pos c9] at H
         have c9b0 : decide (x18_1 < (t300.length : Int)) = true := decide_eq_true c9
         clear c9
         replace H := Option.bind_eq_some_iff.mp H
         obtain ⟨t305, A100, H⟩ := H
         replace H : (if t305 = true then (some (rd t300 x18_1, (t299.size : Int))) else (ucs_Take.l0 k1 t299 t300 (t300.length : Int) (wrap64 (x18_1 + 1)))) = some (r1, r2) := H
         have A10 := Aside0.mk A100
         clear A100
         by_cases c11 : t305 = true
         · subst c11
           have H1 : (some (rd t300 x18_1, (t299.size : Int))) = some (r1, r2) := by rw [if_pos rfl] at H; exact H
           clear H
           have H := H1
           clear H1
           simp only [Option.some.injEq, Prod.mk.injEq] at H
           obtain ⟨rfl, rfl⟩ := H
           have p304 : 0 ≤ (x18_1 : Int) := of_decide_eq_true (by first | (with_reducible assumption) | assumption)
           have q304 : x18_1 < (t300.length : Int) := of_decide_eq_true (by first | (with_reducible assumption) | assumption)
           obtain ⟨ad304, e304, hx304_0⟩ := Kd.at_int (Kd.R_reads' HO_16.out).2.2 x18_1 p304 q304
           cases e304
           replace p304 := eq_true p304
           replace q304 := eq_true q304
           go_wp2_with (first | ((with_reducible refine gate_callee (f := 83) rfl ?_); refine goesL_ (some 23) rfl rfl Tryd.func83 (by kernel_rfl) rfl #[.int .i64 (rd t300 x18_1)] rfl (by (try simp only [List.map_toArray, List.map_cons, List.map_nil]); first | done | rfl | (simp only [List.length_drop, List.length_take]; rfl)) ?_; (with_reducible refine (ucs_May.calls (rd t300 x18_1) true _ A10.out).mono ?_); rintro e w12 ⟨rfl, hb⟩; refine ⟨_, rfl, ?_⟩; have n0_ := Aside0.mk (Kd.R_below (by (with_reducible repeat (first | apply Kd.R_alloc | apply Kd.R_drewN | apply Kd.R_drew)); exact HO_16.out) hb); have n1_ := Aside0.mk (below_step (by repeat (first | (with_reducible first | exact HB.out | apply below_alloc | apply pw_below_drewN | apply below_drew1) | exact HB.out)) hb); clear HO_16; clear HB; have HO_16 := n0_; have HB := n1_; clear n0_ n1_; (try clear hb); (try clear hb2); (try clear hk); (try clear hi)))
           go_ret2
           exact ⟨by first | rfl | (simp [errW_none, errW_some] <;> rfl) | (simp [*, errW_none, errW_some] <;> rfl), by repeat (first | (with_reducible first | exact HB.out | apply below_alloc | apply pw_below_drewN | apply below_drew1) | exact HB.out)⟩
         · replace c11 := Bool.eq_false_iff.mpr c11
           subst c11
           have H1 : (ucs_Take.l0 k1 t299 t300 (t300.length : Int) (wrap64 (x18_1 + 1))) = some (r1, r2) := by rw [if_neg (show ¬ (false = true) by decide)] at H; exact H
           clear H
           have H := H1
           clear H1
           have H' := Aside0.mk H
           clear H
           have p304 : 0 ≤ (x18_1 : Int) := of_decide_eq_true (by first | (with_reducible assumption) | assumption)
           have q304 : x18_1 < (t300.length : Int) := of_decide_eq_true (by first | (with_reducible assumption) | assumption)
           obtain ⟨ad304, e304, hx304_0⟩ := Kd.at_int (Kd.R_reads' HO_16.out).2.2 x18_1 p304 q304
           cases e304
           replace p304 := eq_true p304
           replace q304 := eq_true q304
           go_wp2_with (first | ((with_reducible refine gate_callee (f := 83) rfl ?_); refine goesL_ (some 23) rfl rfl Tryd.func83 (by kernel_rfl) rfl #[.int .i64 (rd t300 x18_1)] rfl (by (try simp only [List.map_toArray, List.map_cons, List.map_nil]); first | done | rfl | (simp only [List.length_drop, List.length_take]; rfl)) ?_; (with_reducible refine (ucs_May.calls (rd t300 x18_1) false _ A10.out).mono ?_); rintro e w13 ⟨rfl, hb⟩; refine ⟨_, rfl, ?_⟩; have n0_ := Aside0.mk (Kd.R_below (by (with_reducible repeat (first | apply Kd.R_alloc | apply Kd.R_drewN | apply Kd.R_drew)); exact HO_16.out) hb); have n1_ := Aside0.mk (below_step (by repeat (first | (with_reducible first | exact HB.out | apply below_alloc | apply pw_below_drewN | apply below_drew1) | exact HB.out)) hb); clear HO_16; clear HB; have HO_16 := n0_; have HB := n1_; clear n0_ n1_; (try clear hb); (try clear hb2); (try clear hk); (try clear hi)))
           go_roundg k1
           case measure => have := HK1.out; omega
           case rel => exact ⟨(wrap64 (x18_1 + 1)), (by first | rfl | (simp; done) | (simp [*]; done)), H', ⟨by have := HK1.out; omega⟩, ⟨by (with_reducible repeat (first | apply Kd.R_alloc | apply Kd.R_drewN | apply Kd.R_drew)); exact HO_16.out⟩, ⟨by repeat (first | (with_reducible first | exact HB.out | apply below_alloc | apply pw_below_drewN | apply below_drew1) | exact HB.out)⟩⟩
       · rw [if_neg c9] at H
         exact absurd H (by simp)
     · rw [if_neg c8] at H
       exact absurd H (by simp)
   · rw [if_neg c7] at H
     have c7b0 : decide (x18_1 < (t300.length : Int)) = false := decide_eq_false c7
     clear c7
     simp only [Option.some.injEq, Prod.mk.injEq] at H
     obtain ⟨rfl, rfl⟩ := H
     go_wp2
     go_ret2
     exact ⟨by first | rfl | (simp [errW_none, errW_some] <;> rfl) | (simp [*, errW_none, errW_some] <;> rfl), by repeat (first | (with_reducible first | exact HB.out | apply below_alloc | apply pw_below_drewN | apply below_drew1) | exact HB.out)⟩
end Go.Proofs.YtkipkbggnfllkaaDoor.P
end
section
namespace Go.Proofs.YtkipkbggnfllkaaDoor.P
open Go.RowKit Go.Proofs.YtkipkbggnfllkaaDoorW.PrintWords Go.Proofs.YtkipkbggnfllkaaDoorW.PrintLast Go.Proofs.YtkipkbggnfllkaaDoorW.PrintMore
def figure (n : Int) : Int := bt ⟨#[48, 49, 50, 51, 52, 53, 54, 55, 56, 57, 65, 66, 67, 68, 69, 70]⟩ n
def pct_One.f (c : Int) : Option ByteArray := if 0 ≤ c ∧ c ≤ 255 then some (strOfNums [37, figure (c / 16), figure (c % 16)]) else none
theorem reads_three (w : World) (a b : Int) : ReadsInt (w.alloc (.cells #[.int .u8 37, .int .u8 a, .int .u8 b] 5)).drew .u8 (some ⟨w.heap.size, 0, none⟩) 3 [37, a, b] := by
 refine ⟨rfl, by omega, fun _ => ⟨_, rfl, fun j hj => ?_⟩⟩
 have hadd : (⟨w.heap.size, 0, none⟩ : Addr).add j = ⟨w.heap.size, j, none⟩ := by unfold Addr.add; split <;> simp_all
 rw [hadd]
 show (w.alloc _).cell? _ = _
 have : j = 0 ∨ j = 1 ∨ j = 2 := by omega
 rcases this with rfl | rfl | rfl <;> simp
set_option maxHeartbeats 800000 in
theorem pct_One.calls (c : Int) (r : ByteArray) (w : World) (h : pct_One.f c = some r) :
 Calls Tryd.prog 69 #[.int .u8 c] w fun e w' => e = .returned (.string r) ∧ Below w.heap.size w w' := by
 unfold pct_One.f at h
 split at h
 · rename_i hc
   obtain ⟨h0, h1⟩ := hc
   injection h with h
   have i1 := bt_at ⟨#[48, 49, 50, 51, 52, 53, 54, 55, 56, 57, 65, 66, 67, 68, 69, 70]⟩ (c / 16)
   have i2 := bt_at ⟨#[48, 49, 50, 51, 52, 53, 54, 55, 56, 57, 65, 66, 67, 68, 69, 70]⟩ (c % 16)
   obtain ⟨a, ha⟩ : ∃ a, a = figure (c / 16) := ⟨_, rfl⟩
   obtain ⟨b, hb⟩ : ∃ b, b = figure (c % 16) := ⟨_, rfl⟩
   rw [← ha, ← hb] at h
   rw [show bt _ _ = a from ha.symm] at i1
   rw [show bt _ _ = b from hb.symm] at i2
   have HR := Lib.hid h
   clear h ha hb
   have h2 : 0 ≤ c / 16 := by omega
   have h3 : c / 16 < 16 := by omega
   have h4 : 0 ≤ c % 16 := by omega
   have h5 : c % 16 < 16 := by omega
   go_enter Tryd.func69, Tryd.ntmps69
   go_wp2_with fail
   have hcv := string_of_reads (P := Tryd.prog) (src := 29) (dst := 9) (c := 3) Tryd.underlying29 Tryd.underlying5 Tryd.underlying9 (reads_three w a b)
   go_region
   go_wp2
   go_ret
   exact ⟨by show Ending.returned (.string (strOfNums [37, a, b])) = _; rw [HR.out], ((Below.refl _ _).alloc (Nat.le_refl _) _).drew⟩
 · cases h
end Go.Proofs.YtkipkbggnfllkaaDoor.P
end
section
namespace Go.Proofs.YtkipkbggnfllkaaDoor.P
open Go.RowKit Go.Proofs.YtkipkbggnfllkaaDoorW.PrintWords Go.Proofs.YtkipkbggnfllkaaDoorW.PrintLast Go.Proofs.YtkipkbggnfllkaaDoorW.PrintMore
attribute [local go_sem] max2_int min2_int max_two min_two max_three min_three max_four min_four
set_option linter.unusedVariables false
set_option linter.unusedSimpArgs false
def tmpl_piece.f (k : Nat) (a0 : ByteArray) : Option (Int) := (ucs_Take.f k a0).bind fun bt312 => (if a0.toList = ([] : List UInt8) then (some 0) else ((chars_Literal.f).bind fun t314 => (if 0 < (a0.size : Int) then ((chars_Set_Has.f t314 (bt a0 0)).bind fun t315 => (if t315 = true then (some 1) else ((pct_Triplet.f k a0).bind fun t316 => (if t316 = true then ((pct_One.f 0).bind fun t317 => (some (t317.size : Int))) else (some bt312.2))))) else (none))))
theorem tmpl_piece.mono : ∀ a0 k, LeO (tmpl_piece.f k a0) (tmpl_piece.f (k + 1) a0) := by
 intro a0 k
 unfold tmpl_piece.f
 repeat' first
  | (with_reducible exact pct_Triplet.mono _ _)
  | (with_reducible exact ucs_Take.mono _ _)
  | (with_reducible exact LeO.refl _)
  | (with_reducible exact LeO.none _)
  | (with_reducible refine LeO.ite ?_ ?_)
  | (with_reducible refine LeO.bind ?_ (fun _ => ?_))
  | exact pct_Triplet.mono _ _
  | exact ucs_Take.mono _ _
  | exact LeO.none _
  | refine LeO.ite ?_ ?_
  | refine LeO.bind ?_ (fun _ => ?_)
set_option maxHeartbeats 8000000 in
set_option maxRecDepth 100000 in
theorem tmpl_piece.calls (k : Nat) (a0 : ByteArray) (r : Int) (w : World) (h : tmpl_piece.f k a0 = some r) :
 Calls Tryd.prog 48 #[.string a0] w fun e w' => e = .returned (.int .i64 r) ∧ Below w.heap.size w w' := by
 have HB := Aside0.mk (Below.refl w.heap.size w)
 have H : ((ucs_Take.f k a0).bind fun bt312 => (if a0.toList = ([] : List UInt8) then (some 0) else ((chars_Literal.f).bind fun t314 => (if 0 < (a0.size : Int) then ((chars_Set_Has.f t314 (bt a0 0)).bind fun t315 => (if t315 = true then (some 1) else ((pct_Triplet.f k a0).bind fun t316 => (if t316 = true then ((pct_One.f 0).bind fun t317 => (some (t317.size : Int))) else (some bt312.2))))) else (none))))) = some r := h
 clear h
 replace H := Option.bind_eq_some_iff.mp H
 obtain ⟨⟨t312, t313⟩, A20, H⟩ := H
 replace H : (if a0.toList = ([] : List UInt8) then (some 0) else ((chars_Literal.f).bind fun t314 => (if 0 < (a0.size : Int) then ((chars_Set_Has.f t314 (bt a0 0)).bind fun t315 => (if t315 = true then (some 1) else ((pct_Triplet.f k a0).bind fun t316 => (if t316 = true then ((pct_One.f 0).bind fun t317 => (some (t317.size : Int))) else (some t313))))) else (none)))) = some r := H
 have A2 := Aside0.mk A20
 clear A20
 by_cases c3 : a0.toList = ([] : List UInt8)
 · rw [if_pos c3] at H
   have c3b0 : (a0.toList == ([] : List UInt8)) = true := beq_iff_eq.mpr c3
   have c3b1 : (a0.toList != ([] : List UInt8)) = false := bne_eq_false_iff_eq.mpr c3
   clear c3
   obtain rfl := Option.some.inj H
   go_enter Tryd.func48, Tryd.ntmps48
   go_wp2_with (first | ((with_reducible refine gate_callee (f := 66) rfl ?_); refine goesL_ (some 7) rfl rfl Tryd.func66 (by kernel_rfl) rfl #[.string a0] rfl (by (try simp only [List.map_toArray, List.map_cons, List.map_nil]); first | done | rfl | (simp only [List.length_drop, List.length_take]; rfl)) ?_; (with_reducible refine (ucs_Take.calls k a0 t312 t313 _ A2.out).mono ?_); rintro e w4 ⟨rfl, hb⟩; refine ⟨_, rfl, ?_⟩; have n0_ := Aside0.mk (below_step (by repeat (first | (with_reducible first | exact HB.out | apply below_alloc | apply pw_below_drewN | apply below_drew1) | exact HB.out)) hb); clear HB; have HB := n0_; clear n0_; (try clear hb); (try clear hb2); (try clear hk); (try clear hi)))
   go_ret
   exact ⟨by first | rfl | (simp [errW_none, errW_some] <;> rfl) | (simp [*, errW_none, errW_some] <;> rfl), by repeat (first | (with_reducible first | exact HB.out | apply below_alloc | apply pw_below_drewN | apply below_drew1) | exact HB.out)⟩
 · rw [if_neg c3] at H
   have c3b0 : (a0.toList == ([] : List UInt8)) = false := beq_eq_false_iff_ne.mpr c3
   have c3b1 : (a0.toList != ([] : List UInt8)) = true := bne_iff_ne.mpr c3
   replace H := Option.bind_eq_some_iff.mp H
   obtain ⟨t314, A50, H⟩ := H
   replace H : (if 0 < (a0.size : Int) then ((chars_Set_Has.f t314 (bt a0 0)).bind fun t315 => (if t315 = true then (some 1) else ((pct_Triplet.f k a0).bind fun t316 => (if t316 = true then ((pct_One.f 0).bind fun t317 => (some (t317.size : Int))) else (some t313))))) else (none)) = some r := H
   have A5 := Aside0.mk A50
   clear A50
   by_cases c6 : 0 < (a0.size : Int)
   · rw [if_pos c6] at H
     have c6b0 : decide (0 < (a0.size : Int)) = true := decide_eq_true c6
     have c6b1 : decide (0 < a0.size) = true := decide_eq_true (by omega)
     clear c6
     replace H := Option.bind_eq_some_iff.mp H
     obtain ⟨t315, A80, H⟩ := H
     replace H : (if t315 = true then (some 1) else ((pct_Triplet.f k a0).bind fun t316 => (if t316 = true then ((pct_One.f 0).bind fun t317 => (some (t317.size : Int))) else (some t313)))) = some r := H
     have A8 := Aside0.mk A80
     clear A80
     by_cases c9 : t315 = true
     · subst c9
       have H1 : (some 1) = some r := by rw [if_pos rfl] at H; exact H
       clear H
       have H := H1
       clear H1
       obtain rfl := Option.some.inj H
       go_enter Tryd.func48, Tryd.ntmps48
       try go_wp2_with (first | ((with_reducible refine gate_callee (f := 66) rfl ?_); refine goesL_ (some 7) rfl rfl Tryd.func66 (by kernel_rfl) rfl #[.string a0] rfl (by (try simp only [List.map_toArray, List.map_cons, List.map_nil]); first | done | rfl | (simp only [List.length_drop, List.length_take]; rfl)) ?_; (with_reducible refine (ucs_Take.calls k a0 t312 t313 _ A2.out).mono ?_); rintro e w10 ⟨rfl, hb⟩; refine ⟨_, rfl, ?_⟩; have n0_ := Aside0.mk (below_step (by repeat (first | (with_reducible first | exact HB.out | apply below_alloc | apply pw_below_drewN | apply below_drew1) | exact HB.out)) hb); clear HB; have HB := n0_; clear n0_; (try clear hb); (try clear hb2); (try clear hk); (try clear hi)))
       have n0_ := Aside0.mk (below_drew1 HB.out)
       clear HB
       have HB := n0_
       clear n0_
       have p7 : 0 ≤ (0 : Int) := (by omega)
       have q7 : 0 < a0.size := (by have : (0 : Int) < (a0.size : Int) := of_decide_eq_true (by first | (with_reducible assumption) | assumption); omega)
       have hx7 : ∀ h : 0 < a0.size, ((a0[0]'h).toNat : Int) = bt a0 0 := bt_at a0 0
       clear p7
       have qi7 : (0 < (a0.size : Int)) = True := eq_true (of_decide_eq_true (by first | (with_reducible assumption) | assumption))
       replace q7 := eq_true q7
       refine start_ (n := 5) (S := fun w' => True) (ds := []) #[false, false, false, false, false] (by kernel_rfl) rfl rfl trivial (fun hHeld => ?_)
       generalize w10.drew = w11 at HB hHeld ⊢
       refine pure_ (i := 1) (N := some 15) (v := ?_) (a' := ?_) #[false, true, false, false, false] rfl rfl (by kernel_rfl) (fun _ _ _ h => h) (Or.inl ⟨by rfl, ?_⟩) ?_ ?_
       rotate_left
       · intro w'
         go_simp
         with_reducible rfl
       rotate_left
       · simp only [Act.put, List.setIfInBounds_toArray, List.set_cons_zero, List.set_cons_succ, i64_w, i32_w]
         rfl
       refine take_ (i := 2) (N := some 16) (v := ?_) (a' := ?_) #[false, true, true, false, false] rfl rfl (by kernel_rfl) (fun _ _ _ h => h) (Or.inl ⟨by rfl, ?_⟩) hHeld ?_ ?_
       rotate_left
       · intro w' _
         go_simp
         with_reducible rfl
       rotate_left
       · simp only [Act.put, List.setIfInBounds_toArray, List.set_cons_zero, List.set_cons_succ, i64_w, i32_w]
         rfl
       refine one_ (i := 0) (N := some 14) #[true, true, true, false, false] rfl rfl (by kernel_rfl) (by decide) (fun K hK => ?_)
       refine goes_ Tryd.func67 (by kernel_rfl) rfl #[] (by rfl) rfl rfl (by (try simp only [List.map_toArray, List.map_cons, List.map_nil]); first | done | rfl | (simp only [List.length_drop, List.length_take]; rfl)) ?_
       with_reducible refine (chars_Literal.calls  t314 _ A5.out).mono ?_
       rintro e w12 ⟨rfl, hb⟩
       refine ⟨_, rfl, ?_⟩
       have n0_ := Aside0.mk (below_step (by repeat (first | (with_reducible first | exact HB.out | apply below_alloc | apply pw_below_drewN | apply below_drew1) | exact HB.out)) hb)
       clear HB
       have HB := n0_
       clear n0_
       (try clear hb)
       (try clear hb2)
       (try clear hk)
       (try clear hi)
       refine hK.out _ _ trivial (fun hHeld => ?_)
       clear hK K
       refine norm_ (a' := ?_) ?_ ?_
       rotate_left
       · show Act.put _ (some 14) _ = _
         simp only [Act.put, List.setIfInBounds_toArray, List.set_cons_zero, List.set_cons_succ, i64_w, i32_w]
         rfl
       refine one_ (i := 3) (N := some 17) #[true, true, true, true, false] rfl rfl (by kernel_rfl) (by decide) (fun K hK => ?_)
       refine goes_ Tryd.func50 (by kernel_rfl) rfl #[setV t314, .int .u8 (bt a0 0)] (by rfl) rfl rfl (by (try simp only [List.map_toArray, List.map_cons, List.map_nil]); first | done | rfl | (simp only [List.length_drop, List.length_take]; rfl)) ?_
       with_reducible refine (chars_Set_Has.calls t314 (bt a0 0) true _ A8.out).mono ?_
       rintro e w13 ⟨rfl, hb⟩
       refine ⟨_, rfl, ?_⟩
       have n0_ := Aside0.mk (below_step (by repeat (first | (with_reducible first | exact HB.out | apply below_alloc | apply pw_below_drewN | apply below_drew1) | exact HB.out)) hb)
       clear HB
       have HB := n0_
       clear n0_
       (try clear hb)
       (try clear hb2)
       (try clear hk)
       (try clear hi)
       refine hK.out _ _ trivial (fun hHeld => ?_)
       clear hK K
       refine norm_ (a' := ?_) ?_ ?_
       rotate_left
       · show Act.put _ (some 17) _ = _
         simp only [Act.put, List.setIfInBounds_toArray, List.set_cons_zero, List.set_cons_succ, i64_w, i32_w]
         rfl
       refine pure_ (i := 4) (N := some 13) (v := ?_) (a' := ?_) #[true, true, true, true, true] rfl rfl (by kernel_rfl) (fun _ _ _ h => h) (Or.inl ⟨by rfl, ?_⟩) ?_ ?_
       rotate_left
       · intro w'
         go_simp
         with_reducible rfl
       rotate_left
       · simp only [Act.put, List.setIfInBounds_toArray, List.set_cons_zero, List.set_cons_succ, i64_w, i32_w]
         rfl
       refine done_ (by kernel_rfl) ?_
       try go_wp2
       go_ret
       exact ⟨by first | rfl | (simp [errW_none, errW_some] <;> rfl) | (simp [*, errW_none, errW_some] <;> rfl), by repeat (first | (with_reducible first | exact HB.out | apply below_alloc | apply pw_below_drewN | apply below_drew1) | exact HB.out)⟩
     · replace c9 := Bool.eq_false_iff.mpr c9
       subst c9
       have H1 : ((pct_Triplet.f k a0).bind fun t316 => (if t316 = true then ((pct_One.f 0).bind fun t317 => (some (t317.size : Int))) else (some t313))) = some r := by rw [if_neg (show ¬ (false = true) by decide)] at H; exact H
       clear H
       have H := H1
       clear H1
       replace H := Option.bind_eq_some_iff.mp H
       obtain ⟨t316, A140, H⟩ := H
       replace H : (if t316 = true then ((pct_One.f 0).bind fun t317 => (some (t317.size : Int))) else (some t313)) = some r := H
       have A14 := Aside0.mk A140
       clear A140
       by_cases c15 : t316 = true
       · subst c15
         have H1 : ((pct_One.f 0).bind fun t317 => (some (t317.size : Int))) = some r := by rw [if_pos rfl] at H; exact H
         clear H
         have H := H1
         clear H1
         replace H := Option.bind_eq_some_iff.mp H
         obtain ⟨t317, A160, H⟩ := H
         replace H : (some (t317.size : Int)) = some r := H
         have A16 := Aside0.mk A160
         clear A160
         obtain rfl := Option.some.inj H
         go_enter Tryd.func48, Tryd.ntmps48
         try go_wp2_with (first | ((with_reducible refine gate_callee (f := 66) rfl ?_); refine goesL_ (some 7) rfl rfl Tryd.func66 (by kernel_rfl) rfl #[.string a0] rfl (by (try simp only [List.map_toArray, List.map_cons, List.map_nil]); first | done | rfl | (simp only [List.length_drop, List.length_take]; rfl)) ?_; (with_reducible refine (ucs_Take.calls k a0 t312 t313 _ A2.out).mono ?_); rintro e w17 ⟨rfl, hb⟩; refine ⟨_, rfl, ?_⟩; have n0_ := Aside0.mk (below_step (by repeat (first | (with_reducible first | exact HB.out | apply below_alloc | apply pw_below_drewN | apply below_drew1) | exact HB.out)) hb); clear HB; have HB := n0_; clear n0_; (try clear hb); (try clear hb2); (try clear hk); (try clear hi)))
         have n0_ := Aside0.mk (below_drew1 HB.out)
         clear HB
         have HB := n0_
         clear n0_
         have p7 : 0 ≤ (0 : Int) := (by omega)
         have q7 : 0 < a0.size := (by have : (0 : Int) < (a0.size : Int) := of_decide_eq_true (by first | (with_reducible assumption) | assumption); omega)
         have hx7 : ∀ h : 0 < a0.size, ((a0[0]'h).toNat : Int) = bt a0 0 := bt_at a0 0
         clear p7
         have qi7 : (0 < (a0.size : Int)) = True := eq_true (of_decide_eq_true (by first | (with_reducible assumption) | assumption))
         replace q7 := eq_true q7
         refine start_ (n := 5) (S := fun w' => True) (ds := []) #[false, false, false, false, false] (by kernel_rfl) rfl rfl trivial (fun hHeld => ?_)
         generalize w17.drew = w18 at HB hHeld ⊢
         refine pure_ (i := 1) (N := some 15) (v := ?_) (a' := ?_) #[false, true, false, false, false] rfl rfl (by kernel_rfl) (fun _ _ _ h => h) (Or.inl ⟨by rfl, ?_⟩) ?_ ?_
         rotate_left
         · intro w'
           go_simp
           with_reducible rfl
         rotate_left
         · simp only [Act.put, List.setIfInBounds_toArray, List.set_cons_zero, List.set_cons_succ, i64_w, i32_w]
           rfl
         refine take_ (i := 2) (N := some 16) (v := ?_) (a' := ?_) #[false, true, true, false, false] rfl rfl (by kernel_rfl) (fun _ _ _ h => h) (Or.inl ⟨by rfl, ?_⟩) hHeld ?_ ?_
         rotate_left
         · intro w' _
           go_simp
           with_reducible rfl
         rotate_left
         · simp only [Act.put, List.setIfInBounds_toArray, List.set_cons_zero, List.set_cons_succ, i64_w, i32_w]
           rfl
         refine one_ (i := 0) (N := some 14) #[true, true, true, false, false] rfl rfl (by kernel_rfl) (by decide) (fun K hK => ?_)
         refine goes_ Tryd.func67 (by kernel_rfl) rfl #[] (by rfl) rfl rfl (by (try simp only [List.map_toArray, List.map_cons, List.map_nil]); first | done | rfl | (simp only [List.length_drop, List.length_take]; rfl)) ?_
         with_reducible refine (chars_Literal.calls  t314 _ A5.out).mono ?_
         rintro e w19 ⟨rfl, hb⟩
         refine ⟨_, rfl, ?_⟩
         have n0_ := Aside0.mk (below_step (by repeat (first | (with_reducible first | exact HB.out | apply below_alloc | apply pw_below_drewN | apply below_drew1) | exact HB.out)) hb)
         clear HB
         have HB := n0_
         clear n0_
         (try clear hb)
         (try clear hb2)
         (try clear hk)
         (try clear hi)
         refine hK.out _ _ trivial (fun hHeld => ?_)
         clear hK K
         refine norm_ (a' := ?_) ?_ ?_
         rotate_left
         · show Act.put _ (some 14) _ = _
           simp only [Act.put, List.setIfInBounds_toArray, List.set_cons_zero, List.set_cons_succ, i64_w, i32_w]
           rfl
         refine one_ (i := 3) (N := some 17) #[true, true, true, true, false] rfl rfl (by kernel_rfl) (by decide) (fun K hK => ?_)
         refine goes_ Tryd.func50 (by kernel_rfl) rfl #[setV t314, .int .u8 (bt a0 0)] (by rfl) rfl rfl (by (try simp only [List.map_toArray, List.map_cons, List.map_nil]); first | done | rfl | (simp only [List.length_drop, List.length_take]; rfl)) ?_
         with_reducible refine (chars_Set_Has.calls t314 (bt a0 0) false _ A8.out).mono ?_
         rintro e w20 ⟨rfl, hb⟩
         refine ⟨_, rfl, ?_⟩
         have n0_ := Aside0.mk (below_step (by repeat (first | (with_reducible first | exact HB.out | apply below_alloc | apply pw_below_drewN | apply below_drew1) | exact HB.out)) hb)
         clear HB
         have HB := n0_
         clear n0_
         (try clear hb)
         (try clear hb2)
         (try clear hk)
         (try clear hi)
         refine hK.out _ _ trivial (fun hHeld => ?_)
         clear hK K
         refine norm_ (a' := ?_) ?_ ?_
         rotate_left
         · show Act.put _ (some 17) _ = _
           simp only [Act.put, List.setIfInBounds_toArray, List.set_cons_zero, List.set_cons_succ, i64_w, i32_w]
           rfl
         refine pure_ (i := 4) (N := some 13) (v := ?_) (a' := ?_) #[true, true, true, true, true] rfl rfl (by kernel_rfl) (fun _ _ _ h => h) (Or.inl ⟨by rfl, ?_⟩) ?_ ?_
         rotate_left
         · intro w'
           go_simp
           with_reducible rfl
         rotate_left
         · simp only [Act.put, List.setIfInBounds_toArray, List.set_cons_zero, List.set_cons_succ, i64_w, i32_w]
           rfl
         refine done_ (by kernel_rfl) ?_
         try go_wp2_with (first | ((with_reducible refine gate_callee (f := 68) rfl ?_); refine goesL_ (some 20) rfl rfl Tryd.func68 (by kernel_rfl) rfl #[.string a0] rfl (by (try simp only [List.map_toArray, List.map_cons, List.map_nil]); first | done | rfl | (simp only [List.length_drop, List.length_take]; rfl)) ?_; (with_reducible refine (pct_Triplet.calls k a0 true _ A14.out).mono ?_); rintro e w' ⟨rfl, ⟨nd, rfl⟩⟩; refine ⟨_, rfl, ?_⟩) | ((with_reducible refine gate_callee (f := 69) rfl ?_); refine goesL_ (some 21) rfl rfl Tryd.func69 (by kernel_rfl) rfl #[.int .u8 0] rfl (by (try simp only [List.map_toArray, List.map_cons, List.map_nil]); first | done | rfl | (simp only [List.length_drop, List.length_take]; rfl)) ?_; (with_reducible refine (pct_One.calls 0 t317 _ A16.out).mono ?_); rintro e w21 ⟨rfl, hb⟩; refine ⟨_, rfl, ?_⟩; have n0_ := Aside0.mk (below_step (by repeat (first | (with_reducible first | exact HB.out | apply below_alloc | apply pw_below_drewN | apply below_drew1) | exact HB.out)) hb); clear HB; have HB := n0_; clear n0_; (try clear hb); (try clear hb2); (try clear hk); (try clear hi)))
         go_ret
         exact ⟨by first | rfl | (simp [errW_none, errW_some] <;> rfl) | (simp [*, errW_none, errW_some] <;> rfl), by repeat (first | (with_reducible first | exact HB.out | apply below_alloc | apply pw_below_drewN | apply below_drew1) | exact HB.out)⟩
       · replace c15 := Bool.eq_false_iff.mpr c15
         subst c15
         have H1 : (some t313) = some r := by rw [if_neg (show ¬ (false = true) by decide)] at H; exact H
         clear H
         have H := H1
         clear H1
         obtain rfl := Option.some.inj H
         go_enter Tryd.func48, Tryd.ntmps48
         try go_wp2_with (first | ((with_reducible refine gate_callee (f := 66) rfl ?_); refine goesL_ (some 7) rfl rfl Tryd.func66 (by kernel_rfl) rfl #[.string a0] rfl (by (try simp only [List.map_toArray, List.map_cons, List.map_nil]); first | done | rfl | (simp only [List.length_drop, List.length_take]; rfl)) ?_; (with_reducible refine (ucs_Take.calls k a0 t312 t313 _ A2.out).mono ?_); rintro e w22 ⟨rfl, hb⟩; refine ⟨_, rfl, ?_⟩; have n0_ := Aside0.mk (below_step (by repeat (first | (with_reducible first | exact HB.out | apply below_alloc | apply pw_below_drewN | apply below_drew1) | exact HB.out)) hb); clear HB; have HB := n0_; clear n0_; (try clear hb); (try clear hb2); (try clear hk); (try clear hi)))
         have n0_ := Aside0.mk (below_drew1 HB.out)
         clear HB
         have HB := n0_
         clear n0_
         have p7 : 0 ≤ (0 : Int) := (by omega)
         have q7 : 0 < a0.size := (by have : (0 : Int) < (a0.size : Int) := of_decide_eq_true (by first | (with_reducible assumption) | assumption); omega)
         have hx7 : ∀ h : 0 < a0.size, ((a0[0]'h).toNat : Int) = bt a0 0 := bt_at a0 0
         clear p7
         have qi7 : (0 < (a0.size : Int)) = True := eq_true (of_decide_eq_true (by first | (with_reducible assumption) | assumption))
         replace q7 := eq_true q7
         refine start_ (n := 5) (S := fun w' => True) (ds := []) #[false, false, false, false, false] (by kernel_rfl) rfl rfl trivial (fun hHeld => ?_)
         generalize w22.drew = w23 at HB hHeld ⊢
         refine pure_ (i := 1) (N := some 15) (v := ?_) (a' := ?_) #[false, true, false, false, false] rfl rfl (by kernel_rfl) (fun _ _ _ h => h) (Or.inl ⟨by rfl, ?_⟩) ?_ ?_
         rotate_left
         · intro w'
           go_simp
           with_reducible rfl
         rotate_left
         · simp only [Act.put, List.setIfInBounds_toArray, List.set_cons_zero, List.set_cons_succ, i64_w, i32_w]
           rfl
         refine take_ (i := 2) (N := some 16) (v := ?_) (a' := ?_) #[false, true, true, false, false] rfl rfl (by kernel_rfl) (fun _ _ _ h => h) (Or.inl ⟨by rfl, ?_⟩) hHeld ?_ ?_
         rotate_left
         · intro w' _
           go_simp
           with_reducible rfl
         rotate_left
         · simp only [Act.put, List.setIfInBounds_toArray, List.set_cons_zero, List.set_cons_succ, i64_w, i32_w]
           rfl
         refine one_ (i := 0) (N := some 14) #[true, true, true, false, false] rfl rfl (by kernel_rfl) (by decide) (fun K hK => ?_)
         refine goes_ Tryd.func67 (by kernel_rfl) rfl #[] (by rfl) rfl rfl (by (try simp only [List.map_toArray, List.map_cons, List.map_nil]); first | done | rfl | (simp only [List.length_drop, List.length_take]; rfl)) ?_
         with_reducible refine (chars_Literal.calls  t314 _ A5.out).mono ?_
         rintro e w24 ⟨rfl, hb⟩
         refine ⟨_, rfl, ?_⟩
         have n0_ := Aside0.mk (below_step (by repeat (first | (with_reducible first | exact HB.out | apply below_alloc | apply pw_below_drewN | apply below_drew1) | exact HB.out)) hb)
         clear HB
         have HB := n0_
         clear n0_
         (try clear hb)
         (try clear hb2)
         (try clear hk)
         (try clear hi)
         refine hK.out _ _ trivial (fun hHeld => ?_)
         clear hK K
         refine norm_ (a' := ?_) ?_ ?_
         rotate_left
         · show Act.put _ (some 14) _ = _
           simp only [Act.put, List.setIfInBounds_toArray, List.set_cons_zero, List.set_cons_succ, i64_w, i32_w]
           rfl
         refine one_ (i := 3) (N := some 17) #[true, true, true, true, false] rfl rfl (by kernel_rfl) (by decide) (fun K hK => ?_)
         refine goes_ Tryd.func50 (by kernel_rfl) rfl #[setV t314, .int .u8 (bt a0 0)] (by rfl) rfl rfl (by (try simp only [List.map_toArray, List.map_cons, List.map_nil]); first | done | rfl | (simp only [List.length_drop, List.length_take]; rfl)) ?_
         with_reducible refine (chars_Set_Has.calls t314 (bt a0 0) false _ A8.out).mono ?_
         rintro e w25 ⟨rfl, hb⟩
         refine ⟨_, rfl, ?_⟩
         have n0_ := Aside0.mk (below_step (by repeat (first | (with_reducible first | exact HB.out | apply below_alloc | apply pw_below_drewN | apply below_drew1) | exact HB.out)) hb)
         clear HB
         have HB := n0_
         clear n0_
         (try clear hb)
         (try clear hb2)
         (try clear hk)
         (try clear hi)
         refine hK.out _ _ trivial (fun hHeld => ?_)
         clear hK K
         refine norm_ (a' := ?_) ?_ ?_
         rotate_left
         · show Act.put _ (some 17) _ = _
           simp only [Act.put, List.setIfInBounds_toArray, List.set_cons_zero, List.set_cons_succ, i64_w, i32_w]
           rfl
         refine pure_ (i := 4) (N := some 13) (v := ?_) (a' := ?_) #[true, true, true, true, true] rfl rfl (by kernel_rfl) (fun _ _ _ h => h) (Or.inl ⟨by rfl, ?_⟩) ?_ ?_
         rotate_left
         · intro w'
           go_simp
           with_reducible rfl
         rotate_left
         · simp only [Act.put, List.setIfInBounds_toArray, List.set_cons_zero, List.set_cons_succ, i64_w, i32_w]
           rfl
         refine done_ (by kernel_rfl) ?_
         try go_wp2_with (first | ((with_reducible refine gate_callee (f := 68) rfl ?_); refine goesL_ (some 20) rfl rfl Tryd.func68 (by kernel_rfl) rfl #[.string a0] rfl (by (try simp only [List.map_toArray, List.map_cons, List.map_nil]); first | done | rfl | (simp only [List.length_drop, List.length_take]; rfl)) ?_; (with_reducible refine (pct_Triplet.calls k a0 false _ A14.out).mono ?_); rintro e w' ⟨rfl, ⟨nd, rfl⟩⟩; refine ⟨_, rfl, ?_⟩))
         go_ret
         exact ⟨by first | rfl | (simp [errW_none, errW_some] <;> rfl) | (simp [*, errW_none, errW_some] <;> rfl), by repeat (first | (with_reducible first | exact HB.out | apply below_alloc | apply pw_below_drewN | apply below_drew1) | exact HB.out)⟩
   · rw [if_neg c6] at H
     exact absurd H (by simp)
def tmpl_pieces.l0 : Nat → ByteArray → Int → Int → Option (Int)
 | 0, _, _, _ => none
 | k + 1, x0, x3, x4 => if x4 > 0 then (if 0 ≤ (wrap64 (x3 + x4)) then (if (wrap64 (x3 + x4)) ≤ (x0.size : Int) then ((tmpl_piece.f k (x0.extract ((wrap64 (x3 + x4)) : Int).toNat x0.size)).bind fun t319 => (tmpl_pieces.l0 k x0 (wrap64 (x3 + x4)) t319)) else (none)) else (none)) else (some x3)
def tmpl_pieces.f (k : Nat) (a0 : ByteArray) : Option (Int) := (tmpl_piece.f k a0).bind fun t318 => (tmpl_pieces.l0 k a0 0 t318)
theorem tmpl_pieces.mono_l : ∀ k, (∀ y0 y1 y2, LeO (tmpl_pieces.l0 k y0 y1 y2) (tmpl_pieces.l0 (k + 1) y0 y1 y2))
 | 0 => fun _ _ _ r h => by simp [tmpl_pieces.l0] at h
 | k + 1 => by
  have ih0 := tmpl_pieces.mono_l k
  · intro y0 y1 y2
    unfold tmpl_pieces.l0
    repeat' first
    | (with_reducible exact ih0 _ _ _)
    | (with_reducible exact tmpl_piece.mono _ _)
    | (with_reducible exact LeO.refl _)
    | (with_reducible exact LeO.none _)
    | (with_reducible refine LeO.ite ?_ ?_)
    | (with_reducible refine LeO.bind ?_ (fun _ => ?_))
    | exact ih0 _ _ _
    | exact tmpl_piece.mono _ _
    | exact LeO.none _
    | refine LeO.ite ?_ ?_
    | refine LeO.bind ?_ (fun _ => ?_)
theorem tmpl_pieces.mono : ∀ a0 k, LeO (tmpl_pieces.f k a0) (tmpl_pieces.f (k + 1) a0) := by
 intro a0 k
 have ih0 := tmpl_pieces.mono_l k
 unfold tmpl_pieces.f
 repeat' first
  | (with_reducible exact ih0 _ _ _)
  | (with_reducible exact tmpl_piece.mono _ _)
  | (with_reducible exact LeO.refl _)
  | (with_reducible exact LeO.none _)
  | (with_reducible refine LeO.ite ?_ ?_)
  | (with_reducible refine LeO.bind ?_ (fun _ => ?_))
  | exact ih0 _ _ _
  | exact tmpl_piece.mono _ _
  | exact LeO.none _
  | refine LeO.ite ?_ ?_
  | refine LeO.bind ?_ (fun _ => ?_)
set_option maxHeartbeats 8000000 in
set_option maxRecDepth 100000 in
theorem tmpl_pieces.calls (k : Nat) (a0 : ByteArray) (r : Int) (w : World) (h : tmpl_pieces.f k a0 = some r) :
 Calls Tryd.prog 34 #[.string a0] w fun e w' => e = .returned (.int .i64 r) ∧ Below w.heap.size w w' := by
 have HB := Aside0.mk (Below.refl w.heap.size w)
 have H : ((tmpl_piece.f k a0).bind fun t318 => (tmpl_pieces.l0 k a0 0 t318)) = some r := h
 clear h
 replace H := Option.bind_eq_some_iff.mp H
 obtain ⟨t318, A20, H⟩ := H
 replace H : (tmpl_pieces.l0 k a0 0 t318) = some r := H
 have A2 := Aside0.mk A20
 clear A20
 have H' := Aside0.mk H
 clear H
 go_enter Tryd.func34, Tryd.ntmps34
 go_wp2_with (first | ((with_reducible refine gate_callee (f := 48) rfl ?_); refine goesL_ (some 6) rfl rfl Tryd.func48 (by kernel_rfl) rfl #[.string a0] rfl (by (try simp only [List.map_toArray, List.map_cons, List.map_nil]); first | done | rfl | (simp only [List.length_drop, List.length_take]; rfl)) ?_; (with_reducible refine (tmpl_piece.calls k a0 t318 _ A2.out).mono ?_); rintro e w3 ⟨rfl, hb⟩; refine ⟨_, rfl, ?_⟩; have n0_ := Aside0.mk (below_step (by repeat (first | (with_reducible first | exact HB.out | apply below_alloc | apply pw_below_drewN | apply below_drew1) | exact HB.out)) hb); clear HB; have HB := n0_; clear n0_; (try clear hb); (try clear hb2); (try clear hk); (try clear hi)))
 go_loopg [3, 4] k (fun kq v3 v4 w' => ∃ (x3_1 : Int) (x4_1 : Int), v3 = .int .i64 x3_1 ∧ v4 = .int .i64 x4_1 ∧ Aside0 (tmpl_pieces.l0 kq a0 x3_1 x4_1 = some r) ∧ Aside0 (kq ≤ k) ∧ Aside0 (Below w.heap.size w w'))
 case atStart => exact ⟨(0), (t318), (by first | rfl | (simp; done) | (simp [*]; done)), (by first | rfl | (simp; done) | (simp [*]; done)), H', ⟨Nat.le_refl _⟩, ⟨by repeat (first | (with_reducible first | exact HB.out | apply below_alloc | apply pw_below_drewN | apply below_drew1) | exact HB.out)⟩⟩
 case round =>
  clear H'
  try clear p2
  try clear c3
  obtain ⟨x3_1, x4_1, rfl, rfl, HA, HK1, HB⟩ := hrel
  cases gk with
  | zero => exact absurd HA.out (by simp [tmpl_pieces.l0])
  | succ k1 =>
   have H := HA.out
   clear HA
   simp only [tmpl_pieces.l0] at H
   by_cases c4 : x4_1 > 0
   · rw [if_pos c4] at H
     have c4b0 : decide (0 < x4_1) = true := decide_eq_true c4
     clear c4
     obtain ⟨ji5, hji5⟩ : ∃ j_ : Int, (wrap64 (x3_1 + x4_1)) = j_ := ⟨_, rfl⟩
     replace H : (if 0 ≤ (ji5) then (if (ji5) ≤ (a0.size : Int) then ((tmpl_piece.f k1 (a0.extract ((ji5) : Int).toNat a0.size)).bind fun t319 => (tmpl_pieces.l0 k1 a0 ji5 t319)) else (none)) else (none)) = some r := by first | (rw [hji5] at H; exact H) | (simp only [hji5] at H ⊢; exact H)
     have hji5w : (IntKind.i64.wrap (x3_1 + x4_1)) = ji5 := (i64_w _).trans hji5
     by_cases c6 : 0 ≤ (ji5)
     · rw [if_pos c6] at H
       have c6b0 := eq_true c6
       have c6b1 : decide (0 ≤ (ji5)) = true := decide_eq_true c6
       clear c6
       by_cases c7 : (ji5) ≤ (a0.size : Int)
       · rw [if_pos c7] at H
         have c7b0 := eq_true c7
         have c7b1 : decide ((ji5) ≤ (a0.size : Int)) = true := decide_eq_true c7
         clear c7
         replace H := Option.bind_eq_some_iff.mp H
         obtain ⟨t319, A80, H⟩ := H
         replace H : (tmpl_pieces.l0 k1 a0 ji5 t319) = some r := H
         have A8 := Aside0.mk A80
         clear A80
         have H' := Aside0.mk H
         clear H
         go_wp2_with (first | ((with_reducible refine gate_callee (f := 48) rfl ?_); refine goesL_ (some 12) rfl rfl Tryd.func48 (by kernel_rfl) rfl #[.string (a0.extract ((ji5) : Int).toNat a0.size)] rfl (by (try simp only [List.map_toArray, List.map_cons, List.map_nil]); first | done | (simp only [hji5]; rfl) | rfl | (simp only [List.length_drop, List.length_take]; rfl)) ?_; (with_reducible refine (tmpl_piece.calls k1 (a0.extract ((ji5) : Int).toNat a0.size) t319 _ A8.out).mono ?_); rintro e w9 ⟨rfl, hb⟩; refine ⟨_, rfl, ?_⟩; have n0_ := Aside0.mk (below_step (by repeat (first | (with_reducible first | exact HB.out | apply below_alloc | apply pw_below_drewN | apply below_drew1) | exact HB.out)) hb); clear HB; have HB := n0_; clear n0_; (try clear hb); (try clear hb2); (try clear hk); (try clear hi)))
         go_roundg k1
         case measure => have := HK1.out; omega
         case rel => exact ⟨(ji5), (t319), (by first | rfl | (simp; done) | (simp only [← hji5] <;> (first | rfl | simp)) | (simp [*]; done)), (by first | rfl | (simp; done) | (simp [*]; done)), H', ⟨by have := HK1.out; omega⟩, ⟨by repeat (first | (with_reducible first | exact HB.out | apply below_alloc | apply pw_below_drewN | apply below_drew1) | exact HB.out)⟩⟩
       · rw [if_neg c7] at H
         exact absurd H (by simp)
     · rw [if_neg c6] at H
       exact absurd H (by simp)
   · rw [if_neg c4] at H
     have c4b0 : decide (0 < x4_1) = false := decide_eq_false c4
     clear c4
     obtain rfl := Option.some.inj H
     go_wp2
     go_ret
     exact ⟨by first | rfl | (simp [errW_none, errW_some] <;> rfl) | (simp [*, errW_none, errW_some] <;> rfl), by repeat (first | (with_reducible first | exact HB.out | apply below_alloc | apply pw_below_drewN | apply below_drew1) | exact HB.out)⟩
end Go.Proofs.YtkipkbggnfllkaaDoor.P
end
section
set_option linter.unusedVariables false
namespace Go.Proofs.YtkipkbggnfllkaaDoor.P
open Go.RowKit Go.Proofs
theorem enters_b {P : Program} {f : FuncId} {fn : Func} {c : Code} (hf : P.funcs[f]? = some fn) (hname : (fn.name == "runtime.NumGoroutine") = false) (hb : fn.body = some c) :
 ∀ (args : Array Value) (w : World), (callFunc f args).run P w = .ok (.enter f args) w := by
 intro args w
 have h1 : fn.name ≠ "runtime.NumGoroutine" := by simpa using hname
 simp [callFunc, hf, h1, hb, mark]
set_option maxHeartbeats 1000000 in
set_option maxRecDepth 100000 in
theorem builder_used (b : Nat) (w : World) (h0 : w.cell? ⟨b, 0, none⟩ = some (.pointer (some ⟨b, 0, none⟩))) :
 Calls Tryd.prog 45 #[.pointer (some ⟨b, 0, none⟩)] w fun e w' => e = .returned (.tuple #[]) ∧ w' = w := by
 obtain ⟨j, hj, _⟩ := Option.map_eq_some_iff.1 (show (Tryd.prog.info? 61).map (·.size) = some 2 by kernel_rfl)
 go_enter Tryd.func45, Tryd.ntmps45
 go_wp2
 rw [Lib.run_neq_ptr_same w _ Tryd.underlying59 hj]
 go_wp2
 go_end0
 exact ⟨rfl, rfl⟩
set_option maxHeartbeats 1000000 in
set_option maxRecDepth 100000 in
theorem builder_fresh (b : Nat) (w : World) (h0 : w.cell? ⟨b, 0, none⟩ = some (.pointer none)) (hsh : w.shape? b = some (61, 2)) (hfz : w.frozen? ⟨b, 0, none⟩ = false) :
 Calls Tryd.prog 45 #[.pointer (some ⟨b, 0, none⟩)] w fun e w' => e = .returned (.tuple #[]) ∧ w' = w.setCell ⟨b, 0, none⟩ (.pointer (some ⟨b, 0, none⟩)) := by
 obtain ⟨j, hj, hjs⟩ := Option.map_eq_some_iff.1 (show (Tryd.prog.info? 61).map (·.size) = some 2 by kernel_rfl)
 go_enter Tryd.func45, Tryd.ntmps45
 go_wp2
 rw [Lib.run_to_unsafe w ⟨b, 0, none⟩ Tryd.underlying59 Tryd.underlying86 hj (by rw [hjs]; decide) hsh (Nat.zero_lt_succ 1)]
 simp only [Result.andThen]
 rw [Oper.upon_value]
 go_wp2
 rw [run_callFunc_extern Tryd.func62 (by kernel_rfl) (by kernel_rfl) (by kernel_rfl) (e := Extern.AbiNoEscape.same) (by kernel_rfl)]
 rw [Lib.run_noEscape]
 simp only [Result.andThen]
 rw [Oper.upon_value]
 go_wp2
 rw [Lib.run_from_unsafe w ⟨b, 0, none⟩ Tryd.underlying86 Tryd.underlying59 hj hsh (by kernel_rfl)]
 simp only [Result.andThen]
 rw [Oper.upon_value]
 go_wp2
 go_end0
 exact ⟨rfl, rfl⟩
theorem builder_copyCheck (B b : Nat) (bs : List Value) (w : World) (h : Lib.IsBuilder 61 5 B b bs w) :
 Calls Tryd.prog 45 #[.pointer (some ⟨b, 0, none⟩)] w fun e w' => e = .returned (.tuple #[]) ∧ (Lib.BuilderAt 61 5 B b (.pointer (some ⟨b, 0, none⟩)) bs w' ∧ Below B w w' ∧ Lib.OthersKept 5 (some b) w w') := by
 rcases h with h | h
 · refine (builder_fresh b w h.cell0 h.shape h.frozen0).mono ?_
   rintro e w' ⟨rfl, rfl⟩
   exact ⟨rfl, h.used _, (Below.refl B w).setCell (p := ⟨b, 0, none⟩) h.1 _, (Lib.OthersKept.refl _ _ w).setCell ⟨b, 0, none⟩ rfl _⟩
 · refine (builder_used b w h.cell0).mono ?_
   rintro e w' ⟨rfl, rfl⟩
   exact ⟨rfl, h, Below.refl B _, Lib.OthersKept.refl _ _ _⟩
theorem row_kind {w : World} {B e size n : Nat} {v : Value} {xs : List Value} (h : w.ownsRow B e size v n xs) : ∀ g, v.ownBlock = some g → ∃ c fz, w.heap[g]? = some (.cells c e fz) := by
 intro g hg
 rcases h.2 with ⟨rfl, _⟩ | ⟨g', cap, cur, rfl, _, hh, _⟩
 · cases hg
 · cases hg
   exact ⟨cur, (0, 0), hh⟩
theorem builder_info : (Tryd.prog.info? 5).map (fun i => (i.zero, i.size, i.bytes)) = some (some (.int .u8 0), 1, 1) := by kernel_rfl
set_option maxHeartbeats 2000000 in
set_option maxRecDepth 100000 in
theorem builder_WriteByte (B b : Nat) (bs : List Value) (c : Int) (w : World) (h : Lib.IsBuilder 61 5 B b bs w) (hlen : bs.length + 1 ≤ 140737488355328) (hBw : B ≤ w.heap.size) :
 Calls Tryd.prog 30 #[.pointer (some ⟨b, 0, none⟩), .int .u8 c] w fun e w' => e = .returned .nilIface ∧ (Lib.BuilderAt 61 5 B b (.pointer (some ⟨b, 0, none⟩)) (bs ++ [.int .u8 c]) w' ∧ Below B w w' ∧ Lib.OthersKept 5 (some b) w w') := by
 obtain ⟨i0, hi, hz0, hz1, hz2⟩ := info_parts builder_info
 have e240 := enters_b Tryd.func45 (by kernel_rfl) rfl
 go_enter Tryd.func30, Tryd.ntmps30
 go_wp2_with (go_at_call 45; refine (builder_copyCheck B b bs _ h).mono ?_)
 rintro e w1 ⟨rfl, h1, hb1, hk1⟩
 obtain ⟨hB, v, hbk, hown, hne⟩ := h1
 have c0 : w1.cell? ⟨b, 0, none⟩ = some (.pointer (some ⟨b, 0, none⟩)) := by rw [Lib.cell_of_heap hbk]; rfl
 have c1 : w1.cell? ⟨b, 1, none⟩ = some v := by rw [Lib.cell_of_heap hbk]; rfl
 go_wp2_with (at_builtin; refine wpList_append_own _ rfl _ _ 29 rfl B 5 i0 (.int .u8 0) 1 1 Tryd.underlying29 hi hz0 hz1 hz2 rfl (by decide) _ _ _ rfl (hown.alloc _) ⟨w1.heap.size, 0, none⟩ 1 1 [.int .u8 c] rfl rfl ?c1 ?c2 ?c3 ?c4 ?c5 ?_)
 case c1 =>
  intro j u hj
  match j, hj with
  | 0, hj => simp at hj; subst hj; simp [Addr.add]
 case c2 => intro u hu; simp at hu; subst hu; rfl
 case c3 => unfold maxLen; omega
 case c4 => omega
 case c5 => have := hb1.size; simp; omega
 intro v' w2 hown' hgrow _
 have hlt : b < w1.heap.size := by
  rcases Nat.lt_or_ge b w1.heap.size with h' | h'
  · exact h'
  · simp [Array.getElem?_eq_none h'] at hbk
 have hb2 : w2.heap[b]? = some (.cells #[.pointer (some ⟨b, 0, none⟩), v] 61 (0, 0)) := by
  rw [hgrow.block b (by simp; omega) (fun e => hne e.symm), Lib.alloc_old w1 _ b hlt]
  exact hbk
 have d0 : w2.cell? ⟨b, 0, none⟩ = some (.pointer (some ⟨b, 0, none⟩)) := by rw [Lib.cell_of_heap hb2]; rfl
 have d1 : w2.cell? ⟨b, 1, none⟩ = some v := by rw [Lib.cell_of_heap hb2]; rfl
 have f1 : w2.frozen? ⟨b, 1, none⟩ = false := Lib.frozen_of_heap hb2 1
 obtain ⟨g, cap, rfl⟩ : ∃ g cap, v' = .slice (some ⟨g, 0, none⟩) (bs.length + 1) cap := by
  rcases hown'.2 with ⟨_, h0⟩ | ⟨g, cap, cur, hv, _⟩
  · omega
  · exact ⟨g, cap, hv⟩
 go_wp2
 go_ret
 refine ⟨rfl, ?_, ?_, ((hk1.alloc _).grown hgrow (row_kind (hown.alloc _))).setCell ⟨b, 1, none⟩ rfl _⟩
 · exact Lib.BuilderAt.put (T := 61) (e := 5) hB hb2 (bs' := bs ++ [.int .u8 c]) (by simpa using hown') (by decide)
 · exact ((hb1.alloc (by have := hb1.size; omega) _).grown hgrow (by have := hb1.size; simp; omega) (fun k hk => (hown.lt k hk).1)).setCell (p := ⟨b, 1, none⟩) hB _
set_option maxHeartbeats 2000000 in
set_option maxRecDepth 100000 in
theorem builder_WriteString (B b : Nat) (bs : List Value) (s : ByteArray) (w : World) (h : Lib.IsBuilder 61 5 B b bs w) (hlen : bs.length + s.size ≤ 140737488355328) (hBw : B ≤ w.heap.size) :
 Calls Tryd.prog 29 #[.pointer (some ⟨b, 0, none⟩), .string s] w fun e w' => e = .returned (.tuple #[.int .i64 s.size, .nilIface]) ∧ (Lib.BuilderAt 61 5 B b (.pointer (some ⟨b, 0, none⟩)) (bs ++ Lib.strCells s) w' ∧ Below B w w' ∧ Lib.OthersKept 5 (some b) w w') := by
 obtain ⟨i0, hi, hz0, hz1, hz2⟩ := info_parts builder_info
 have e240 := enters_b Tryd.func45 (by kernel_rfl) rfl
 go_enter Tryd.func29, Tryd.ntmps29
 go_wp2_with (go_at_call 45; refine (builder_copyCheck B b bs _ h).mono ?_)
 rintro e w1 ⟨rfl, h1, hb1, hk1⟩
 obtain ⟨hB, v, hbk, hown, hne⟩ := h1
 have c0 : w1.cell? ⟨b, 0, none⟩ = some (.pointer (some ⟨b, 0, none⟩)) := by rw [Lib.cell_of_heap hbk]; rfl
 have c1 : w1.cell? ⟨b, 1, none⟩ = some v := by rw [Lib.cell_of_heap hbk]; rfl
 go_wp2_with (at_builtin; refine Lib.wpList_append_own_string _ rfl _ _ 29 9 rfl B 5 i0 Tryd.underlying29 Tryd.underlying9 hi hz0 hz1 hz2 _ _ _ rfl hown s rfl ?c3 ?c4 ?c5 ?_)
 case c3 => unfold maxLen; omega
 case c4 => omega
 case c5 => have := hb1.size; omega
 intro v' w2 hown' hgrow _
 have hlt : b < w1.heap.size := by
  rcases Nat.lt_or_ge b w1.heap.size with h' | h'
  · exact h'
  · simp [Array.getElem?_eq_none h'] at hbk
 have hb2 : w2.heap[b]? = some (.cells #[.pointer (some ⟨b, 0, none⟩), v] 61 (0, 0)) := by
  rw [hgrow.block b hlt (fun e => hne e.symm)]
  exact hbk
 have d0 : w2.cell? ⟨b, 0, none⟩ = some (.pointer (some ⟨b, 0, none⟩)) := by rw [Lib.cell_of_heap hb2]; rfl
 have d1 : w2.cell? ⟨b, 1, none⟩ = some v := by rw [Lib.cell_of_heap hb2]; rfl
 have f1 : w2.frozen? ⟨b, 1, none⟩ = false := Lib.frozen_of_heap hb2 1
 obtain ⟨ao, n', cap, rfl⟩ : ∃ ao n' cap, v' = .slice ao n' cap := by
  rcases hown'.2 with ⟨hv, _⟩ | ⟨g, cap, cur, hv, _⟩
  · exact ⟨_, _, _, hv⟩
  · exact ⟨_, _, _, hv⟩
 go_wp2
 go_ret2
 refine ⟨rfl, ?_, ?_, (hk1.grown hgrow (row_kind hown)).setCell ⟨b, 1, none⟩ rfl _⟩
 · exact Lib.BuilderAt.put (T := 61) (e := 5) hB hb2 (bs' := bs ++ Lib.strCells s) (by simpa [Lib.strCells_length] using hown') (by decide)
 · exact (hb1.grown hgrow (by have := hb1.size; omega) (fun k hk => (hown.lt k hk).1)).setCell (p := ⟨b, 1, none⟩) hB _
end Go.Proofs.YtkipkbggnfllkaaDoor.P
end
section
namespace Go.Proofs.YtkipkbggnfllkaaDoor.P
set_option linter.unusedVariables false
set_option linter.unusedSimpArgs false
def figsN : Nat → Nat → List Nat
 | 0, _ => []
 | d + 1, n => if n < 10 then [48 + n] else figsN d (n / 10) ++ [48 + n % 10]
def Figs (r : List Nat) : Prop := r ≠ [] ∧ r.length ≤ 4 ∧ (∀ b ∈ r, 48 ≤ b ∧ b ≤ 57) ∧ r.head? ≠ some 48
theorem digit_iff (b : Nat) : isDigit b = true ↔ 48 ≤ b ∧ b ≤ 57 := by
 simp only [isDigit, Bool.and_eq_true, decide_eq_true_eq]
 omega
theorem c_digits : ∀ (r : List Nat) (k : Nat), NoSep r → (far step (.c k) r = r.length ↔ (∀ b ∈ r, 48 ≤ b ∧ b ≤ 57) ∧ (r = [] ∨ k + r.length ≤ 4) ∧ (k = 0 → r.head? ≠ some 48))
 | [], k, _ => by simp [far]
 | b :: r, k, hs => by
  have hf := fin_other (hs b (by simp)).1 (hs b (by simp)).2
  by_cases h : isDigit b = true ∧ k < 4 ∧ ¬ (k = 0 ∧ b = 48)
  · have s : step (.c k) b = some (.c (k + 1)) := by simp only [step]; rw [if_pos h]
    rw [far_some s, List.length_cons, Nat.add_right_cancel_iff, c_digits r (k + 1) hs.tail]
    have hb := (digit_iff b).1 h.1
    constructor
    · rintro ⟨a, c, -⟩
      refine ⟨fun x hx => ?_, .inr ?_, fun hk => ?_⟩
      · rcases List.mem_cons.1 hx with rfl | hx
        · exact hb
        · exact a x hx
      · rcases c with rfl | c
        · simp
          omega
        · omega
      · intro g
        exact h.2.2 ⟨hk, Option.some.inj g⟩
    · rintro ⟨a, c, -⟩
      refine ⟨fun x hx => a x (List.mem_cons_of_mem _ hx), .inr ?_, fun hk => by omega⟩
      rcases c with c | c
      · cases c
      · omega
  · have s : step (.c k) b = none := by
     simp only [step]
     rw [if_neg h, hf]
     split <;> rfl
    rw [far_none s, List.length_cons]
    constructor
    · intro g
      omega
    · rintro ⟨a, c, e⟩
      refine absurd ⟨(digit_iff b).2 (a b (by simp)), ?_, fun g => ?_⟩ h
      · rcases c with c | c
        · cases c
        · omega
      · exact e g.1 (by rw [g.2]; rfl)
theorem figs_iff {r : List Nat} (hs : NoSep r) : (r ≠ [] ∧ far step (.c 0) r = r.length) ↔ Figs r := by
 rw [c_digits r 0 hs]
 constructor
 · rintro ⟨a, b, c, d⟩
   refine ⟨a, ?_, b, d rfl⟩
   rcases c with c | c
   · exact absurd c a
   · omega
 · rintro ⟨a, b, c, d⟩
   exact ⟨a, c, .inr (by omega), fun _ => d⟩
theorem num_figs {r : List Nat} (h : Figs r) : figsN 4 (num r) = r ∧ 1 ≤ num r ∧ num r ≤ 9999 := by
 obtain ⟨h1, h2, h3, h4⟩ := h
 match r, h1, h2, h3, h4 with
 | [], h1, _, _, _ => exact absurd rfl h1
 | [a], _, _, h3, h4 =>
  have ha := h3 a (by simp)
  have h4' : a ≠ 48 := fun g => h4 (by rw [g]; rfl)
  have e : num [a] = 10 * (0) + (a - 48) := rfl
  generalize num [a] = m at e ⊢
  simp only [figsN]
  rw [if_pos (by omega)]
  refine ⟨?_, by omega, by omega⟩
  congr 1
  omega
 | [a, b], _, _, h3, h4 =>
  have ha := h3 a (by simp)
  have hb := h3 b (by simp)
  have h4' : a ≠ 48 := fun g => h4 (by rw [g]; rfl)
  have e : num [a, b] = 10 * (10 * (0) + (a - 48)) + (b - 48) := rfl
  generalize num [a, b] = m at e ⊢
  simp only [figsN]
  rw [if_neg (by omega), if_pos (by omega)]
  refine ⟨?_, by omega, by omega⟩
  simp only [List.cons_append, List.nil_append, List.cons.injEq, and_true]
  omega
 | [a, b, c], _, _, h3, h4 =>
  have ha := h3 a (by simp)
  have hb := h3 b (by simp)
  have hc := h3 c (by simp)
  have h4' : a ≠ 48 := fun g => h4 (by rw [g]; rfl)
  have e : num [a, b, c] = 10 * (10 * (10 * (0) + (a - 48)) + (b - 48)) + (c - 48) := rfl
  generalize num [a, b, c] = m at e ⊢
  simp only [figsN]
  rw [if_neg (by omega), if_neg (by omega), if_pos (by omega)]
  refine ⟨?_, by omega, by omega⟩
  simp only [List.cons_append, List.nil_append, List.cons.injEq, and_true]
  omega
 | [a, b, c, d], _, _, h3, h4 =>
  have ha := h3 a (by simp)
  have hb := h3 b (by simp)
  have hc := h3 c (by simp)
  have hd := h3 d (by simp)
  have h4' : a ≠ 48 := fun g => h4 (by rw [g]; rfl)
  have e : num [a, b, c, d] = 10 * (10 * (10 * (10 * (0) + (a - 48)) + (b - 48)) + (c - 48)) + (d - 48) := rfl
  generalize num [a, b, c, d] = m at e ⊢
  simp only [figsN]
  rw [if_neg (by omega), if_neg (by omega), if_neg (by omega), if_pos (by omega)]
  refine ⟨?_, by omega, by omega⟩
  simp only [List.cons_append, List.nil_append, List.cons.injEq, and_true]
  omega
 | _ :: _ :: _ :: _ :: _ :: _, _, h2, _, _ => simp at h2
theorem figs_num {m : Nat} (h1 : 1 ≤ m) (h2 : m ≤ 9999) : Figs (figsN 4 m) ∧ num (figsN 4 m) = m := by
 by_cases a : m < 10
 · simp only [figsN]
   rw [if_pos a]
   refine ⟨⟨by simp, by simp, fun b hb => ?_, ?_⟩, ?_⟩
   · simp at hb
     omega
   · simp
     omega
   · simp only [num, List.foldl]
     omega
 by_cases b : m < 100
 · simp only [figsN]
   rw [if_neg a, if_pos (by omega)]
   refine ⟨⟨by simp, by simp, fun b hb => ?_, ?_⟩, ?_⟩
   · simp at hb
     omega
   · simp
     omega
   · simp only [num, List.cons_append, List.nil_append, List.foldl]
     omega
 by_cases c : m < 1000
 · simp only [figsN]
   rw [if_neg a, if_neg (by omega), if_pos (by omega)]
   refine ⟨⟨by simp, by simp, fun b hb => ?_, ?_⟩, ?_⟩
   · simp at hb
     omega
   · simp
     omega
   · simp only [num, List.cons_append, List.nil_append, List.foldl]
     omega
 · simp only [figsN]
   rw [if_neg a, if_neg (by omega), if_neg (by omega), if_pos (by omega)]
   refine ⟨⟨by simp, by simp, fun b hb => ?_, ?_⟩, ?_⟩
   · simp at hb
     omega
   · simp
     omega
   · simp only [num, List.cons_append, List.nil_append, List.foldl]
     omega
theorem behindIs_iff {l : List Nat} (hs : NoSep l) (t : Int × Bool) : behindIs l = some t ↔ (l = [] ∧ t = (0, false)) ∨ (l = [42] ∧ t = (0, true)) ∨ ∃ r, l = 58 :: r ∧ Figs r ∧ t = (((num r : Nat) : Int), false) := by
 match l, hs with
 | [], _ =>
  show some (0, false) = some t ↔ _
  constructor
  · intro h
    exact .inl ⟨rfl, (Option.some.inj h).symm⟩
  · rintro (⟨-, rfl⟩ | ⟨h, -⟩ | ⟨r, h, -⟩)
    · rfl
    · cases h
    · cases h
 | b :: r, hs =>
  simp only [behindIs]
  by_cases h42 : b = 42
  · rw [if_pos h42]
    subst h42
    by_cases hr : r = []
    · rw [if_pos hr]
      subst hr
      constructor
      · intro h
        exact .inr (.inl ⟨rfl, (Option.some.inj h).symm⟩)
      · rintro (⟨h, -⟩ | ⟨-, rfl⟩ | ⟨r, h, -⟩)
        · cases h
        · rfl
        · cases h
    · rw [if_neg hr]
      constructor
      · intro h
        cases h
      · rintro (⟨h, -⟩ | ⟨h, -⟩ | ⟨r, h, -⟩)
        · cases h
        · exact absurd (List.cons.inj h).2 hr
        · cases h
  rw [if_neg h42]
  by_cases h58 : b = 58
  · rw [if_pos h58]
    subst h58
    by_cases hf : Figs r
    · rw [if_pos ((figs_iff hs.tail).2 hf)]
      constructor
      · intro h
        exact .inr (.inr ⟨r, rfl, hf, (Option.some.inj h).symm⟩)
      · rintro (⟨h, -⟩ | ⟨h, -⟩ | ⟨r', h, -, rfl⟩)
        · cases h
        · cases h
        · cases h
          rfl
    · rw [if_neg (fun g => hf ((figs_iff hs.tail).1 g))]
      constructor
      · intro h
        cases h
      · rintro (⟨h, -⟩ | ⟨h, -⟩ | ⟨r', h, hf', rfl⟩)
        · cases h
        · cases h
        · cases h
          exact absurd hf' hf
  · rw [if_neg h58]
    constructor
    · intro h
      cases h
    · rintro (⟨h, -⟩ | ⟨h, -⟩ | ⟨r', h, -⟩)
      · cases h
      · exact absurd (List.cons.inj h).1 h42
      · exact absurd (List.cons.inj h).1 h58
theorem ucsAt_more {l m : List Nat} (h : ucsAt l ≠ 0) : ucsAt (l ++ m) = ucsAt l := by
 rcases ucsAt_steps l with g | ⟨g, b0, b1, r, rfl, -, -, u⟩ | ⟨g, b0, b1, b2, r, rfl, -, -, -, -, u⟩ | ⟨g, b0, b1, b2, b3, r, rfl, -, -, -, -, -, -, u⟩
 · exact absurd g h
 · rw [g]
   exact ucsAt_append (l := [b0, b1]) (m := r ++ m) u (by simp)
 · rw [g]
   exact ucsAt_append (l := [b0, b1, b2]) (m := r ++ m) u (by simp)
 · rw [g]
   exact ucsAt_append (l := [b0, b1, b2, b3]) (m := r ++ m) u (by simp)
theorem piece_more {l m : List Nat} (h : pieceN l ≠ 0) : pieceN (l ++ m) = pieceN l := by
 match l, h with
 | [], h => exact absurd rfl h
 | b :: r, h =>
  simp only [List.cons_append, pieceN] at h ⊢
  by_cases h1 : isLit b = true
  · rw [if_pos h1, if_pos h1]
  rw [if_neg h1] at h ⊢
  rw [if_neg h1]
  by_cases h2 : trip (b :: r) = true
  · have : trip (b :: (r ++ m)) = true := by
     match r, h2 with
     | [], h2 => cases h2
     | [_], h2 => cases h2
     | c :: d :: r, h2 => exact h2
    rw [if_pos h2, if_pos this]
  · rw [if_neg h2] at h ⊢
    have hb : 192 ≤ b := by
     refine Classical.byContradiction fun g => ?_
     exact h (ucsAt_low b r (by omega))
    have : ¬ trip (b :: (r ++ m)) = true := by
     match h9 : r ++ m with
     | [] => simp [trip]
     | [_] => simp [trip]
     | c :: d :: r' =>
      simp only [trip, Bool.and_eq_true, beq_iff_eq]
      rintro ⟨g, -⟩
      omega
    rw [if_neg this]
    exact ucsAt_more (l := b :: r) h
theorem pieces_fuel : ∀ (d e : Nat) (l : List Nat), l.length < d → l.length < e → piecesN d l = piecesN e l
 | 0, _, _, h, _ => by omega
 | _, 0, _, _, h => by omega
 | d + 1, e + 1, l, h1, h2 => by
  simp only [piecesN]
  by_cases h : pieceN l = 0
  · rw [if_pos h, if_pos h]
  · rw [if_neg h, if_neg h]
    obtain ⟨a, -, -⟩ := piece_top h
    rw [pieces_fuel d e (l.drop (pieceN l)) (by rw [List.length_drop]; omega) (by rw [List.length_drop]; omega)]
theorem pieces_more (m : List Nat) : ∀ (d e : Nat) (l : List Nat), l.length < d → (l ++ m).length < e → piecesN e (l ++ m) = piecesN d l + piecesN e (l.drop (piecesN d l) ++ m)
 | 0, _, _, h, _ => by omega
 | d + 1, e, l, h1, h2 => by
  simp only [piecesN]
  by_cases h : pieceN l = 0
  · rw [if_pos h, List.drop_zero, Nat.zero_add]
  · rw [if_neg h]
    obtain ⟨a, -, -⟩ := piece_top h
    obtain ⟨e, rfl⟩ : ∃ x, e = x + 1 := ⟨e - 1, by omega⟩
    have hp := piece_more (m := m) h
    have hl : (l.drop (pieceN l) ++ m).length < e := by
     rw [List.length_append, List.length_drop]
     rw [List.length_append] at h2
     omega
    have ih := pieces_more m d e (l.drop (pieceN l)) (by rw [List.length_drop]; omega) hl
    have hd : (l ++ m).drop (pieceN l) = l.drop (pieceN l) ++ m := List.drop_append_of_le_length a
    conv => lhs; simp only [piecesN]
    rw [hp, if_neg h, hd, ih, List.drop_drop]
    have hl2 : (l.drop (pieceN l + piecesN d (l.drop (pieceN l))) ++ m).length < e := by
     rw [List.length_append, List.length_drop]
     rw [List.length_append] at h2
     omega
    rw [pieces_fuel e (e + 1) _ hl2 (by omega)]
    omega
theorem expr_shorter {d : Nat} {l : List Nat} {vs : List MVar} {t : List Nat} (hd : l.length < d) (h : exprN d l = some (vs, t)) : t.length < l.length := by
 obtain ⟨-, p, rfl, hp, -⟩ := (expr_top d l hd).1 vs t h
 rw [List.length_append]
 have := List.length_pos_iff.2 hp
 omega
theorem mP_nil (d : Nat) : mP d [] = some [] := by cases d <;> rfl
theorem after_pieces {d : Nat} {l : List Nat} {x : List MPart} (h : mP d l = some x) (h0 : pieceN l = 0) : l = [] ∨ l.head? = some 123 := by
 match d, l, h with
 | _, [], _ => exact .inl rfl
 | 0, _ :: _, h => cases h
 | d + 1, b :: r, h =>
  right
  simp only [mP] at h
  by_cases hb : b = 123
  · rw [hb]
    rfl
  · rw [if_neg hb, if_pos ((pieces_zero _ _).2 h0)] at h
    cases h
theorem piece_brace (l : List Nat) (h : l.head? = some 123) : pieceN l = 0 := by
 refine Classical.byContradiction fun g => ?_
 exact (piece_top g).2.2 h
theorem pieces_brace (d : Nat) (l : List Nat) (h : l.head? = some 123) : piecesN d l = 0 := by
 cases d with
 | zero => rfl
 | succ d => exact (pieces_zero d l).2 (piece_brace l h)
def putBehind (max : Int) (star : Bool) : List Nat := if star = true then [42] else if 0 < max then 58 :: figsN 4 max.toNat else []
def putV (v : MVar) : List Nat := v.name ++ putBehind v.max v.star
def GoodV (v : MVar) : Prop := run nstep .ns v.name = some .n ∧ 0 ≤ v.max ∧ v.max ≤ 9999 ∧ (v.star = true → v.max = 0)
theorem nstep_sep (q : Q) (b : Nat) (h : b = 44 ∨ b = 125) : nstep q b = none := by
 rcases h with rfl | rfl <;> cases q <;> first | rfl | decide
theorem nrun_nosep : ∀ (l : List Nat) (q q' : Q), run nstep q l = some q' → NoSep l
 | [], _, _, _ => fun b hb => by cases hb
 | b :: r, q, q', h => by
  cases hn : nstep q b with
  | none =>
   rw [run_none hn] at h
   cases h
  | some q1 =>
   rw [run_some hn] at h
   have hr := nrun_nosep r q1 q' h
   intro x hx
   rcases List.mem_cons.1 hx with rfl | hx
   · refine ⟨fun e => ?_, fun e => ?_⟩
     · rw [nstep_sep q x (.inl e)] at hn
       cases hn
     · rw [nstep_sep q x (.inr e)] at hn
       cases hn
   · exact hr x hx
theorem figs_nosep {r : List Nat} (h : Figs r) : NoSep r := fun b hb => by
 have := h.2.2.1 b hb
 omega
theorem behind_nosep {m : Int} {st : Bool} (h0 : 0 ≤ m) (h1 : m ≤ 9999) : NoSep (putBehind m st) := by
 unfold putBehind
 split
 · intro b hb
   simp at hb
   omega
 · split
   · intro b hb
     rcases List.mem_cons.1 hb with rfl | hb
     · omega
     · exact figs_nosep (figs_num (m := m.toNat) (by omega) (by omega)).1 b hb
   · intro b hb
     cases hb
theorem putV_nosep {v : MVar} (h : GoodV v) : NoSep (putV v) := by
 intro b hb
 rcases List.mem_append.1 hb with hb | hb
 · exact nrun_nosep _ _ _ h.1 b hb
 · exact behind_nosep h.2.1 h.2.2.1 b hb
theorem name_ne {l : List Nat} (h : run nstep .ns l = some .n) : l ≠ [] := by
 rintro rfl
 cases h
theorem behind_head (m : Int) (st : Bool) : putBehind m st = [] ∨ ∃ b r, putBehind m st = b :: r ∧ nstep .n b = none := by
 unfold putBehind
 split
 · exact .inr ⟨42, [], rfl, (n_star 42 rfl).2⟩
 · split
   · exact .inr ⟨58, _, rfl, (n_colon 58 rfl).2⟩
   · exact .inl rfl
theorem nameEnd_put {n t : List Nat} (h : run nstep .ns n = some .n) (ht : t = [] ∨ ∃ b r, t = b :: r ∧ nstep .n b = none) : nameEnd (n ++ t) = n.length := by
 refine nameEnd_eq (by simp) (by rw [List.take_left]; exact h) fun k h1 h2 => ?_
 rcases ht with rfl | ⟨b, r, rfl, hb⟩
 · simp at h2
   omega
 · obtain ⟨j, rfl⟩ : ∃ j, k = n.length + (j + 1) := ⟨k - n.length - 1, by omega⟩
   rw [List.take_append, List.take_of_length_le (by omega), show n.length + (j + 1) - n.length = j + 1 by omega, List.take_succ_cons, run_append, h]
   show run nstep .n (b :: _) ≠ _
   rw [run_none hb]
   simp
theorem mVar_put {v : MVar} (h : GoodV v) : mVar (putV v) = some v := by
 obtain ⟨hn, h0, h1, h2⟩ := h
 have he : nameEnd (putV v) = v.name.length := nameEnd_put hn (behind_head _ _)
 have hl : v.name.length ≠ 0 := fun e => name_ne hn (List.eq_nil_of_length_eq_zero e)
 unfold mVar
 rw [he, if_neg hl]
 have hd : (putV v).drop v.name.length = putBehind v.max v.star := List.drop_left
 have ht : (putV v).take v.name.length = v.name := List.take_left
 rw [hd, ht]
 have hb : behindIs (putBehind v.max v.star) = some (v.max, v.star) := by
  rw [behindIs_iff (behind_nosep h0 h1)]
  cases hs : v.star with
  | true =>
   refine .inr (.inl ⟨rfl, ?_⟩)
   rw [h2 hs]
  | false =>
   by_cases hm : 0 < v.max
   · have hf := figs_num (m := v.max.toNat) (by omega) (by omega)
     refine .inr (.inr ⟨figsN 4 v.max.toNat, ?_, hf.1, ?_⟩)
     · unfold putBehind
       rw [if_neg (by simp), if_pos hm]
     · rw [hf.2, Int.toNat_of_nonneg h0]
   · have hm : v.max = 0 := by omega
     refine .inl ⟨?_, ?_⟩
     · unfold putBehind
       rw [if_neg (by simp), if_neg (by omega)]
     · rw [hm]
 rw [hb]
 rfl
theorem put_mVar {l : List Nat} {v : MVar} (hs : NoSep l) (h : mVar l = some v) : GoodV v ∧ putV v = l := by
 unfold mVar at h
 split at h
 · cases h
 rename_i hl
 obtain ⟨⟨m, st⟩, ht, rfl⟩ := Option.map_eq_some_iff.1 h
 have hn := nameEnd_is l hl
 have hspl : l.take (nameEnd l) ++ l.drop (nameEnd l) = l := List.take_append_drop _ _
 rcases (behindIs_iff (hs.drop _) _).1 ht with ⟨h1, h2⟩ | ⟨h1, h2⟩ | ⟨r, h1, h2, h3⟩
 · injection h2 with e1 e2
   subst e1 e2
   refine ⟨⟨hn, by simp, by simp, by simp⟩, ?_⟩
   rw [h1] at hspl
   exact hspl
 · injection h2 with e1 e2
   subst e1 e2
   refine ⟨⟨hn, by simp, by simp, by simp⟩, ?_⟩
   rw [h1] at hspl
   exact hspl
 · injection h3 with e1 e2
   subst e1 e2
   have hf := num_figs h2
   refine ⟨⟨hn, by simp, by show ((num r : Nat) : Int) ≤ 9999; omega, by simp⟩, ?_⟩
   rw [h1] at hspl
   show l.take (nameEnd l) ++ putBehind ((num r : Nat) : Int) false = l
   rw [show putBehind ((num r : Nat) : Int) false = 58 :: r by
    unfold putBehind
    rw [if_neg (by simp), if_pos (by omega), Int.toNat_natCast, hf.1]]
   exact hspl
def putVs : List MVar → List Nat
 | [] => []
 | v :: r => putV v ++ (if r = [] then [125] else 44 :: putVs r)
theorem expr_put : ∀ (vs : List MVar) (t : List Nat) (d : Nat), vs ≠ [] → (∀ v ∈ vs, GoodV v) → vs.length ≤ d → exprN d (putVs vs ++ t) = some (vs, t)
 | [], _, _, h, _, _ => absurd rfl h
 | v :: r, t, 0, _, _, h => by simp at h
 | v :: r, t, d + 1, _, hg, hd => by
  have hv := hg v (List.mem_cons_self ..)
  by_cases hr : r = []
  · subst hr
    have hc : cut (putVs [v] ++ t) = some (putV v, 125, t) := by
     show cut ((putV v ++ [125]) ++ t) = _
     rw [List.append_assoc]
     exact cut_of (putV_nosep hv) (.inr rfl)
    simp only [exprN, hc, mVar_put hv]
    rfl
  · have hc : cut (putVs (v :: r) ++ t) = some (putV v, 44, putVs r ++ t) := by
     simp only [putVs]
     rw [if_neg hr, List.append_assoc]
     exact cut_of (putV_nosep hv) (.inl rfl)
    have hi := expr_put r t d hr (fun x hx => hg x (List.mem_cons_of_mem _ hx)) (by simpa using hd)
    simp only [exprN, hc, mVar_put hv, hi]
    rfl
theorem put_expr : ∀ (d : Nat) (l : List Nat) (vs : List MVar) (t : List Nat), exprN d l = some (vs, t) → vs ≠ [] ∧ (∀ v ∈ vs, GoodV v) ∧ putVs vs ++ t = l
 | 0, _, _, _, h => by cases h
 | d + 1, l, vs, t, h => by
  simp only [exprN] at h
  cases hc : cut l with
  | none =>
   rw [hc] at h
   cases h
  | some p =>
   obtain ⟨a, c, r⟩ := p
   rw [hc] at h
   obtain ⟨hl, hs, hcc⟩ := cut_some hc
   cases hv : mVar a with
   | none =>
    simp only [hv] at h
    cases h
   | some v =>
    simp only [hv] at h
    obtain ⟨hg, hp⟩ := put_mVar hs hv
    by_cases h125 : c = 125
    · rw [if_pos h125] at h
      injection h with h
      injection h with e1 e2
      subst e1 e2
      refine ⟨by simp, by simpa using hg, ?_⟩
      show (putV v ++ [125]) ++ r = l
      rw [hp, hl, h125, List.append_assoc]
      rfl
    · rw [if_neg h125] at h
      cases he : exprN d r with
      | none =>
       rw [he] at h
       cases h
      | some x =>
       obtain ⟨us, t'⟩ := x
       rw [he] at h
       injection h with h
       injection h with e1 e2
       subst e1 e2
       obtain ⟨i1, i2, i3⟩ := put_expr d r us t' he
       refine ⟨by simp, ?_, ?_⟩
       · intro x hx
         rcases List.mem_cons.1 hx with rfl | hx
         · exact hg
         · exact i2 x hx
       · simp only [putVs]
         rw [if_neg i1, hp, hl, List.append_assoc, show c = 44 by omega, ← i3]
         rfl
theorem piece_own {l : List Nat} (h : pieceN l ≠ 0) : pieceN (l.take (pieceN l)) ≠ 0 := by
 match l, h with
 | [], h => exact absurd rfl h
 | b :: r, h =>
  by_cases h1 : isLit b = true
  · have e : pieceN (b :: r) = 1 := by
     simp only [pieceN]
     rw [if_pos h1]
    rw [e]
    show pieceN [b] ≠ 0
    simp only [pieceN]
    rw [if_pos h1]
    simp
  by_cases h2 : trip (b :: r) = true
  · have e : pieceN (b :: r) = 3 := by
     simp only [pieceN]
     rw [if_neg h1, if_pos h2]
    rw [e]
    match r, h2 with
    | [], h2 => cases h2
    | [_], h2 => cases h2
    | c :: d :: r, h2 =>
     show pieceN [b, c, d] ≠ 0
     simp only [pieceN]
     rw [if_neg h1, if_pos (show trip [b, c, d] = true from h2)]
     simp
  · have e : pieceN (b :: r) = ucsAt (b :: r) := by
     simp only [pieceN]
     rw [if_neg h1, if_neg h2]
    rw [e] at h ⊢
    have key : ∀ m : List Nat, m.head? = some b → ucsAt m ≠ 0 → pieceN m ≠ 0 := by
     intro m hm hu
     match m, hm with
     | x :: m, hm =>
      simp only [pieceN]
      split
      · simp
      · split
        · simp
        · exact hu
    rcases ucsAt_steps (b :: r) with g | ⟨g, b0, b1, r', e', -, -, u⟩ | ⟨g, b0, b1, b2, r', e', -, -, -, -, u⟩ | ⟨g, b0, b1, b2, b3, r', e', -, -, -, -, -, -, u⟩
    · exact absurd g h
    · rw [g, e']
      injection e' with e1 e2
      refine key [b0, b1] (by rw [e1]; rfl) ?_
      rw [u]
      simp
    · rw [g, e']
      injection e' with e1 e2
      refine key [b0, b1, b2] (by rw [e1]; rfl) ?_
      rw [u]
      simp
    · rw [g, e']
      injection e' with e1 e2
      refine key [b0, b1, b2, b3] (by rw [e1]; rfl) ?_
      rw [u]
      simp
theorem piece_take {l : List Nat} {m : Nat} (h : pieceN l ≠ 0) (hm : pieceN l ≤ m) : pieceN (l.take m) = pieceN l := by
 have h1 := piece_own h
 have hsp : l.take (pieceN l) ++ l.drop (pieceN l) = l := List.take_append_drop _ _
 have e : pieceN l = pieceN (l.take (pieceN l)) := by
  have := piece_more (m := l.drop (pieceN l)) h1
  rw [hsp] at this
  exact this
 have : l.take m = l.take (pieceN l) ++ (l.take m).drop (pieceN l) := by
  have := List.take_append_drop (pieceN l) (l.take m)
  rw [List.take_take, Nat.min_eq_left hm] at this
  exact this.symm
 rw [this, piece_more h1, ← e]
theorem pieces_nil (e : Nat) : piecesN e [] = 0 := by
 cases e <;> rfl
theorem pieces_own : ∀ (d e : Nat) (l : List Nat), piecesN d l < e → piecesN e (l.take (piecesN d l)) = piecesN d l
 | 0, e, l, h => by
  show piecesN e (l.take 0) = 0
  rw [List.take_zero]
  exact pieces_nil e
 | d + 1, e, l, h => by
  by_cases hz : pieceN l = 0
  · have e0 : piecesN (d + 1) l = 0 := (pieces_zero d l).2 hz
    rw [e0, List.take_zero]
    exact pieces_nil e
  · have e1 : piecesN (d + 1) l = pieceN l + piecesN d (l.drop (pieceN l)) := by
     simp only [piecesN]
     rw [if_neg hz]
    rw [e1] at h ⊢
    obtain ⟨e, rfl⟩ : ∃ x, e = x + 1 := ⟨e - 1, by omega⟩
    have hp := piece_take (m := pieceN l + piecesN d (l.drop (pieceN l))) hz (by omega)
    have ih := pieces_own d e (l.drop (pieceN l)) (by omega)
    have hd : (l.take (pieceN l + piecesN d (l.drop (pieceN l)))).drop (pieceN l) = (l.drop (pieceN l)).take (piecesN d (l.drop (pieceN l))) := by
     rw [List.drop_take, show pieceN l + piecesN d (l.drop (pieceN l)) - pieceN l = piecesN d (l.drop (pieceN l)) by omega]
    conv => lhs; simp only [piecesN]
    rw [hp, if_neg hz, hd, ih]
def opL (op : Int) : List Nat := if op = 0 then [] else [op.toNat]
def putP (x : MPart) : List Nat := x.lit ++ (if x.specs = [] then [] else 123 :: (opL x.op ++ putVs x.specs))
def putT : List MPart → List Nat
 | [] => []
 | x :: r => putP x ++ putT r
def GoodOp (op : Int) : Prop := op = 0 ∨ ∃ b : Nat, isOp b = true ∧ op = (b : Int)
def GoodP (x : MPart) : Prop := (x.specs = [] → x.op = 0 ∧ x.lit ≠ [] ∧ piecesN (x.lit.length + 1) x.lit = x.lit.length) ∧ (x.specs ≠ [] → x.lit = [] ∧ GoodOp x.op ∧ ∀ v ∈ x.specs, GoodV v)
def MayT : List MPart → Prop
 | [] => True
 | x :: r => GoodP x ∧ (x.specs = [] → ∀ y, r.head? = some y → y.specs ≠ []) ∧ MayT r
theorem op_zero {b : Nat} (h : isOp b = true) : b ≠ 0 := by
 rintro rfl
 revert h
 decide
theorem word_op {b : Nat} {q : Q} (h : nstep .ns b = some q) : isOp b = false := by
 have h' : nsStep b = some q := h
 unfold nsStep at h'
 split at h'
 · rename_i hw
   cases ho : isOp b with
   | false => rfl
   | true =>
    simp only [isOp, Bool.or_eq_true, beq_iff_eq] at ho
    rcases ho with (((((rfl | rfl) | rfl) | rfl) | rfl) | rfl) | rfl <;> (revert hw; decide)
 · split at h'
   · rename_i hb
     subst hb
     rfl
   · cases h'
theorem putVs_head {vs : List MVar} (hne : vs ≠ []) (hg : ∀ v ∈ vs, GoodV v) (t : List Nat) : ∃ b r, putVs vs ++ t = b :: r ∧ isOp b = false := by
 match vs, hne with
 | v :: r, _ =>
  have hn := (hg v (List.mem_cons_self ..)).1
  cases he : v.name with
  | nil => exact absurd he (name_ne hn)
  | cons b n =>
   refine ⟨b, _, by simp only [putVs, putV, he, List.cons_append]; rfl, ?_⟩
   rw [he] at hn
   cases hs : nstep .ns b with
   | none =>
    rw [run_none hs] at hn
    cases hn
   | some q => exact word_op hs
theorem opN_put {op : Int} (ho : GoodOp op) {vs : List MVar} (hne : vs ≠ []) (hg : ∀ v ∈ vs, GoodV v) (t : List Nat) : opN (opL op ++ (putVs vs ++ t)) = (op, putVs vs ++ t) := by
 rcases ho with rfl | ⟨b, hb, rfl⟩
 · obtain ⟨b, r, e, hb⟩ := putVs_head hne hg t
   show opN (putVs vs ++ t) = _
   rw [e]
   simp only [opN]
   rw [if_neg (by rw [hb]; simp)]
 · have hz : ((b : Nat) : Int) ≠ 0 := by
    have := op_zero hb
    omega
   unfold opL
   rw [if_neg hz, Int.toNat_natCast]
   show opN (b :: _) = _
   simp only [opN]
   rw [if_pos hb]
   rfl
theorem put_opN (l : List Nat) : GoodOp (opN l).1 ∧ opL (opN l).1 ++ (opN l).2 = l := by
 match l with
 | [] => exact ⟨.inl rfl, rfl⟩
 | b :: r =>
  simp only [opN]
  by_cases hb : isOp b = true
  · rw [if_pos hb]
    have hz : ((b : Nat) : Int) ≠ 0 := by
     have := op_zero hb
     omega
    refine ⟨.inr ⟨b, hb, rfl⟩, ?_⟩
    unfold opL
    rw [if_neg hz, Int.toNat_natCast]
    rfl
  · rw [if_neg hb]
    exact ⟨.inl rfl, rfl⟩
theorem putVs_length : ∀ (vs : List MVar), (∀ v ∈ vs, GoodV v) → vs.length ≤ (putVs vs).length
 | [], _ => Nat.le_refl _
 | v :: r, h => by
  have ih := putVs_length r fun x hx => h x (List.mem_cons_of_mem _ hx)
  simp only [putVs]
  split
  · rename_i hr
    subst hr
    simp
  · simp only [List.length_append, List.length_cons]
    omega
theorem putT_open {x : MPart} (r : List MPart) (hs : x.specs ≠ []) (hl : x.lit = []) : putT (x :: r) = 123 :: (opL x.op ++ (putVs x.specs ++ putT r)) := by
 simp only [putT, putP]
 rw [if_neg hs, hl]
 simp
theorem putT_lit {x : MPart} (r : List MPart) (hs : x.specs = []) : putT (x :: r) = x.lit ++ putT r := by
 simp only [putT, putP]
 rw [if_pos hs, List.append_nil]
theorem mP_put : ∀ (t : List MPart) (d : Nat), MayT t → (putT t).length ≤ d → mP d (putT t) = some t
 | [], d, _, _ => mP_nil d
 | ⟨lit, op, sp⟩ :: r, d, h, hd => by
  obtain ⟨⟨g1, g2⟩, hadj, hr⟩ := h
  by_cases hs : sp = []
  · obtain ⟨o1, o2, o3⟩ := g1 hs
    simp only at o1 o2 o3
    subst hs o1
    rw [putT_lit r rfl] at hd ⊢
    simp only at hd ⊢
    have hn0 : pieceN lit ≠ 0 := by
     intro h0
     have := (pieces_zero lit.length lit).2 h0
     rw [o3] at this
     exact o2 (List.eq_nil_of_length_eq_zero this)
    have hh := (piece_top hn0).2.2
    have hm0 : ∀ e, piecesN e (putT r) = 0 := by
     intro e
     match r, hadj rfl, hr with
     | [], _, _ => exact pieces_nil e
     | y :: r, ha, hr =>
      have hy := ha y rfl
      rw [putT_open r hy (hr.1.2 hy).1]
      exact pieces_brace e _ rfl
    match lit, o2, d with
    | [], o2, _ => exact absurd rfl o2
    | b :: lr, o2, 0 => simp at hd
    | b :: lr, o2, d + 1 =>
     rw [List.cons_append] at hd ⊢
     simp only [mP]
     have hb : b ≠ 123 := fun e => hh (by rw [e]; rfl)
     have hmore := pieces_more (putT r) ((b :: lr).length + 1) ((lr ++ putT r).length + 2) (b :: lr) (by simp) (by simp)
     rw [o3, List.drop_of_length_le (Nat.le_refl _), List.nil_append, hm0, List.cons_append] at hmore
     have hmore : piecesN ((lr ++ putT r).length + 2) (b :: (lr ++ putT r)) = (b :: lr).length := hmore
     rw [if_neg hb, hmore, if_neg (by simp)]
     rw [← List.cons_append, List.drop_left, List.take_left]
     rw [mP_put r d hr (by simp only [List.length_cons, List.length_append] at hd; omega)]
  · obtain ⟨o1, o2, o3⟩ := g2 hs
    simp only at o1 o2 o3
    subst o1
    rw [putT_open r hs rfl] at hd ⊢
    simp only at hd ⊢
    match d with
    | 0 => simp at hd
    | d + 1 =>
     have hl := putVs_length sp o3
     simp only [mP]
     rw [if_pos trivial, opN_put o2 hs o3]
     simp only
     rw [expr_put sp (putT r) _ hs o3 (by simp only [List.length_append]; omega)]
     simp only
     rw [mP_put r d hr (by simp only [List.length_cons, List.length_append] at hd; omega)]
theorem put_mP : ∀ (d : Nat) (l : List Nat) (t : List MPart), l.length ≤ d → mP d l = some t → MayT t ∧ putT t = l
 | d, [], t, _, h => by
  rw [mP_nil] at h
  cases h
  exact ⟨trivial, rfl⟩
 | 0, _ :: _, _, h, _ => by simp at h
 | d + 1, b :: r, t, hd, h => by
  rw [List.length_cons] at hd
  simp only [mP] at h
  by_cases hb : b = 123
  · rw [if_pos hb] at h
    subst hb
    cases hx : exprN (r.length + 1) (opN r).2 with
    | none =>
     rw [hx] at h
     cases h
    | some p =>
     obtain ⟨vs, u⟩ := p
     rw [hx] at h
     simp only at h
     obtain ⟨e1, e2, e3⟩ := put_expr _ _ _ _ hx
     obtain ⟨p1, p2⟩ := put_opN r
     have hol := opN_length r
     have hsh := expr_shorter (by omega) hx
     cases hm : mP d u with
     | none =>
      rw [hm] at h
      cases h
     | some ps =>
      rw [hm] at h
      cases h
      obtain ⟨i1, i2⟩ := put_mP d u ps (by omega) hm
      refine ⟨⟨⟨fun e => absurd e e1, fun _ => ⟨rfl, p1, e2⟩⟩, fun e => absurd e e1, i1⟩, ?_⟩
      rw [putT_open ps e1 rfl]
      simp only
      rw [i2, e3, p2]
  · rw [if_neg hb] at h
    by_cases hz : piecesN (r.length + 2) (b :: r) = 0
    · rw [if_pos hz] at h
      cases h
    · rw [if_neg hz] at h
      obtain ⟨q1, -⟩ := pieces_top (r.length + 2) (b :: r)
      have hlast := pieces_last (r.length + 2) (b :: r) (by simp)
      have hown := pieces_own (r.length + 2) (((b :: r).take (piecesN (r.length + 2) (b :: r))).length + 1) (b :: r) (by rw [List.length_take]; omega)
      generalize piecesN (r.length + 2) (b :: r) = n at *
      cases hm : mP d ((b :: r).drop n) with
      | none =>
       rw [hm] at h
       cases h
      | some ps =>
       rw [hm] at h
       cases h
       have hdl : ((b :: r).drop n).length ≤ d := by
        rw [List.length_drop, List.length_cons]
        omega
       obtain ⟨i1, i2⟩ := put_mP d _ ps hdl hm
       have htl : ((b :: r).take n).length = n := by
        rw [List.length_take]
        omega
       refine ⟨⟨⟨fun _ => ⟨rfl, ?_, ?_⟩, fun e => absurd rfl e⟩, fun _ y hy => ?_, i1⟩, ?_⟩
       · intro e
         rw [show ((b :: r).take n) = [] from e] at htl
         exact hz htl.symm
       · show piecesN (((b :: r).take n).length + 1) ((b :: r).take n) = ((b :: r).take n).length
         rw [hown, htl]
       · match ps, hy with
         | z :: ps, hy =>
          cases hy
          intro hsp
          have hgood := i1.1.1 hsp
          rw [putT_lit ps hsp] at i2
          rcases after_pieces hm hlast with e0 | e0
          · rw [e0] at i2
            exact hgood.2.1 (List.append_eq_nil_iff.1 i2).1
          · rw [← i2] at e0
            have hp0 : pieceN y.lit ≠ 0 := by
             intro h0
             have := (pieces_zero y.lit.length y.lit).2 h0
             rw [hgood.2.2] at this
             exact hgood.2.1 (List.eq_nil_of_length_eq_zero this)
            have hh := (piece_top hp0).2.2
            cases hl : y.lit with
            | nil => exact hgood.2.1 hl
            | cons a as' =>
             rw [hl] at e0 hh
             exact hh e0
       · rw [putT_lit ps rfl, i2]
         exact List.take_append_drop _ _
end Go.Proofs.YtkipkbggnfllkaaDoor.P
end
section
namespace Go.Proofs.YtkipkbggnfllkaaDoor.P
open Go.RowKit Go.Proofs.YtkipkbggnfllkaaDoorW.PrintWords Go.Proofs.YtkipkbggnfllkaaDoorW.PrintLast Go.Proofs.YtkipkbggnfllkaaDoorW.PrintMore
attribute [local go_sem] max2_int min2_int max_two min_two max_three min_three max_four min_four
set_option linter.unusedVariables false
set_option linter.unusedSimpArgs false
mutual
def rf07_Few.l0 : Nat → List (S41) → Int → Option (Bool)
 | 0, _, _ => none
 | k + 1, x0, x3 => if x3 < (x0.length : Int) then (rf07_Few.j1 k x0 x3 (decide (x3 < 31))) else (rf07_Few.j1 k x0 x3 false)
def rf07_Few.j1 : Nat → List (S41) → Int → Bool → Option (Bool)
 | 0, _, _, _ => none
 | k + 1, x0, x3, x12 => if x12 = true then (if 0 ≤ x3 then (if x3 < (x0.length : Int) then (if (((rd_T41 x0 x3).f0).size : Int) > 200 then (rf07_Few.j2 k x0 x3 true) else (rf07_Few.j2 k x0 x3 (decide ((((rd_T41 x0 x3).f2).length : Int) > 20)))) else (none)) else (none)) else (some (decide ((x0.length : Int) ≤ 30)))
def rf07_Few.j2 : Nat → List (S41) → Int → Bool → Option (Bool)
 | 0, _, _, _ => none
 | k + 1, x0, x3, x30 => if x30 = true then (some false) else (rf07_Few.l1 k x0 x3 0)
def rf07_Few.l1 : Nat → List (S41) → Int → Int → Option (Bool)
 | 0, _, _, _ => none
 | k + 1, x0, x3, x4 => if 0 ≤ x3 then (if x3 < (x0.length : Int) then (if x4 < (((rd_T41 x0 x3).f2).length : Int) then (if 0 ≤ x4 then (if (((rd_T43 ((rd_T41 x0 x3).f2) x4).f0).size : Int) > 200 then (some false) else (rf07_Few.l1 k x0 x3 (wrap64 (x4 + 1)))) else (none)) else (rf07_Few.l0 k x0 (wrap64 (x3 + 1)))) else (none)) else (none)
end
def rf07_Few.f (k : Nat) (l0 : List (S41)) : Option (Bool) := rf07_Few.l0 k l0 0
set_option maxHeartbeats 8000000 in
set_option maxRecDepth 100000 in
theorem rf07_Few.calls (k : Nat) (A0 : Option Addr) (c0 : Nat) (l0 : List (S41)) (r : Bool) (w : World) (hr0 : Kd.C k41 w A0 l0.length l0) (hc0 : l0.length ≤ c0) (h : rf07_Few.f k l0 = some r) :
 Calls Tryd.prog 16 #[.slice A0 l0.length c0] w fun e w' => e = .returned (.bool r) ∧ Drawn0 w w' := by
 have HR0 := Aside0.mk hr0
 have HC0 := Aside0.mk hc0
 clear hr0 hc0
 have H : (rf07_Few.l0 k l0 0) = some r := h
 clear h
 have H' := Aside0.mk H
 clear H
 go_enter Tryd.func16, Tryd.ntmps16
 go_wp2
 go_loopg [3] k (fun kq v3 w' => ∃ (x3_1 : Int), v3 = .int .i64 x3_1 ∧ Aside0 (rf07_Few.l0 kq l0 x3_1 = some r) ∧ Aside0 (kq ≤ k) ∧ Drawn0 w w')
 case atStart => exact ⟨(0), (by first | rfl | (simp; done) | (simp [*]; done)), H', ⟨Nat.le_refl _⟩, by repeat (first | exact Drawn0.refl _ | apply Drawn0.step)⟩
 case round =>
  clear H'
  try clear c1
  obtain ⟨x3_1, rfl, HA, HK1, ⟨m1, rfl⟩⟩ := hrel
  cases gk with
  | zero => exact absurd HA.out (by simp [rf07_Few.l0])
  | succ k1 =>
   have H := HA.out
   clear HA
   simp only [rf07_Few.l0] at H
   have HC2 := Aside0.mk H
   clear H
   go_upto_region 2 with (fail)
   go_cut [12] (fun v12 wc => ∃ (kq : Nat) (x12_1 : Bool), v12 = .bool x12_1 ∧ Aside0 (rf07_Few.j1 kq l0 x3_1 x12_1 = some r) ∧ Aside0 (kq ≤ k1) ∧ Drawn0 w wc)
   case first =>
    have H := HC2.out
    clear HC2
    by_cases c3 : x3_1 < (l0.length : Int)
    · rw [if_pos c3] at H
      have c3b0 : decide (x3_1 < (l0.length : Int)) = true := decide_eq_true c3
      clear c3
      (first | rw [c3b0] | (simp only [i64_w, i32_w]; rw [c3b0]) | skip)
      have H' := Aside0.mk H
      clear H
      go_wp2
      go_meet
      case rel => exact ⟨_, (decide (x3_1 < 31)), (by first | rfl | (simp; done) | (simp [*]; done)), H', ⟨by have := HK1.out; first | omega | exact Nat.le_refl _⟩, by repeat (first | exact Drawn0.refl _ | apply Drawn0.step)⟩
    · rw [if_neg c3] at H
      have c3b0 : decide (x3_1 < (l0.length : Int)) = false := decide_eq_false c3
      clear c3
      (first | rw [c3b0] | (simp only [i64_w, i32_w]; rw [c3b0]) | skip)
      have H' := Aside0.mk H
      clear H
      go_wp2
      go_meet
      case rel => exact ⟨_, (false), (by first | rfl | (simp; done) | (simp [*]; done)), H', ⟨by have := HK1.out; first | omega | exact Nat.le_refl _⟩, by repeat (first | exact Drawn0.refl _ | apply Drawn0.step)⟩
   case rest =>
    clear HC2
    try clear c1
    try clear p2
    try clear c3
    try clear c3b0
    obtain ⟨kq, x12_1, rfl, HA, HJ1, ⟨mc1, rfl⟩⟩ := hcut
    cases kq with
    | zero => exact absurd HA.out (by simp [rf07_Few.j1])
    | succ kj1 =>
     have H := HA.out
     clear HA
     simp only [rf07_Few.j1] at H
     by_cases c4 : x12_1 = true
     · subst c4
       have H1 : (if 0 ≤ x3_1 then (if x3_1 < (l0.length : Int) then (if (((rd_T41 l0 x3_1).f0).size : Int) > 200 then (rf07_Few.j2 kj1 l0 x3_1 true) else (rf07_Few.j2 kj1 l0 x3_1 (decide ((((rd_T41 l0 x3_1).f2).length : Int) > 20)))) else (none)) else (none)) = some r := by rw [if_pos rfl] at H; exact H
       clear H
       have H := H1
       clear H1
       have HC5 := Aside0.mk H
       clear H
       go_upto_region 4 with (fail)
       go_cut [30] (fun v30 wc => ∃ (kq : Nat) (x30_4 : Bool), v30 = .bool x30_4 ∧ Aside0 (rf07_Few.j2 kq l0 x3_1 x30_4 = some r) ∧ Aside0 (kq ≤ kj1) ∧ Drawn0 w wc)
       case first =>
        have H := HC5.out
        clear HC5
        by_cases c6 : 0 ≤ x3_1
        · rw [if_pos c6] at H
          have c6b0 : decide (0 ≤ x3_1) = true := decide_eq_true c6
          clear c6
          (first | rw [c6b0] | (simp only [i64_w, i32_w]; rw [c6b0]) | skip)
          by_cases c7 : x3_1 < (l0.length : Int)
          · rw [if_pos c7] at H
            have c7b0 : decide (x3_1 < (l0.length : Int)) = true := decide_eq_true c7
            clear c7
            by_cases c8 : (((rd_T41 l0 x3_1).f0).size : Int) > 200
            · rw [if_pos c8] at H
              have c8b0 : decide (200 < (((rd_T41 l0 x3_1).f0).size : Int)) = true := decide_eq_true c8
              have c8b1 : decide (200 < ((rd_T41 l0 x3_1).f0).size) = true := decide_eq_true (by omega)
              clear c8
              have H' := Aside0.mk H
              clear H
              have p261 : 0 ≤ (x3_1 : Int) := of_decide_eq_true (by first | (with_reducible assumption) | assumption)
              have q261 : x3_1 < (l0.length : Int) := of_decide_eq_true (by first | (with_reducible assumption) | assumption)
              obtain ⟨ad261, A261_2, c261_2, e261, hx261_0, hx261_1, hx261_2, hl261_2, hi261_2⟩ := at_T41 HR0.out x3_1 p261 q261
              cases e261
              have HR261_2 := Aside0.mk hi261_2
              have HC261_2 := Aside0.mk hl261_2
              clear hi261_2 hl261_2
              replace p261 := eq_true p261
              replace q261 := eq_true q261
              go_wp2
              go_meet
              case rel => exact ⟨_, (true), (by first | rfl | (simp; done) | (simp [*]; done)), H', ⟨by have := HK1.out; have := HJ1.out; first | omega | exact Nat.le_refl _⟩, by repeat (first | exact Drawn0.refl _ | apply Drawn0.step)⟩
            · rw [if_neg c8] at H
              have c8b0 : decide (200 < (((rd_T41 l0 x3_1).f0).size : Int)) = false := decide_eq_false c8
              have c8b1 : decide (200 < ((rd_T41 l0 x3_1).f0).size) = false := decide_eq_false (by omega)
              clear c8
              have H' := Aside0.mk H
              clear H
              have p261 : 0 ≤ (x3_1 : Int) := of_decide_eq_true (by first | (with_reducible assumption) | assumption)
              have q261 : x3_1 < (l0.length : Int) := of_decide_eq_true (by first | (with_reducible assumption) | assumption)
              obtain ⟨ad261, A261_2, c261_2, e261, hx261_0, hx261_1, hx261_2, hl261_2, hi261_2⟩ := at_T41 HR0.out x3_1 p261 q261
              cases e261
              have HR261_2 := Aside0.mk hi261_2
              have HC261_2 := Aside0.mk hl261_2
              clear hi261_2 hl261_2
              replace p261 := eq_true p261
              replace q261 := eq_true q261
              have p262 : 0 ≤ (x3_1 : Int) := of_decide_eq_true (by first | (with_reducible assumption) | assumption)
              have q262 : x3_1 < (l0.length : Int) := of_decide_eq_true (by first | (with_reducible assumption) | assumption)
              obtain ⟨ad262, A262_2, c262_2, e262, hx262_0, hx262_1, hx262_2, hl262_2, hi262_2⟩ := at_T41 HR0.out x3_1 p262 q262
              obtain rfl : ad261 = ad262 := (by injection e262)
              have HR262_2 := Aside0.mk hi262_2
              have HC262_2 := Aside0.mk hl262_2
              clear hi262_2 hl262_2
              replace p262 := eq_true p262
              replace q262 := eq_true q262
              have ea_ := Option.some.inj (hx261_2.symm.trans hx262_2)
              injection ea_ with ea_ en_ ec_
              subst ea_
              subst ec_
              clear en_
              go_wp2
              go_meet
              case rel => exact ⟨_, (decide ((((rd_T41 l0 x3_1).f2).length : Int) > 20)), (by first | rfl | (simp; done) | (simp [*]; done)), H', ⟨by have := HK1.out; have := HJ1.out; first | omega | exact Nat.le_refl _⟩, by repeat (first | exact Drawn0.refl _ | apply Drawn0.step)⟩
          · rw [if_neg c7] at H
            exact absurd H (by simp)
        · rw [if_neg c6] at H
          exact absurd H (by simp)
       case rest =>
        clear HC5
        try clear c1
        try clear c2
        try clear p2
        try clear q2
        try clear hx2
        try clear c3
        try clear c3b0
        try clear c4
        try clear c6
        try clear c6b0
        try clear c7
        try clear c7b0
        try clear c8
        try clear c8b0
        try clear c8b1
        try clear hx261_0
        try clear hx261_1
        try clear hx261_2
        try clear hx262_0
        try clear hx262_1
        try clear hx262_2
        try clear p2
        try clear p261
        try clear p262
        try clear q261
        try clear q262
        obtain ⟨kq, x30_4, rfl, HA, HJ4, ⟨mc4, rfl⟩⟩ := hcut
        cases kq with
        | zero => exact absurd HA.out (by simp [rf07_Few.j2])
        | succ kj4 =>
         have H := HA.out
         clear HA
         simp only [rf07_Few.j2] at H
         by_cases c9 : x30_4 = true
         · subst c9
           have H1 : (some false) = some r := by rw [if_pos rfl] at H; exact H
           clear H
           have H := H1
           clear H1
           obtain rfl := Option.some.inj H
           go_wp2
           go_ret
           exact ⟨by first | rfl | (simp; done) | (simp [*]; done), by repeat (first | exact Drawn0.refl _ | apply Drawn0.step)⟩
         · replace c9 := Bool.eq_false_iff.mpr c9
           subst c9
           have H1 : (rf07_Few.l1 kj4 l0 x3_1 0) = some r := by rw [if_neg (show ¬ (false = true) by decide)] at H; exact H
           clear H
           have H := H1
           clear H1
           have H' := Aside0.mk H
           clear H
           go_wp2
           go_loopg [4] kj4 (fun kq v4 w' => ∃ (x4_4 : Int), v4 = .int .i64 x4_4 ∧ Aside0 (rf07_Few.l1 kq l0 x3_1 x4_4 = some r) ∧ Aside0 (kq ≤ kj4) ∧ Drawn0 w w')
           case atStart => exact ⟨(0), (by first | rfl | (simp; done) | (simp [*]; done)), H', ⟨Nat.le_refl _⟩, by repeat (first | exact Drawn0.refl _ | apply Drawn0.step)⟩
           case round =>
            clear H'
            try clear c1
            try clear c2
            try clear p2
            try clear q2
            try clear hx2
            try clear c3
            try clear c3b0
            try clear c4
            try clear c6
            try clear c6b0
            try clear c7
            try clear c7b0
            try clear c8
            try clear c8b0
            try clear c8b1
            try clear c9
            try clear hx261_0
            try clear hx261_1
            try clear hx261_2
            try clear hx262_0
            try clear hx262_1
            try clear hx262_2
            try clear p2
            try clear p261
            try clear p262
            try clear q2
            try clear q261
            try clear q262
            obtain ⟨x4_4, rfl, HA, HK4, ⟨m4, rfl⟩⟩ := hrel
            cases gk with
            | zero => exact absurd HA.out (by simp [rf07_Few.l1])
            | succ k4 =>
             have H := HA.out
             clear HA
             simp only [rf07_Few.l1] at H
             by_cases c10 : 0 ≤ x3_1
             · rw [if_pos c10] at H
               have c10b0 : decide (0 ≤ x3_1) = true := decide_eq_true c10
               clear c10
               by_cases c11 : x3_1 < (l0.length : Int)
               · rw [if_pos c11] at H
                 have c11b0 : decide (x3_1 < (l0.length : Int)) = true := decide_eq_true c11
                 clear c11
                 by_cases c12 : x4_4 < (((rd_T41 l0 x3_1).f2).length : Int)
                 · rw [if_pos c12] at H
                   have c12b0 : decide (x4_4 < (((rd_T41 l0 x3_1).f2).length : Int)) = true := decide_eq_true c12
                   clear c12
                   by_cases c13 : 0 ≤ x4_4
                   · rw [if_pos c13] at H
                     have c13b0 : decide (0 ≤ x4_4) = true := decide_eq_true c13
                     clear c13
                     by_cases c14 : (((rd_T43 ((rd_T41 l0 x3_1).f2) x4_4).f0).size : Int) > 200
                     · rw [if_pos c14] at H
                       have c14b0 : decide (200 < (((rd_T43 ((rd_T41 l0 x3_1).f2) x4_4).f0).size : Int)) = true := decide_eq_true c14
                       have c14b1 : decide (200 < ((rd_T43 ((rd_T41 l0 x3_1).f2) x4_4).f0).size) = true := decide_eq_true (by omega)
                       clear c14
                       obtain rfl := Option.some.inj H
                       have p263 : 0 ≤ (x3_1 : Int) := of_decide_eq_true (by first | (with_reducible assumption) | assumption)
                       have q263 : x3_1 < (l0.length : Int) := of_decide_eq_true (by first | (with_reducible assumption) | assumption)
                       obtain ⟨ad263, A263_2, c263_2, e263, hx263_0, hx263_1, hx263_2, hl263_2, hi263_2⟩ := at_T41 HR0.out x3_1 p263 q263
                       cases e263
                       have HR263_2 := Aside0.mk hi263_2
                       have HC263_2 := Aside0.mk hl263_2
                       clear hi263_2 hl263_2
                       replace p263 := eq_true p263
                       replace q263 := eq_true q263
                       have p264 : 0 ≤ (x3_1 : Int) := of_decide_eq_true (by first | (with_reducible assumption) | assumption)
                       have q264 : x3_1 < (l0.length : Int) := of_decide_eq_true (by first | (with_reducible assumption) | assumption)
                       obtain ⟨ad264, A264_2, c264_2, e264, hx264_0, hx264_1, hx264_2, hl264_2, hi264_2⟩ := at_T41 HR0.out x3_1 p264 q264
                       obtain rfl : ad263 = ad264 := (by injection e264)
                       have HR264_2 := Aside0.mk hi264_2
                       have HC264_2 := Aside0.mk hl264_2
                       clear hi264_2 hl264_2
                       replace p264 := eq_true p264
                       replace q264 := eq_true q264
                       have ea_ := Option.some.inj (hx263_2.symm.trans hx264_2)
                       injection ea_ with ea_ en_ ec_
                       subst ea_
                       subst ec_
                       clear en_
                       have p265 : 0 ≤ (x4_4 : Int) := of_decide_eq_true (by first | (with_reducible assumption) | assumption)
                       have q265 : x4_4 < (((rd_T41 l0 x3_1).f2).length : Int) := of_decide_eq_true (by first | (with_reducible assumption) | assumption)
                       obtain ⟨ad265, e265, hx265_0, hx265_1, hx265_2⟩ := at_T43 HR264_2.out x4_4 p265 q265
                       cases e265
                       replace p265 := eq_true p265
                       replace q265 := eq_true q265
                       go_wp2
                       go_ret
                       exact ⟨by first | rfl | (simp; done) | (simp [*]; done), by repeat (first | exact Drawn0.refl _ | apply Drawn0.step)⟩
                     · rw [if_neg c14] at H
                       have c14b0 : decide (200 < (((rd_T43 ((rd_T41 l0 x3_1).f2) x4_4).f0).size : Int)) = false := decide_eq_false c14
                       have c14b1 : decide (200 < ((rd_T43 ((rd_T41 l0 x3_1).f2) x4_4).f0).size) = false := decide_eq_false (by omega)
                       clear c14
                       have H' := Aside0.mk H
                       clear H
                       have p263 : 0 ≤ (x3_1 : Int) := of_decide_eq_true (by first | (with_reducible assumption) | assumption)
                       have q263 : x3_1 < (l0.length : Int) := of_decide_eq_true (by first | (with_reducible assumption) | assumption)
                       obtain ⟨ad263, A263_2, c263_2, e263, hx263_0, hx263_1, hx263_2, hl263_2, hi263_2⟩ := at_T41 HR0.out x3_1 p263 q263
                       cases e263
                       have HR263_2 := Aside0.mk hi263_2
                       have HC263_2 := Aside0.mk hl263_2
                       clear hi263_2 hl263_2
                       replace p263 := eq_true p263
                       replace q263 := eq_true q263
                       have p264 : 0 ≤ (x3_1 : Int) := of_decide_eq_true (by first | (with_reducible assumption) | assumption)
                       have q264 : x3_1 < (l0.length : Int) := of_decide_eq_true (by first | (with_reducible assumption) | assumption)
                       obtain ⟨ad264, A264_2, c264_2, e264, hx264_0, hx264_1, hx264_2, hl264_2, hi264_2⟩ := at_T41 HR0.out x3_1 p264 q264
                       obtain rfl : ad263 = ad264 := (by injection e264)
                       have HR264_2 := Aside0.mk hi264_2
                       have HC264_2 := Aside0.mk hl264_2
                       clear hi264_2 hl264_2
                       replace p264 := eq_true p264
                       replace q264 := eq_true q264
                       have ea_ := Option.some.inj (hx263_2.symm.trans hx264_2)
                       injection ea_ with ea_ en_ ec_
                       subst ea_
                       subst ec_
                       clear en_
                       have p265 : 0 ≤ (x4_4 : Int) := of_decide_eq_true (by first | (with_reducible assumption) | assumption)
                       have q265 : x4_4 < (((rd_T41 l0 x3_1).f2).length : Int) := of_decide_eq_true (by first | (with_reducible assumption) | assumption)
                       obtain ⟨ad265, e265, hx265_0, hx265_1, hx265_2⟩ := at_T43 HR264_2.out x4_4 p265 q265
                       cases e265
                       replace p265 := eq_true p265
                       replace q265 := eq_true q265
                       go_wp2
                       go_roundg k4
                       case measure => have := HK1.out; have := HJ1.out; have := HJ4.out; have := HK4.out; omega
                       case rel => exact ⟨(wrap64 (x4_4 + 1)), (by first | rfl | (simp; done) | (simp [*]; done)), H', ⟨by have := HK1.out; have := HJ1.out; have := HJ4.out; have := HK4.out; omega⟩, by repeat (first | exact Drawn0.refl _ | apply Drawn0.step)⟩
                   · rw [if_neg c13] at H
                     exact absurd H (by simp)
                 · rw [if_neg c12] at H
                   have c12b0 : decide (x4_4 < (((rd_T41 l0 x3_1).f2).length : Int)) = false := decide_eq_false c12
                   clear c12
                   have H' := Aside0.mk H
                   clear H
                   have p263 : 0 ≤ (x3_1 : Int) := of_decide_eq_true (by first | (with_reducible assumption) | assumption)
                   have q263 : x3_1 < (l0.length : Int) := of_decide_eq_true (by first | (with_reducible assumption) | assumption)
                   obtain ⟨ad263, A263_2, c263_2, e263, hx263_0, hx263_1, hx263_2, hl263_2, hi263_2⟩ := at_T41 HR0.out x3_1 p263 q263
                   cases e263
                   have HR263_2 := Aside0.mk hi263_2
                   have HC263_2 := Aside0.mk hl263_2
                   clear hi263_2 hl263_2
                   replace p263 := eq_true p263
                   replace q263 := eq_true q263
                   go_wp2
                   go_roundg k4
                   case measure => have := HK1.out; have := HJ1.out; have := HJ4.out; have := HK4.out; omega
                   case rel => exact ⟨(wrap64 (x3_1 + 1)), (by first | rfl | (simp; done) | (simp [*]; done)), H', ⟨by have := HK1.out; have := HJ1.out; have := HJ4.out; have := HK4.out; omega⟩, by repeat (first | exact Drawn0.refl _ | apply Drawn0.step)⟩
               · rw [if_neg c11] at H
                 exact absurd H (by simp)
             · rw [if_neg c10] at H
               exact absurd H (by simp)
     · replace c4 := Bool.eq_false_iff.mpr c4
       subst c4
       have H1 : (some (decide ((l0.length : Int) ≤ 30))) = some r := by rw [if_neg (show ¬ (false = true) by decide)] at H; exact H
       clear H
       have H := H1
       clear H1
       obtain rfl := Option.some.inj H
       go_wp2
       go_ret
       exact ⟨by first | rfl | (simp; done) | (simp [*]; done), by repeat (first | exact Drawn0.refl _ | apply Drawn0.step)⟩
theorem eqA43 (d : Nat) (w : World) (x0 y0 : ByteArray) (x1 y1 : Int) (x2 y2 : Bool) :
 (Op.equalIn (d + 2) 43 (.agg #[.string x0, .int .i64 x1, .bool x2]) (.agg #[.string y0, .int .i64 y1, .bool y2])).run Tryd.prog w = .ok (x0.toList == y0.toList && (x1 == y1 && (x2 == y2))) w := by
 refine eqA_of Tryd.underlying43 (by kernel_rfl) ?_
 refine eqf_cons (by rfl) (by go_simp; rfl) (by go_simp; rfl) (by go_simp) ?_
 refine eqf_cons (by rfl) (by go_simp; rfl) (by go_simp; rfl) (by go_simp) ?_
 exact eqf_last (by rfl) (by go_simp; rfl) (by go_simp; rfl) (by go_simp)
end Go.Proofs.YtkipkbggnfllkaaDoor.P
end
section
namespace Go.Proofs.YtkipkbggnfllkaaDoor.P
open Go.RowKit Go.Proofs.YtkipkbggnfllkaaDoorW.PrintWords Go.Proofs.YtkipkbggnfllkaaDoorW.PrintLast Go.Proofs.YtkipkbggnfllkaaDoorW.PrintMore
attribute [local go_sem] max2_int min2_int max_two min_two max_three min_three max_four min_four
set_option linter.unusedVariables false
set_option linter.unusedSimpArgs false
attribute [local go_sem high] eqA43
mutual
def rf07_Same.l0 : Nat → List (S41) → List (S41) → Int → Option (Bool)
 | 0, _, _, _ => none
 | k + 1, x0, x1, x5 => if x5 < (x0.length : Int) then (if 0 ≤ x5 then (if x5 < (x1.length : Int) then (if ((rd_T41 x0 x5).f0).toList = ((rd_T41 x1 x5).f0).toList then (if ((rd_T41 x0 x5).f1) = ((rd_T41 x1 x5).f1) then (rf07_Same.j1 k x0 x1 x5 ((((rd_T41 x0 x5).f2).length : Int) != (((rd_T41 x1 x5).f2).length : Int))) else (rf07_Same.j1 k x0 x1 x5 true)) else (rf07_Same.j1 k x0 x1 x5 true)) else (none)) else (none)) else (some true)
def rf07_Same.j1 : Nat → List (S41) → List (S41) → Int → Bool → Option (Bool)
 | 0, _, _, _, _ => none
 | k + 1, x0, x1, x5, x56 => if x56 = true then (some false) else (rf07_Same.l1 k x0 x1 x5 0)
def rf07_Same.l1 : Nat → List (S41) → List (S41) → Int → Int → Option (Bool)
 | 0, _, _, _, _ => none
 | k + 1, x0, x1, x5, x6 => if 0 ≤ x5 then (if x5 < (x0.length : Int) then (if x6 < (((rd_T41 x0 x5).f2).length : Int) then (if 0 ≤ x6 then (if x5 < (x1.length : Int) then (if x6 < (((rd_T41 x1 x5).f2).length : Int) then (if (!((((rd_T43 ((rd_T41 x0 x5).f2) x6).f0).toList) == (((rd_T43 ((rd_T41 x1 x5).f2) x6).f0).toList)) || (!(((rd_T43 ((rd_T41 x0 x5).f2) x6).f1) == ((rd_T43 ((rd_T41 x1 x5).f2) x6).f1)) || (!(((rd_T43 ((rd_T41 x0 x5).f2) x6).f2) == ((rd_T43 ((rd_T41 x1 x5).f2) x6).f2))))) = true then (some false) else (rf07_Same.l1 k x0 x1 x5 (wrap64 (x6 + 1)))) else (none)) else (none)) else (none)) else (rf07_Same.l0 k x0 x1 (wrap64 (x5 + 1)))) else (none)) else (none)
end
def rf07_Same.f (k : Nat) (l0 : List (S41)) (l1 : List (S41)) : Option (Bool) := if (l0.length : Int) = (l1.length : Int) then (rf07_Same.l0 k l0 l1 0) else (some false)
set_option maxHeartbeats 8000000 in
set_option maxRecDepth 100000 in
theorem rf07_Same.calls (k : Nat) (A0 : Option Addr) (c0 : Nat) (l0 : List (S41)) (A1 : Option Addr) (c1 : Nat) (l1 : List (S41)) (r : Bool) (w : World) (hr0 : Kd.C k41 w A0 l0.length l0) (hc0 : l0.length ≤ c0) (hr1 : Kd.C k41 w A1 l1.length l1) (hc1 : l1.length ≤ c1) (h : rf07_Same.f k l0 l1 = some r) :
 Calls Tryd.prog 19 #[.slice A0 l0.length c0, .slice A1 l1.length c1] w fun e w' => e = .returned (.bool r) ∧ Drawn0 w w' := by
 have hu43 := Tryd.underlying43
 have HR0 := Aside0.mk hr0
 have HC0 := Aside0.mk hc0
 clear hr0 hc0
 have HR1 := Aside0.mk hr1
 have HC1 := Aside0.mk hc1
 clear hr1 hc1
 have H : (if (l0.length : Int) = (l1.length : Int) then (rf07_Same.l0 k l0 l1 0) else (some false)) = some r := h
 clear h
 by_cases c3 : (l0.length : Int) = (l1.length : Int)
 · rw [if_pos c3] at H
   have c3b0 : ((l0.length : Int) == (l1.length : Int)) = true := beq_iff_eq.mpr c3
   have c3b1 : ((l0.length : Int) != (l1.length : Int)) = false := bne_eq_false_iff_eq.mpr c3
   have c3b2 : (l0.length == l1.length) = true := by first | simpa using c3 | (simp at c3 ⊢; omega)
   clear c3
   have H' := Aside0.mk H
   clear H
   go_enter Tryd.func19, Tryd.ntmps19
   go_wp2
   repeat (go_quiet (fail); try go_wp2)
   go_loopg [5] k (fun kq v5 w' => ∃ (x5_1 : Int), v5 = .int .i64 x5_1 ∧ Aside0 (rf07_Same.l0 kq l0 l1 x5_1 = some r) ∧ Aside0 (kq ≤ k) ∧ Drawn0 w w')
   case atStart => exact ⟨(0), (by first | rfl | (simp; done) | (simp [*]; done)), H', ⟨Nat.le_refl _⟩, by repeat (first | exact Drawn0.refl _ | apply Drawn0.step)⟩
   case round =>
    clear H'
    try clear c1
    try clear p2
    try clear c3
    try clear c3b0
    try clear c3b1
    try clear c3b2
    obtain ⟨x5_1, rfl, HA, HK1, ⟨m1, rfl⟩⟩ := hrel
    cases gk with
    | zero => exact absurd HA.out (by simp [rf07_Same.l0])
    | succ k1 =>
     have H := HA.out
     clear HA
     simp only [rf07_Same.l0] at H
     by_cases c4 : x5_1 < (l0.length : Int)
     · rw [if_pos c4] at H
       have c4b0 : decide (x5_1 < (l0.length : Int)) = true := decide_eq_true c4
       clear c4
       have HC5 := Aside0.mk H
       clear H
       go_upto_region 6 with (fail)
       repeat (go_quiet (fail); go_upto_region 6 with (fail))
       go_cut [56] (fun v56 wc => ∃ (kq : Nat) (x56_4 : Bool), v56 = .bool x56_4 ∧ Aside0 (rf07_Same.j1 kq l0 l1 x5_1 x56_4 = some r) ∧ Aside0 (kq ≤ k1) ∧ Drawn0 w wc)
       case first =>
        have H := HC5.out
        clear HC5
        by_cases c6 : 0 ≤ x5_1
        · rw [if_pos c6] at H
          have c6b0 : decide (0 ≤ x5_1) = true := decide_eq_true c6
          clear c6
          (first | rw [c6b0] | (simp only [i64_w, i32_w]; rw [c6b0]) | skip)
          by_cases c7 : x5_1 < (l1.length : Int)
          · rw [if_pos c7] at H
            have c7b0 : decide (x5_1 < (l1.length : Int)) = true := decide_eq_true c7
            clear c7
            by_cases c8 : ((rd_T41 l0 x5_1).f0).toList = ((rd_T41 l1 x5_1).f0).toList
            · rw [if_pos c8] at H
              have c8b0 : (((rd_T41 l0 x5_1).f0).toList == ((rd_T41 l1 x5_1).f0).toList) = true := beq_iff_eq.mpr c8
              have c8b1 : (((rd_T41 l0 x5_1).f0).toList != ((rd_T41 l1 x5_1).f0).toList) = false := bne_eq_false_iff_eq.mpr c8
              clear c8
              by_cases c9 : ((rd_T41 l0 x5_1).f1) = ((rd_T41 l1 x5_1).f1)
              · rw [if_pos c9] at H
                have c9b0 : (((rd_T41 l0 x5_1).f1) == ((rd_T41 l1 x5_1).f1)) = true := beq_iff_eq.mpr c9
                have c9b1 : (((rd_T41 l0 x5_1).f1) != ((rd_T41 l1 x5_1).f1)) = false := bne_eq_false_iff_eq.mpr c9
                clear c9
                have H' := Aside0.mk H
                clear H
                have p270 : 0 ≤ (x5_1 : Int) := of_decide_eq_true (by first | (with_reducible assumption) | assumption)
                have q270 : x5_1 < (l0.length : Int) := of_decide_eq_true (by first | (with_reducible assumption) | assumption)
                obtain ⟨ad270, A270_2, c270_2, e270, hx270_0, hx270_1, hx270_2, hl270_2, hi270_2⟩ := at_T41 HR0.out x5_1 p270 q270
                cases e270
                have HR270_2 := Aside0.mk hi270_2
                have HC270_2 := Aside0.mk hl270_2
                clear hi270_2 hl270_2
                replace p270 := eq_true p270
                replace q270 := eq_true q270
                have p271 : 0 ≤ (x5_1 : Int) := of_decide_eq_true (by first | (with_reducible assumption) | assumption)
                have q271 : x5_1 < (l1.length : Int) := of_decide_eq_true (by first | (with_reducible assumption) | assumption)
                obtain ⟨ad271, A271_2, c271_2, e271, hx271_0, hx271_1, hx271_2, hl271_2, hi271_2⟩ := at_T41 HR1.out x5_1 p271 q271
                cases e271
                have HR271_2 := Aside0.mk hi271_2
                have HC271_2 := Aside0.mk hl271_2
                clear hi271_2 hl271_2
                replace p271 := eq_true p271
                replace q271 := eq_true q271
                have p272 : 0 ≤ (x5_1 : Int) := of_decide_eq_true (by first | (with_reducible assumption) | assumption)
                have q272 : x5_1 < (l0.length : Int) := of_decide_eq_true (by first | (with_reducible assumption) | assumption)
                obtain ⟨ad272, A272_2, c272_2, e272, hx272_0, hx272_1, hx272_2, hl272_2, hi272_2⟩ := at_T41 HR0.out x5_1 p272 q272
                obtain rfl : ad270 = ad272 := (by injection e272)
                have HR272_2 := Aside0.mk hi272_2
                have HC272_2 := Aside0.mk hl272_2
                clear hi272_2 hl272_2
                replace p272 := eq_true p272
                replace q272 := eq_true q272
                have ea_ := Option.some.inj (hx270_2.symm.trans hx272_2)
                injection ea_ with ea_ en_ ec_
                subst ea_
                subst ec_
                clear en_
                have p273 : 0 ≤ (x5_1 : Int) := of_decide_eq_true (by first | (with_reducible assumption) | assumption)
                have q273 : x5_1 < (l1.length : Int) := of_decide_eq_true (by first | (with_reducible assumption) | assumption)
                obtain ⟨ad273, A273_2, c273_2, e273, hx273_0, hx273_1, hx273_2, hl273_2, hi273_2⟩ := at_T41 HR1.out x5_1 p273 q273
                obtain rfl : ad271 = ad273 := (by injection e273)
                have HR273_2 := Aside0.mk hi273_2
                have HC273_2 := Aside0.mk hl273_2
                clear hi273_2 hl273_2
                replace p273 := eq_true p273
                replace q273 := eq_true q273
                have ea_ := Option.some.inj (hx271_2.symm.trans hx273_2)
                injection ea_ with ea_ en_ ec_
                subst ea_
                subst ec_
                clear en_
                have p274 : 0 ≤ (x5_1 : Int) := of_decide_eq_true (by first | (with_reducible assumption) | assumption)
                have q274 : x5_1 < (l0.length : Int) := of_decide_eq_true (by first | (with_reducible assumption) | assumption)
                obtain ⟨ad274, A274_2, c274_2, e274, hx274_0, hx274_1, hx274_2, hl274_2, hi274_2⟩ := at_T41 HR0.out x5_1 p274 q274
                obtain rfl : ad270 = ad274 := (by injection e274)
                have HR274_2 := Aside0.mk hi274_2
                have HC274_2 := Aside0.mk hl274_2
                clear hi274_2 hl274_2
                replace p274 := eq_true p274
                replace q274 := eq_true q274
                have ea_ := Option.some.inj (hx270_2.symm.trans hx274_2)
                injection ea_ with ea_ en_ ec_
                subst ea_
                subst ec_
                clear en_
                have p275 : 0 ≤ (x5_1 : Int) := of_decide_eq_true (by first | (with_reducible assumption) | assumption)
                have q275 : x5_1 < (l1.length : Int) := of_decide_eq_true (by first | (with_reducible assumption) | assumption)
                obtain ⟨ad275, A275_2, c275_2, e275, hx275_0, hx275_1, hx275_2, hl275_2, hi275_2⟩ := at_T41 HR1.out x5_1 p275 q275
                obtain rfl : ad271 = ad275 := (by injection e275)
                have HR275_2 := Aside0.mk hi275_2
                have HC275_2 := Aside0.mk hl275_2
                clear hi275_2 hl275_2
                replace p275 := eq_true p275
                replace q275 := eq_true q275
                have ea_ := Option.some.inj (hx271_2.symm.trans hx275_2)
                injection ea_ with ea_ en_ ec_
                subst ea_
                subst ec_
                clear en_
                go_wp2
                repeat (go_quiet (fail); try go_wp2)
                go_meet
                case rel => exact ⟨_, (((((rd_T41 l0 x5_1).f2).length : Int) != (((rd_T41 l1 x5_1).f2).length : Int))), (by first | rfl | (simp; done) | (simp [*]; done)), H', ⟨by have := HK1.out; first | omega | exact Nat.le_refl _⟩, by repeat (first | exact Drawn0.refl _ | apply Drawn0.step)⟩
              · rw [if_neg c9] at H
                have c9b0 : (((rd_T41 l0 x5_1).f1) == ((rd_T41 l1 x5_1).f1)) = false := beq_eq_false_iff_ne.mpr c9
                have c9b1 : (((rd_T41 l0 x5_1).f1) != ((rd_T41 l1 x5_1).f1)) = true := bne_iff_ne.mpr c9
                have H' := Aside0.mk H
                clear H
                have p270 : 0 ≤ (x5_1 : Int) := of_decide_eq_true (by first | (with_reducible assumption) | assumption)
                have q270 : x5_1 < (l0.length : Int) := of_decide_eq_true (by first | (with_reducible assumption) | assumption)
                obtain ⟨ad270, A270_2, c270_2, e270, hx270_0, hx270_1, hx270_2, hl270_2, hi270_2⟩ := at_T41 HR0.out x5_1 p270 q270
                cases e270
                have HR270_2 := Aside0.mk hi270_2
                have HC270_2 := Aside0.mk hl270_2
                clear hi270_2 hl270_2
                replace p270 := eq_true p270
                replace q270 := eq_true q270
                have p271 : 0 ≤ (x5_1 : Int) := of_decide_eq_true (by first | (with_reducible assumption) | assumption)
                have q271 : x5_1 < (l1.length : Int) := of_decide_eq_true (by first | (with_reducible assumption) | assumption)
                obtain ⟨ad271, A271_2, c271_2, e271, hx271_0, hx271_1, hx271_2, hl271_2, hi271_2⟩ := at_T41 HR1.out x5_1 p271 q271
                cases e271
                have HR271_2 := Aside0.mk hi271_2
                have HC271_2 := Aside0.mk hl271_2
                clear hi271_2 hl271_2
                replace p271 := eq_true p271
                replace q271 := eq_true q271
                have p272 : 0 ≤ (x5_1 : Int) := of_decide_eq_true (by first | (with_reducible assumption) | assumption)
                have q272 : x5_1 < (l0.length : Int) := of_decide_eq_true (by first | (with_reducible assumption) | assumption)
                obtain ⟨ad272, A272_2, c272_2, e272, hx272_0, hx272_1, hx272_2, hl272_2, hi272_2⟩ := at_T41 HR0.out x5_1 p272 q272
                obtain rfl : ad270 = ad272 := (by injection e272)
                have HR272_2 := Aside0.mk hi272_2
                have HC272_2 := Aside0.mk hl272_2
                clear hi272_2 hl272_2
                replace p272 := eq_true p272
                replace q272 := eq_true q272
                have ea_ := Option.some.inj (hx270_2.symm.trans hx272_2)
                injection ea_ with ea_ en_ ec_
                subst ea_
                subst ec_
                clear en_
                have p273 : 0 ≤ (x5_1 : Int) := of_decide_eq_true (by first | (with_reducible assumption) | assumption)
                have q273 : x5_1 < (l1.length : Int) := of_decide_eq_true (by first | (with_reducible assumption) | assumption)
                obtain ⟨ad273, A273_2, c273_2, e273, hx273_0, hx273_1, hx273_2, hl273_2, hi273_2⟩ := at_T41 HR1.out x5_1 p273 q273
                obtain rfl : ad271 = ad273 := (by injection e273)
                have HR273_2 := Aside0.mk hi273_2
                have HC273_2 := Aside0.mk hl273_2
                clear hi273_2 hl273_2
                replace p273 := eq_true p273
                replace q273 := eq_true q273
                have ea_ := Option.some.inj (hx271_2.symm.trans hx273_2)
                injection ea_ with ea_ en_ ec_
                subst ea_
                subst ec_
                clear en_
                go_wp2
                repeat (go_quiet (fail); try go_wp2)
                go_meet
                case rel => exact ⟨_, (true), (by first | rfl | (simp; done) | (simp [*]; done)), H', ⟨by have := HK1.out; first | omega | exact Nat.le_refl _⟩, by repeat (first | exact Drawn0.refl _ | apply Drawn0.step)⟩
            · rw [if_neg c8] at H
              have c8b0 : (((rd_T41 l0 x5_1).f0).toList == ((rd_T41 l1 x5_1).f0).toList) = false := beq_eq_false_iff_ne.mpr c8
              have c8b1 : (((rd_T41 l0 x5_1).f0).toList != ((rd_T41 l1 x5_1).f0).toList) = true := bne_iff_ne.mpr c8
              have H' := Aside0.mk H
              clear H
              have p270 : 0 ≤ (x5_1 : Int) := of_decide_eq_true (by first | (with_reducible assumption) | assumption)
              have q270 : x5_1 < (l0.length : Int) := of_decide_eq_true (by first | (with_reducible assumption) | assumption)
              obtain ⟨ad270, A270_2, c270_2, e270, hx270_0, hx270_1, hx270_2, hl270_2, hi270_2⟩ := at_T41 HR0.out x5_1 p270 q270
              cases e270
              have HR270_2 := Aside0.mk hi270_2
              have HC270_2 := Aside0.mk hl270_2
              clear hi270_2 hl270_2
              replace p270 := eq_true p270
              replace q270 := eq_true q270
              have p271 : 0 ≤ (x5_1 : Int) := of_decide_eq_true (by first | (with_reducible assumption) | assumption)
              have q271 : x5_1 < (l1.length : Int) := of_decide_eq_true (by first | (with_reducible assumption) | assumption)
              obtain ⟨ad271, A271_2, c271_2, e271, hx271_0, hx271_1, hx271_2, hl271_2, hi271_2⟩ := at_T41 HR1.out x5_1 p271 q271
              cases e271
              have HR271_2 := Aside0.mk hi271_2
              have HC271_2 := Aside0.mk hl271_2
              clear hi271_2 hl271_2
              replace p271 := eq_true p271
              replace q271 := eq_true q271
              go_wp2
              repeat (go_quiet (fail); try go_wp2)
              go_meet
              case rel => exact ⟨_, (true), (by first | rfl | (simp; done) | (simp [*]; done)), H', ⟨by have := HK1.out; first | omega | exact Nat.le_refl _⟩, by repeat (first | exact Drawn0.refl _ | apply Drawn0.step)⟩
          · rw [if_neg c7] at H
            exact absurd H (by simp)
        · rw [if_neg c6] at H
          exact absurd H (by simp)
       case rest =>
        clear HC5
        try clear c1
        try clear c2
        try clear p2
        try clear q2
        try clear hx2
        try clear c3
        try clear c3b0
        try clear c3b1
        try clear c3b2
        try clear c4
        try clear c4b0
        try clear c6
        try clear c6b0
        try clear c7
        try clear c7b0
        try clear c8
        try clear c8b0
        try clear c8b1
        try clear c9
        try clear c9b0
        try clear c9b1
        try clear hx270_0
        try clear hx270_1
        try clear hx270_2
        try clear hx271_0
        try clear hx271_1
        try clear hx271_2
        try clear hx272_0
        try clear hx272_1
        try clear hx272_2
        try clear hx273_0
        try clear hx273_1
        try clear hx273_2
        try clear hx274_0
        try clear hx274_1
        try clear hx274_2
        try clear hx275_0
        try clear hx275_1
        try clear hx275_2
        try clear p2
        try clear p270
        try clear p271
        try clear p272
        try clear p273
        try clear p274
        try clear p275
        try clear q270
        try clear q271
        try clear q272
        try clear q273
        try clear q274
        try clear q275
        obtain ⟨kq, x56_4, rfl, HA, HJ4, ⟨mc4, rfl⟩⟩ := hcut
        cases kq with
        | zero => exact absurd HA.out (by simp [rf07_Same.j1])
        | succ kj4 =>
         have H := HA.out
         clear HA
         simp only [rf07_Same.j1] at H
         by_cases c10 : x56_4 = true
         · subst c10
           have H1 : (some false) = some r := by rw [if_pos rfl] at H; exact H
           clear H
           have H := H1
           clear H1
           obtain rfl := Option.some.inj H
           go_wp2
           repeat (go_quiet (fail); try go_wp2)
           go_ret
           exact ⟨by first | rfl | (simp; done) | (simp [*]; done), by repeat (first | exact Drawn0.refl _ | apply Drawn0.step)⟩
         · replace c10 := Bool.eq_false_iff.mpr c10
           subst c10
           have H1 : (rf07_Same.l1 kj4 l0 l1 x5_1 0) = some r := by rw [if_neg (show ¬ (false = true) by decide)] at H; exact H
           clear H
           have H := H1
           clear H1
           have H' := Aside0.mk H
           clear H
           go_wp2
           repeat (go_quiet (fail); try go_wp2)
           go_loopg [6] kj4 (fun kq v6 w' => ∃ (x6_3 : Int), v6 = .int .i64 x6_3 ∧ Aside0 (rf07_Same.l1 kq l0 l1 x5_1 x6_3 = some r) ∧ Aside0 (kq ≤ kj4) ∧ Drawn0 w w')
           case atStart => exact ⟨(0), (by first | rfl | (simp; done) | (simp [*]; done)), H', ⟨Nat.le_refl _⟩, by repeat (first | exact Drawn0.refl _ | apply Drawn0.step)⟩
           case round =>
            clear H'
            try clear c1
            try clear c2
            try clear p2
            try clear q2
            try clear hx2
            try clear c3
            try clear c3b0
            try clear c3b1
            try clear c3b2
            try clear c4
            try clear c4b0
            try clear c6
            try clear c6b0
            try clear c7
            try clear c7b0
            try clear c8
            try clear c8b0
            try clear c8b1
            try clear c9
            try clear c9b0
            try clear c9b1
            try clear c10
            try clear hx270_0
            try clear hx270_1
            try clear hx270_2
            try clear hx271_0
            try clear hx271_1
            try clear hx271_2
            try clear hx272_0
            try clear hx272_1
            try clear hx272_2
            try clear hx273_0
            try clear hx273_1
            try clear hx273_2
            try clear hx274_0
            try clear hx274_1
            try clear hx274_2
            try clear hx275_0
            try clear hx275_1
            try clear hx275_2
            try clear p2
            try clear p270
            try clear p271
            try clear p272
            try clear p273
            try clear p274
            try clear p275
            try clear q2
            try clear q270
            try clear q271
            try clear q272
            try clear q273
            try clear q274
            try clear q275
            obtain ⟨x6_3, rfl, HA, HK3, ⟨m3, rfl⟩⟩ := hrel
            cases gk with
            | zero => exact absurd HA.out (by simp [rf07_Same.l1])
            | succ k3 =>
             have H := HA.out
             clear HA
             simp only [rf07_Same.l1] at H
             by_cases c11 : 0 ≤ x5_1
             · rw [if_pos c11] at H
               have c11b0 : decide (0 ≤ x5_1) = true := decide_eq_true c11
               clear c11
               by_cases c12 : x5_1 < (l0.length : Int)
               · rw [if_pos c12] at H
                 have c12b0 : decide (x5_1 < (l0.length : Int)) = true := decide_eq_true c12
                 clear c12
                 by_cases c13 : x6_3 < (((rd_T41 l0 x5_1).f2).length : Int)
                 · rw [if_pos c13] at H
                   have c13b0 : decide (x6_3 < (((rd_T41 l0 x5_1).f2).length : Int)) = true := decide_eq_true c13
                   clear c13
                   by_cases c14 : 0 ≤ x6_3
                   · rw [if_pos c14] at H
                     have c14b0 : decide (0 ≤ x6_3) = true := decide_eq_true c14
                     clear c14
                     by_cases c15 : x5_1 < (l1.length : Int)
                     · rw [if_pos c15] at H
                       have c15b0 : decide (x5_1 < (l1.length : Int)) = true := decide_eq_true c15
                       clear c15
                       by_cases c16 : x6_3 < (((rd_T41 l1 x5_1).f2).length : Int)
                       · rw [if_pos c16] at H
                         have c16b0 : decide (x6_3 < (((rd_T41 l1 x5_1).f2).length : Int)) = true := decide_eq_true c16
                         clear c16
                         by_cases c17 : (!((((rd_T43 ((rd_T41 l0 x5_1).f2) x6_3).f0).toList) == (((rd_T43 ((rd_T41 l1 x5_1).f2) x6_3).f0).toList)) || (!(((rd_T43 ((rd_T41 l0 x5_1).f2) x6_3).f1) == ((rd_T43 ((rd_T41 l1 x5_1).f2) x6_3).f1)) || (!(((rd_T43 ((rd_T41 l0 x5_1).f2) x6_3).f2) == ((rd_T43 ((rd_T41 l1 x5_1).f2) x6_3).f2))))) = true
                         · rw [if_pos c17] at H
                           have c17b0 : (!((((rd_T43 ((rd_T41 l0 x5_1).f2) x6_3).f0).toList) == (((rd_T43 ((rd_T41 l1 x5_1).f2) x6_3).f0).toList)) || (!(((rd_T43 ((rd_T41 l0 x5_1).f2) x6_3).f1) == ((rd_T43 ((rd_T41 l1 x5_1).f2) x6_3).f1)) || (!(((rd_T43 ((rd_T41 l0 x5_1).f2) x6_3).f2) == ((rd_T43 ((rd_T41 l1 x5_1).f2) x6_3).f2))))) = true := c17
                           clear c17
                           obtain rfl := Option.some.inj H
                           have p276 : 0 ≤ (x5_1 : Int) := of_decide_eq_true (by first | (with_reducible assumption) | assumption)
                           have q276 : x5_1 < (l0.length : Int) := of_decide_eq_true (by first | (with_reducible assumption) | assumption)
                           obtain ⟨ad276, A276_2, c276_2, e276, hx276_0, hx276_1, hx276_2, hl276_2, hi276_2⟩ := at_T41 HR0.out x5_1 p276 q276
                           cases e276
                           have HR276_2 := Aside0.mk hi276_2
                           have HC276_2 := Aside0.mk hl276_2
                           clear hi276_2 hl276_2
                           replace p276 := eq_true p276
                           replace q276 := eq_true q276
                           have p277 : 0 ≤ (x5_1 : Int) := of_decide_eq_true (by first | (with_reducible assumption) | assumption)
                           have q277 : x5_1 < (l0.length : Int) := of_decide_eq_true (by first | (with_reducible assumption) | assumption)
                           obtain ⟨ad277, A277_2, c277_2, e277, hx277_0, hx277_1, hx277_2, hl277_2, hi277_2⟩ := at_T41 HR0.out x5_1 p277 q277
                           obtain rfl : ad276 = ad277 := (by injection e277)
                           have HR277_2 := Aside0.mk hi277_2
                           have HC277_2 := Aside0.mk hl277_2
                           clear hi277_2 hl277_2
                           replace p277 := eq_true p277
                           replace q277 := eq_true q277
                           have ea_ := Option.some.inj (hx276_2.symm.trans hx277_2)
                           injection ea_ with ea_ en_ ec_
                           subst ea_
                           subst ec_
                           clear en_
                           have p278 : 0 ≤ (x6_3 : Int) := of_decide_eq_true (by first | (with_reducible assumption) | assumption)
                           have q278 : x6_3 < (((rd_T41 l0 x5_1).f2).length : Int) := of_decide_eq_true (by first | (with_reducible assumption) | assumption)
                           obtain ⟨ad278, e278, hx278_0, hx278_1, hx278_2⟩ := at_T43 HR277_2.out x6_3 p278 q278
                           cases e278
                           replace p278 := eq_true p278
                           replace q278 := eq_true q278
                           have p279 : 0 ≤ (x5_1 : Int) := of_decide_eq_true (by first | (with_reducible assumption) | assumption)
                           have q279 : x5_1 < (l1.length : Int) := of_decide_eq_true (by first | (with_reducible assumption) | assumption)
                           obtain ⟨ad279, A279_2, c279_2, e279, hx279_0, hx279_1, hx279_2, hl279_2, hi279_2⟩ := at_T41 HR1.out x5_1 p279 q279
                           cases e279
                           have HR279_2 := Aside0.mk hi279_2
                           have HC279_2 := Aside0.mk hl279_2
                           clear hi279_2 hl279_2
                           replace p279 := eq_true p279
                           replace q279 := eq_true q279
                           have p280 : 0 ≤ (x6_3 : Int) := of_decide_eq_true (by first | (with_reducible assumption) | assumption)
                           have q280 : x6_3 < (((rd_T41 l1 x5_1).f2).length : Int) := of_decide_eq_true (by first | (with_reducible assumption) | assumption)
                           obtain ⟨ad280, e280, hx280_0, hx280_1, hx280_2⟩ := at_T43 HR279_2.out x6_3 p280 q280
                           cases e280
                           replace p280 := eq_true p280
                           replace q280 := eq_true q280
                           go_wp2
                           repeat (go_quiet (fail); try go_wp2)
                           go_ret
                           exact ⟨by first | rfl | (simp; done) | (simp [*]; done), by repeat (first | exact Drawn0.refl _ | apply Drawn0.step)⟩
                         · rw [if_neg c17] at H
                           have c17b0 : (!((((rd_T43 ((rd_T41 l0 x5_1).f2) x6_3).f0).toList) == (((rd_T43 ((rd_T41 l1 x5_1).f2) x6_3).f0).toList)) || (!(((rd_T43 ((rd_T41 l0 x5_1).f2) x6_3).f1) == ((rd_T43 ((rd_T41 l1 x5_1).f2) x6_3).f1)) || (!(((rd_T43 ((rd_T41 l0 x5_1).f2) x6_3).f2) == ((rd_T43 ((rd_T41 l1 x5_1).f2) x6_3).f2))))) = false := by simpa using c17
                           clear c17
                           have H' := Aside0.mk H
                           clear H
                           have p276 : 0 ≤ (x5_1 : Int) := of_decide_eq_true (by first | (with_reducible assumption) | assumption)
                           have q276 : x5_1 < (l0.length : Int) := of_decide_eq_true (by first | (with_reducible assumption) | assumption)
                           obtain ⟨ad276, A276_2, c276_2, e276, hx276_0, hx276_1, hx276_2, hl276_2, hi276_2⟩ := at_T41 HR0.out x5_1 p276 q276
                           cases e276
                           have HR276_2 := Aside0.mk hi276_2
                           have HC276_2 := Aside0.mk hl276_2
                           clear hi276_2 hl276_2
                           replace p276 := eq_true p276
                           replace q276 := eq_true q276
                           have p277 : 0 ≤ (x5_1 : Int) := of_decide_eq_true (by first | (with_reducible assumption) | assumption)
                           have q277 : x5_1 < (l0.length : Int) := of_decide_eq_true (by first | (with_reducible assumption) | assumption)
                           obtain ⟨ad277, A277_2, c277_2, e277, hx277_0, hx277_1, hx277_2, hl277_2, hi277_2⟩ := at_T41 HR0.out x5_1 p277 q277
                           obtain rfl : ad276 = ad277 := (by injection e277)
                           have HR277_2 := Aside0.mk hi277_2
                           have HC277_2 := Aside0.mk hl277_2
                           clear hi277_2 hl277_2
                           replace p277 := eq_true p277
                           replace q277 := eq_true q277
                           have ea_ := Option.some.inj (hx276_2.symm.trans hx277_2)
                           injection ea_ with ea_ en_ ec_
                           subst ea_
                           subst ec_
                           clear en_
                           have p278 : 0 ≤ (x6_3 : Int) := of_decide_eq_true (by first | (with_reducible assumption) | assumption)
                           have q278 : x6_3 < (((rd_T41 l0 x5_1).f2).length : Int) := of_decide_eq_true (by first | (with_reducible assumption) | assumption)
                           obtain ⟨ad278, e278, hx278_0, hx278_1, hx278_2⟩ := at_T43 HR277_2.out x6_3 p278 q278
                           cases e278
                           replace p278 := eq_true p278
                           replace q278 := eq_true q278
                           have p279 : 0 ≤ (x5_1 : Int) := of_decide_eq_true (by first | (with_reducible assumption) | assumption)
                           have q279 : x5_1 < (l1.length : Int) := of_decide_eq_true (by first | (with_reducible assumption) | assumption)
                           obtain ⟨ad279, A279_2, c279_2, e279, hx279_0, hx279_1, hx279_2, hl279_2, hi279_2⟩ := at_T41 HR1.out x5_1 p279 q279
                           cases e279
                           have HR279_2 := Aside0.mk hi279_2
                           have HC279_2 := Aside0.mk hl279_2
                           clear hi279_2 hl279_2
                           replace p279 := eq_true p279
                           replace q279 := eq_true q279
                           have p280 : 0 ≤ (x6_3 : Int) := of_decide_eq_true (by first | (with_reducible assumption) | assumption)
                           have q280 : x6_3 < (((rd_T41 l1 x5_1).f2).length : Int) := of_decide_eq_true (by first | (with_reducible assumption) | assumption)
                           obtain ⟨ad280, e280, hx280_0, hx280_1, hx280_2⟩ := at_T43 HR279_2.out x6_3 p280 q280
                           cases e280
                           replace p280 := eq_true p280
                           replace q280 := eq_true q280
                           go_wp2
                           repeat (go_quiet (fail); try go_wp2)
                           go_roundg k3
                           case measure => have := HK1.out; have := HJ4.out; have := HK3.out; omega
                           case rel => exact ⟨(wrap64 (x6_3 + 1)), (by first | rfl | (simp; done) | (simp [*]; done)), H', ⟨by have := HK1.out; have := HJ4.out; have := HK3.out; omega⟩, by repeat (first | exact Drawn0.refl _ | apply Drawn0.step)⟩
                       · rw [if_neg c16] at H
                         exact absurd H (by simp)
                     · rw [if_neg c15] at H
                       exact absurd H (by simp)
                   · rw [if_neg c14] at H
                     exact absurd H (by simp)
                 · rw [if_neg c13] at H
                   have c13b0 : decide (x6_3 < (((rd_T41 l0 x5_1).f2).length : Int)) = false := decide_eq_false c13
                   clear c13
                   have H' := Aside0.mk H
                   clear H
                   have p276 : 0 ≤ (x5_1 : Int) := of_decide_eq_true (by first | (with_reducible assumption) | assumption)
                   have q276 : x5_1 < (l0.length : Int) := of_decide_eq_true (by first | (with_reducible assumption) | assumption)
                   obtain ⟨ad276, A276_2, c276_2, e276, hx276_0, hx276_1, hx276_2, hl276_2, hi276_2⟩ := at_T41 HR0.out x5_1 p276 q276
                   cases e276
                   have HR276_2 := Aside0.mk hi276_2
                   have HC276_2 := Aside0.mk hl276_2
                   clear hi276_2 hl276_2
                   replace p276 := eq_true p276
                   replace q276 := eq_true q276
                   go_wp2
                   repeat (go_quiet (fail); try go_wp2)
                   go_roundg k3
                   case measure => have := HK1.out; have := HJ4.out; have := HK3.out; omega
                   case rel => exact ⟨(wrap64 (x5_1 + 1)), (by first | rfl | (simp; done) | (simp [*]; done)), H', ⟨by have := HK1.out; have := HJ4.out; have := HK3.out; omega⟩, by repeat (first | exact Drawn0.refl _ | apply Drawn0.step)⟩
               · rw [if_neg c12] at H
                 exact absurd H (by simp)
             · rw [if_neg c11] at H
               exact absurd H (by simp)
     · rw [if_neg c4] at H
       have c4b0 : decide (x5_1 < (l0.length : Int)) = false := decide_eq_false c4
       clear c4
       obtain rfl := Option.some.inj H
       go_wp2
       repeat (go_quiet (fail); try go_wp2)
       go_ret
       exact ⟨by first | rfl | (simp; done) | (simp [*]; done), by repeat (first | exact Drawn0.refl _ | apply Drawn0.step)⟩
 · rw [if_neg c3] at H
   have c3b0 : ((l0.length : Int) == (l1.length : Int)) = false := beq_eq_false_iff_ne.mpr c3
   have c3b1 : ((l0.length : Int) != (l1.length : Int)) = true := bne_iff_ne.mpr c3
   have c3b2 : (l0.length == l1.length) = false := by first | simpa using c3 | (simp at c3 ⊢; omega)
   obtain rfl := Option.some.inj H
   go_enter Tryd.func19, Tryd.ntmps19
   go_wp2
   repeat (go_quiet (fail); try go_wp2)
   go_ret
   exact ⟨by first | rfl | (simp; done) | (simp [*]; done), by repeat (first | exact Drawn0.refl _ | apply Drawn0.step)⟩
end Go.Proofs.YtkipkbggnfllkaaDoor.P
end
