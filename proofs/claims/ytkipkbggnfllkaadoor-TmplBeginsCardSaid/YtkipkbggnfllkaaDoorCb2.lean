/- What is proved here is used by the law's card: FucsMay, FucsTake, PctOne, Ftmplpiece, Ftmplpieces, Figs, Q43. -/
import Derived.Test.YtkipkbggnfllkaaDoorCb1
import Derived.RegionTactic
import Derived.ChangeAlike
import Derived.BigRegion
import Derived.Lib.Hide
section
namespace Go.Proofs.YtkipkbggnfllkaaDoor.P
open Go.RowKit Go.Proofs.YtkipkbggnfllkaaDoorW.PrintWords Go.Proofs.YtkipkbggnfllkaaDoorW.PrintLast Go.Proofs.YtkipkbggnfllkaaDoorW.PrintMore
attribute [local go_sem] max2_int min2_int max_two min_two max_three min_three max_four min_four
set_option linter.unusedVariables false
set_option linter.unusedSimpArgs false
def ucs_May.f (a0 : Int) : Option (Bool) := (ucs_meets.f a0 a0).bind fun t298 => (some t298)
set_option maxHeartbeats 8000000 in
set_option maxRecDepth 100000 in
theorem ucs_May.calls (a0 : Int) (r : Bool) (w : World) (h : ucs_May.f a0 = some r) :
 Calls Tryd.prog 83 #[.int .i64 a0] w fun e w' => e = .returned (.bool r) ∧ Below w.heap.size w w' := by
 have HB := Aside0.mk (Below.refl w.heap.size w)
 have H : ((ucs_meets.f a0 a0).bind fun t298 => (some t298)) = some r := h
 clear h
 replace H := Option.bind_eq_some_iff.mp H
 obtain ⟨t298, A20, H⟩ := H
 replace H : (some t298) = some r := H
 have A2 := Aside0.mk A20
 clear A20
 obtain rfl := Option.some.inj H
 go_enter Tryd.func83, Tryd.ntmps83
 go_wp2_with (first | ((with_reducible refine gate_callee (f := 74) rfl ?_); refine goesL_ (some 5) rfl rfl Tryd.func74 (by kernel_rfl) rfl #[.int .i64 a0, .int .i64 a0] rfl (by (try simp only [List.map_toArray, List.map_cons, List.map_nil]); first | done | rfl | (simp only [List.length_drop, List.length_take]; rfl)) ?_; (with_reducible refine (ucs_meets.calls a0 a0 t298 _ A2.out).mono ?_); rintro e w3 ⟨rfl, hb⟩; refine ⟨_, rfl, ?_⟩; have n0_ := Aside0.mk (below_step (by repeat (first | (with_reducible first | exact HB.out | apply below_alloc | apply pw_below_drewN | apply below_drew1) | exact HB.out)) hb); clear HB; have HB := n0_; clear n0_; (try clear hb); (try clear hb2); (try clear hk); (try clear hi)))
 go_ret
 exact ⟨by first | rfl | (simp [errW_none, errW_some] <;> rfl) | (simp [*, errW_none, errW_some] <;> rfl), by repeat (first | (with_reducible first | exact HB.out | apply below_alloc | apply pw_below_drewN | apply below_drew1) | exact HB.out)⟩
def ucs_Take.l0 : Nat → ByteArray → List Int → Int → Int → Option (Int × Int)
 | 0, _, _, _, _ => none
 | k + 1, x4, x16, x17, x18 => if x18 < x17 then (if 0 ≤ x18 then (if x18 < (x16.length : Int) then ((ucs_May.f (rd x16 x18)).bind fun t305 => (if t305 = true then (some (rd x16 x18, (x4.size : Int))) else (ucs_Take.l0 k x4 x16 x17 (wrap64 (x18 + 1))))) else (none)) else (none)) else (some (0, 0))
def ucs_Take.f (k : Nat) (a0 : ByteArray) : Option (Int × Int) := (utf_Prefix.f a0 1).bind fun t299 => ((utf_Chars.f t299).bind fun bt300 => (ucs_Take.l0 k t299 bt300.1 (bt300.1.length : Int) 0))
theorem ucs_Take.mono_l : ∀ k, (∀ y0 y1 y2 y3, LeO (ucs_Take.l0 k y0 y1 y2 y3) (ucs_Take.l0 (k + 1) y0 y1 y2 y3))
 | 0 => fun _ _ _ _ r h => by simp [ucs_Take.l0] at h
 | k + 1 => by
  have ih0 := ucs_Take.mono_l k
  · intro y0 y1 y2 y3
    unfold ucs_Take.l0
    repeat' first
    | (with_reducible exact ih0 _ _ _ _)
    | (with_reducible exact LeO.refl _)
    | (with_reducible exact LeO.none _)
    | (with_reducible refine LeO.ite ?_ ?_)
    | (with_reducible refine LeO.bind ?_ (fun _ => ?_))
    | exact ih0 _ _ _ _
    | exact LeO.none _
    | refine LeO.ite ?_ ?_
    | refine LeO.bind ?_ (fun _ => ?_)
theorem ucs_Take.mono : ∀ a0 k, LeO (ucs_Take.f k a0) (ucs_Take.f (k + 1) a0) := by
 intro a0 k
 have ih0 := ucs_Take.mono_l k
 unfold ucs_Take.f
 repeat' first
  | (with_reducible exact ih0 _ _ _ _)
  | (with_reducible exact LeO.refl _)
  | (with_reducible exact LeO.none _)
  | (with_reducible refine LeO.ite ?_ ?_)
  | (with_reducible refine LeO.bind ?_ (fun _ => ?_))
  | exact ih0 _ _ _ _
  | exact LeO.none _
  | refine LeO.ite ?_ ?_
  | refine LeO.bind ?_ (fun _ => ?_)
set_option maxHeartbeats 8000000 in
set_option maxRecDepth 100000 in
theorem ucs_Take.calls (k : Nat) (a0 : ByteArray) (r1 : Int) (r2 : Int) (w : World) (h : ucs_Take.f k a0 = some (r1, r2)) :
 Calls Tryd.prog 66 #[.string a0] w fun e w' => e = .returned (.tuple #[.int .i64 r1, .int .i64 r2]) ∧ Below w.heap.size w w' := by
 have HB := Aside0.mk (Below.refl w.heap.size w)
 have H : ((utf_Prefix.f a0 1).bind fun t299 => ((utf_Chars.f t299).bind fun bt300 => (ucs_Take.l0 k t299 bt300.1 (bt300.1.length : Int) 0))) = some (r1, r2) := h
 clear h
 replace H := Option.bind_eq_some_iff.mp H
 obtain ⟨t299, A20, H⟩ := H
 replace H : ((utf_Chars.f t299).bind fun bt300 => (ucs_Take.l0 k t299 bt300.1 (bt300.1.length : Int) 0)) = some (r1, r2) := H
 have A2 := Aside0.mk A20
 clear A20
 replace H := Option.bind_eq_some_iff.mp H
 obtain ⟨⟨t300, t301⟩, A30, H⟩ := H
 replace H : (ucs_Take.l0 k t299 t300 (t300.length : Int) 0) = some (r1, r2) := H
 have A3 := Aside0.mk A30
 clear A30
 have H' := Aside0.mk H
 clear H
 go_enter Tryd.func66, Tryd.ntmps66
 go_wp2_with (first | ((with_reducible refine gate_callee (f := 81) rfl ?_); refine goesL_ (some 10) rfl rfl Tryd.func81 (by kernel_rfl) rfl #[.string a0, .int .i64 1] rfl (by (try simp only [List.map_toArray, List.map_cons, List.map_nil]); first | done | rfl | (simp only [List.length_drop, List.length_take]; rfl)) ?_; (with_reducible refine (utf_Prefix.calls a0 1 t299 _ A2.out).mono ?_); rintro e w4 ⟨rfl, hb⟩; refine ⟨_, rfl, ?_⟩; have n0_ := Aside0.mk (below_step (by repeat (first | (with_reducible first | exact HB.out | apply below_alloc | apply pw_below_drewN | apply below_drew1) | exact HB.out)) hb); clear HB; have HB := n0_; clear n0_; (try clear hb); (try clear hb2); (try clear hk); (try clear hi)) | ((with_reducible refine gate_callee (f := 82) rfl ?_); refine goesL_ (some 13) rfl rfl Tryd.func82 (by kernel_rfl) rfl #[.string t299] rfl (by (try simp only [List.map_toArray, List.map_cons, List.map_nil]); first | done | rfl | (simp only [List.length_drop, List.length_take]; rfl)) ?_; (with_reducible refine (utf_Chars.calls t299 t300 t301 _ A3.out).mono ?_); rintro e w5 ⟨v302, rfl, ho0, hb⟩; refine ⟨_, rfl, ?_⟩; have n0_ := Aside0.mk (Kd.R_lower ho0 (below_size (by repeat (first | (with_reducible first | exact HB.out | apply below_alloc | apply pw_below_drewN | apply below_drew1) | exact HB.out)))); have n1_ := Aside0.mk (below_step (by repeat (first | (with_reducible first | exact HB.out | apply below_alloc | apply pw_below_drewN | apply below_drew1) | exact HB.out)) hb); clear HB; have HO303 := n0_; have HB := n1_; clear n0_ n1_; (try clear hb); (try clear hb2); (try clear hk); (try clear hi); (try clear ho0); obtain ⟨Ao6, co6, eo6⟩ := Kd.R_slice HO303.out; subst eo6))
 go_loopg [18] k (fun kq v18 w' => ∃ (x18_1 : Int), v18 = .int .i64 x18_1 ∧ Aside0 (ucs_Take.l0 kq t299 t300 (t300.length : Int) x18_1 = some (r1, r2)) ∧ Aside0 (kq ≤ k) ∧ Aside0 (Kd.R (Kd.int .i64) 3 w' w.heap.size (fun _ => True) (.slice Ao6 t300.length co6) t300) ∧ Aside0 (Below w.heap.size w w'))
 case atStart => exact ⟨(0), (by first | rfl | (simp; done) | (simp [*]; done)), H', ⟨Nat.le_refl _⟩, ⟨by (with_reducible repeat (first | apply Kd.R_alloc | apply Kd.R_drewN | apply Kd.R_drew)); exact HO303.out⟩, ⟨by repeat (first | (with_reducible first | exact HB.out | apply below_alloc | apply pw_below_drewN | apply below_drew1) | exact HB.out)⟩⟩
 case round =>
  clear H'
  try clear p2
  try clear c6
  obtain ⟨x18_1, rfl, HA, HK1, HO_16, HB⟩ := hrel
  cases gk with
  | zero => exact absurd HA.out (by simp [ucs_Take.l0])
  | succ k1 =>
   have H := HA.out
   clear HA
   simp only [ucs_Take.l0] at H
   by_cases c7 : x18_1 < (t300.length : Int)
   · rw [if_pos c7] at H
     have c7b0 : decide (x18_1 < (t300.length : Int)) = true := decide_eq_true c7
     clear c7
     by_cases c8 : 0 ≤ x18_1
     · rw [if_pos c8] at H
       have c8b0 : decide (0 ≤ x18_1) = true := decide_eq_true c8
       clear c8
       by_cases c9 : x18_1 < (t300.length : Int)
       · rw [if_pos c9] at H
         have c9b0 : decide (x18_1 < (t300.length : Int)) = true := decide_eq_true c9
         clear c9
         replace H := Option.bind_eq_some_iff.mp H
         obtain ⟨t305, A100, H⟩ := H
         replace H : (if t305 = true then (some (rd t300 x18_1, (t299.size : Int))) else (ucs_Take.l0 k1 t299 t300 (t300.length : Int) (wrap64 (x18_1 + 1)))) = some (r1, r2) := H
         have A10 := Aside0.mk A100
         clear A100
         by_cases c11 : t305 = true
         · subst c11
           have H1 : (some (rd t300 x18_1, (t299.size : Int))) = some (r1, r2) := by rw [if_pos rfl] at H; exact H
           clear H
           have H := H1
           clear H1
           simp only [Option.some.injEq, Prod.mk.injEq] at H
           obtain ⟨rfl, rfl⟩ := H
           have p304 : 0 ≤ (x18_1 : Int) := of_decide_eq_true (by first | (with_reducible assumption) | assumption)
           have q304 : x18_1 < (t300.length : Int) := of_decide_eq_true (by first | (with_reducible assumption) | assumption)
           obtain ⟨ad304, e304, hx304_0⟩ := Kd.at_int (Kd.R_reads' HO_16.out).2.2 x18_1 p304 q304
           cases e304
           replace p304 := eq_true p304
           replace q304 := eq_true q304
           go_wp2_with (first | ((with_reducible refine gate_callee (f := 83) rfl ?_); refine goesL_ (some 23) rfl rfl Tryd.func83 (by kernel_rfl) rfl #[.int .i64 (rd t300 x18_1)] rfl (by (try simp only [List.map_toArray, List.map_cons, List.map_nil]); first | done | rfl | (simp only [List.length_drop, List.length_take]; rfl)) ?_; (with_reducible refine (ucs_May.calls (rd t300 x18_1) true _ A10.out).mono ?_); rintro e w12 ⟨rfl, hb⟩; refine ⟨_, rfl, ?_⟩; have n0_ := Aside0.mk (Kd.R_below (by (with_reducible repeat (first | apply Kd.R_alloc | apply Kd.R_drewN | apply Kd.R_drew)); exact HO_16.out) hb); have n1_ := Aside0.mk (below_step (by repeat (first | (with_reducible first | exact HB.out | apply below_alloc | apply pw_below_drewN | apply below_drew1) | exact HB.out)) hb); clear HO_16; clear HB; have HO_16 := n0_; have HB := n1_; clear n0_ n1_; (try clear hb); (try clear hb2); (try clear hk); (try clear hi)))
           go_ret2
           exact ⟨by first | rfl | (simp [errW_none, errW_some] <;> rfl) | (simp [*, errW_none, errW_some] <;> rfl), by repeat (first | (with_reducible first | exact HB.out | apply below_alloc | apply pw_below_drewN | apply below_drew1) | exact HB.out)⟩
         · replace c11 := Bool.eq_false_iff.mpr c11
           subst c11
           have H1 : (ucs_Take.l0 k1 t299 t300 (t300.length : Int) (wrap64 (x18_1 + 1))) = some (r1, r2) := by rw [if_neg (show ¬ (false = true) by decide)] at H; exact H
           clear H
           have H := H1
           clear H1
           have H' := Aside0.mk H
           clear H
           have p304 : 0 ≤ (x18_1 : Int) := of_decide_eq_true (by first | (with_reducible assumption) | assumption)
           have q304 : x18_1 < (t300.length : Int) := of_decide_eq_true (by first | (with_reducible assumption) | assumption)
           obtain ⟨ad304, e304, hx304_0⟩ := Kd.at_int (Kd.R_reads' HO_16.out).2.2 x18_1 p304 q304
           cases e304
           replace p304 := eq_true p304
           replace q304 := eq_true q304
           go_wp2_with (first | ((with_reducible refine gate_callee (f := 83) rfl ?_); refine goesL_ (some 23) rfl rfl Tryd.func83 (by kernel_rfl) rfl #[.int .i64 (rd t300 x18_1)] rfl (by (try simp only [List.map_toArray, List.map_cons, List.map_nil]); first | done | rfl | (simp only [List.length_drop, List.length_take]; rfl)) ?_; (with_reducible refine (ucs_May.calls (rd t300 x18_1) false _ A10.out).mono ?_); rintro e w13 ⟨rfl, hb⟩; refine ⟨_, rfl, ?_⟩; have n0_ := Aside0.mk (Kd.R_below (by (with_reducible repeat (first | apply Kd.R_alloc | apply Kd.R_drewN | apply Kd.R_drew)); exact HO_16.out) hb); have n1_ := Aside0.mk (below_step (by repeat (first | (with_reducible first | exact HB.out | apply below_alloc | apply pw_below_drewN | apply below_drew1) | exact HB.out)) hb); clear HO_16; clear HB; have HO_16 := n0_; have HB := n1_; clear n0_ n1_; (try clear hb); (try clear hb2); (try clear hk); (try clear hi)))
           go_roundg k1
           case measure => have := HK1.out; omega
           case rel => exact ⟨(wrap64 (x18_1 + 1)), (by first | rfl | (simp; done) | (simp [*]; done)), H', ⟨by have := HK1.out; omega⟩, ⟨by (with_reducible repeat (first | apply Kd.R_alloc | apply Kd.R_drewN | apply Kd.R_drew)); exact HO_16.out⟩, ⟨by repeat (first | (with_reducible first | exact HB.out | apply below_alloc | apply pw_below_drewN | apply below_drew1) | exact HB.out)⟩⟩
       · rw [if_neg c9] at H
         exact absurd H (by simp)
     · rw [if_neg c8] at H
       exact absurd H (by simp)
   · rw [if_neg c7] at H
     have c7b0 : decide (x18_1 < (t300.length : Int)) = false := decide_eq_false c7
     clear c7
     simp only [Option.some.injEq, Prod.mk.injEq] at H
     obtain ⟨rfl, rfl⟩ := H
     go_wp2
     go_ret2
     exact ⟨by first | rfl | (simp [errW_none, errW_some] <;> rfl) | (simp [*, errW_none, errW_some] <;> rfl), by repeat (first | (with_reducible first | exact HB.out | apply below_alloc | apply pw_below_drewN | apply below_drew1) | exact HB.out)⟩
end Go.Proofs.YtkipkbggnfllkaaDoor.P
end
section
namespace Go.Proofs.YtkipkbggnfllkaaDoor.P
open Go.RowKit Go.Proofs.YtkipkbggnfllkaaDoorW.PrintWords Go.Proofs.YtkipkbggnfllkaaDoorW.PrintLast Go.Proofs.YtkipkbggnfllkaaDoorW.PrintMore
def figure (n : Int) : Int := bt ⟨#[48, 49, 50, 51, 52, 53, 54, 55, 56, 57, 65, 66, 67, 68, 69, 70]⟩ n
def pct_One.f (c : Int) : Option ByteArray := if 0 ≤ c ∧ c ≤ 255 then some (strOfNums [37, figure (c / 16), figure (c % 16)]) else none
theorem reads_three (w : World) (a b : Int) : ReadsInt (w.alloc (.cells #[.int .u8 37, .int .u8 a, .int .u8 b] 5)).drew .u8 (some ⟨w.heap.size, 0, none⟩) 3 [37, a, b] := by
 refine ⟨rfl, by omega, fun _ => ⟨_, rfl, fun j hj => ?_⟩⟩
 have hadd : (⟨w.heap.size, 0, none⟩ : Addr).add j = ⟨w.heap.size, j, none⟩ := by unfold Addr.add; split <;> simp_all
 rw [hadd]
 show (w.alloc _).cell? _ = _
 have : j = 0 ∨ j = 1 ∨ j = 2 := by omega
 rcases this with rfl | rfl | rfl <;> simp
set_option maxHeartbeats 800000 in
theorem pct_One.calls (c : Int) (r : ByteArray) (w : World) (h : pct_One.f c = some r) :
 Calls Tryd.prog 69 #[.int .u8 c] w fun e w' => e = .returned (.string r) ∧ Below w.heap.size w w' := by
 unfold pct_One.f at h
 split at h
 · rename_i hc
   obtain ⟨h0, h1⟩ := hc
   injection h with h
   have i1 := bt_at ⟨#[48, 49, 50, 51, 52, 53, 54, 55, 56, 57, 65, 66, 67, 68, 69, 70]⟩ (c / 16)
   have i2 := bt_at ⟨#[48, 49, 50, 51, 52, 53, 54, 55, 56, 57, 65, 66, 67, 68, 69, 70]⟩ (c % 16)
   obtain ⟨a, ha⟩ : ∃ a, a = figure (c / 16) := ⟨_, rfl⟩
   obtain ⟨b, hb⟩ : ∃ b, b = figure (c % 16) := ⟨_, rfl⟩
   rw [← ha, ← hb] at h
   rw [show bt _ _ = a from ha.symm] at i1
   rw [show bt _ _ = b from hb.symm] at i2
   have HR := Lib.hid h
   clear h ha hb
   have h2 : 0 ≤ c / 16 := by omega
   have h3 : c / 16 < 16 := by omega
   have h4 : 0 ≤ c % 16 := by omega
   have h5 : c % 16 < 16 := by omega
   go_enter Tryd.func69, Tryd.ntmps69
   go_wp2_with fail
   have hcv := string_of_reads (P := Tryd.prog) (src := 29) (dst := 9) (c := 3) Tryd.underlying29 Tryd.underlying5 Tryd.underlying9 (reads_three w a b)
   go_region
   go_wp2
   go_ret
   exact ⟨by show Ending.returned (.string (strOfNums [37, a, b])) = _; rw [HR.out], ((Below.refl _ _).alloc (Nat.le_refl _) _).drew⟩
 · cases h
end Go.Proofs.YtkipkbggnfllkaaDoor.P
end
section
namespace Go.Proofs.YtkipkbggnfllkaaDoor.P
open Go.RowKit Go.Proofs.YtkipkbggnfllkaaDoorW.PrintWords Go.Proofs.YtkipkbggnfllkaaDoorW.PrintLast Go.Proofs.YtkipkbggnfllkaaDoorW.PrintMore
attribute [local go_sem] max2_int min2_int max_two min_two max_three min_three max_four min_four
set_option linter.unusedVariables false
set_option linter.unusedSimpArgs false
def tmpl_piece.f (k : Nat) (a0 : ByteArray) : Option (Int) := (ucs_Take.f k a0).bind fun bt312 => (if a0.toList = ([] : List UInt8) then (some 0) else ((chars_Literal.f).bind fun t314 => (if 0 < (a0.size : Int) then ((chars_Set_Has.f t314 (bt a0 0)).bind fun t315 => (if t315 = true then (some 1) else ((pct_Triplet.f k a0).bind fun t316 => (if t316 = true then ((pct_One.f 0).bind fun t317 => (some (t317.size : Int))) else (some bt312.2))))) else (none))))
theorem tmpl_piece.mono : ∀ a0 k, LeO (tmpl_piece.f k a0) (tmpl_piece.f (k + 1) a0) := by
 intro a0 k
 unfold tmpl_piece.f
 repeat' first
  | (with_reducible exact pct_Triplet.mono _ _)
  | (with_reducible exact ucs_Take.mono _ _)
  | (with_reducible exact LeO.refl _)
  | (with_reducible exact LeO.none _)
  | (with_reducible refine LeO.ite ?_ ?_)
  | (with_reducible refine LeO.bind ?_ (fun _ => ?_))
  | exact pct_Triplet.mono _ _
  | exact ucs_Take.mono _ _
  | exact LeO.none _
  | refine LeO.ite ?_ ?_
  | refine LeO.bind ?_ (fun _ => ?_)
set_option maxHeartbeats 8000000 in
set_option maxRecDepth 100000 in
theorem tmpl_piece.calls (k : Nat) (a0 : ByteArray) (r : Int) (w : World) (h : tmpl_piece.f k a0 = some r) :
 Calls Tryd.prog 48 #[.string a0] w fun e w' => e = .returned (.int .i64 r) ∧ Below w.heap.size w w' := by
 have HB := Aside0.mk (Below.refl w.heap.size w)
 have H : ((ucs_Take.f k a0).bind fun bt312 => (if a0.toList = ([] : List UInt8) then (some 0) else ((chars_Literal.f).bind fun t314 => (if 0 < (a0.size : Int) then ((chars_Set_Has.f t314 (bt a0 0)).bind fun t315 => (if t315 = true then (some 1) else ((pct_Triplet.f k a0).bind fun t316 => (if t316 = true then ((pct_One.f 0).bind fun t317 => (some (t317.size : Int))) else (some bt312.2))))) else (none))))) = some r := h
 clear h
 replace H := Option.bind_eq_some_iff.mp H
 obtain ⟨⟨t312, t313⟩, A20, H⟩ := H
 replace H : (if a0.toList = ([] : List UInt8) then (some 0) else ((chars_Literal.f).bind fun t314 => (if 0 < (a0.size : Int) then ((chars_Set_Has.f t314 (bt a0 0)).bind fun t315 => (if t315 = true then (some 1) else ((pct_Triplet.f k a0).bind fun t316 => (if t316 = true then ((pct_One.f 0).bind fun t317 => (some (t317.size : Int))) else (some t313))))) else (none)))) = some r := H
 have A2 := Aside0.mk A20
 clear A20
 by_cases c3 : a0.toList = ([] : List UInt8)
 · rw [if_pos c3] at H
   have c3b0 : (a0.toList == ([] : List UInt8)) = true := beq_iff_eq.mpr c3
   have c3b1 : (a0.toList != ([] : List UInt8)) = false := bne_eq_false_iff_eq.mpr c3
   clear c3
   obtain rfl := Option.some.inj H
   go_enter Tryd.func48, Tryd.ntmps48
   go_wp2_with (first | ((with_reducible refine gate_callee (f := 66) rfl ?_); refine goesL_ (some 7) rfl rfl Tryd.func66 (by kernel_rfl) rfl #[.string a0] rfl (by (try simp only [List.map_toArray, List.map_cons, List.map_nil]); first | done | rfl | (simp only [List.length_drop, List.length_take]; rfl)) ?_; (with_reducible refine (ucs_Take.calls k a0 t312 t313 _ A2.out).mono ?_); rintro e w4 ⟨rfl, hb⟩; refine ⟨_, rfl, ?_⟩; have n0_ := Aside0.mk (below_step (by repeat (first | (with_reducible first | exact HB.out | apply below_alloc | apply pw_below_drewN | apply below_drew1) | exact HB.out)) hb); clear HB; have HB := n0_; clear n0_; (try clear hb); (try clear hb2); (try clear hk); (try clear hi)))
   go_ret
   exact ⟨by first | rfl | (simp [errW_none, errW_some] <;> rfl) | (simp [*, errW_none, errW_some] <;> rfl), by repeat (first | (with_reducible first | exact HB.out | apply below_alloc | apply pw_below_drewN | apply below_drew1) | exact HB.out)⟩
 · rw [if_neg c3] at H
   have c3b0 : (a0.toList == ([] : List UInt8)) = false := beq_eq_false_iff_ne.mpr c3
   have c3b1 : (a0.toList != ([] : List UInt8)) = true := bne_iff_ne.mpr c3
   replace H := Option.bind_eq_some_iff.mp H
   obtain ⟨t314, A50, H⟩ := H
   replace H : (if 0 < (a0.size : Int) then ((chars_Set_Has.f t314 (bt a0 0)).bind fun t315 => (if t315 = true then (some 1) else ((pct_Triplet.f k a0).bind fun t316 => (if t316 = true then ((pct_One.f 0).bind fun t317 => (some (t317.size : Int))) else (some t313))))) else (none)) = some r := H
   have A5 := Aside0.mk A50
   clear A50
   by_cases c6 : 0 < (a0.size : Int)
   · rw [if_pos c6] at H
     have c6b0 : decide (0 < (a0.size : Int)) = true := decide_eq_true c6
     have c6b1 : decide (0 < a0.size) = true := decide_eq_true (by omega)
     clear c6
     replace H := Option.bind_eq_some_iff.mp H
     obtain ⟨t315, A80, H⟩ := H
     replace H : (if t315 = true then (some 1) else ((pct_Triplet.f k a0).bind fun t316 => (if t316 = true then ((pct_One.f 0).bind fun t317 => (some (t317.size : Int))) else (some t313)))) = some r := H
     have A8 := Aside0.mk A80
     clear A80
     by_cases c9 : t315 = true
     · subst c9
       have H1 : (some 1) = some r := by rw [if_pos rfl] at H; exact H
       clear H
       have H := H1
       clear H1
       obtain rfl := Option.some.inj H
       go_enter Tryd.func48, Tryd.ntmps48
       try go_wp2_with (first | ((with_reducible refine gate_callee (f := 66) rfl ?_); refine goesL_ (some 7) rfl rfl Tryd.func66 (by kernel_rfl) rfl #[.string a0] rfl (by (try simp only [List.map_toArray, List.map_cons, List.map_nil]); first | done | rfl | (simp only [List.length_drop, List.length_take]; rfl)) ?_; (with_reducible refine (ucs_Take.calls k a0 t312 t313 _ A2.out).mono ?_); rintro e w10 ⟨rfl, hb⟩; refine ⟨_, rfl, ?_⟩; have n0_ := Aside0.mk (below_step (by repeat (first | (with_reducible first | exact HB.out | apply below_alloc | apply pw_below_drewN | apply below_drew1) | exact HB.out)) hb); clear HB; have HB := n0_; clear n0_; (try clear hb); (try clear hb2); (try clear hk); (try clear hi)))
       have n0_ := Aside0.mk (below_drew1 HB.out)
       clear HB
       have HB := n0_
       clear n0_
       have p7 : 0 ≤ (0 : Int) := (by omega)
       have q7 : 0 < a0.size := (by have : (0 : Int) < (a0.size : Int) := of_decide_eq_true (by first | (with_reducible assumption) | assumption); omega)
       have hx7 : ∀ h : 0 < a0.size, ((a0[0]'h).toNat : Int) = bt a0 0 := bt_at a0 0
       clear p7
       have qi7 : (0 < (a0.size : Int)) = True := eq_true (of_decide_eq_true (by first | (with_reducible assumption) | assumption))
       replace q7 := eq_true q7
       refine start_ (n := 5) (S := fun w' => True) (ds := []) #[false, false, false, false, false] (by kernel_rfl) rfl rfl trivial (fun hHeld => ?_)
       generalize w10.drew = w11 at HB hHeld ⊢
       refine pure_ (i := 1) (N := some 15) (v := ?_) (a' := ?_) #[false, true, false, false, false] rfl rfl (by kernel_rfl) (fun _ _ _ h => h) (Or.inl ⟨by rfl, ?_⟩) ?_ ?_
       rotate_left
       · intro w'
         go_simp
         with_reducible rfl
       rotate_left
       · simp only [Act.put, List.setIfInBounds_toArray, List.set_cons_zero, List.set_cons_succ, i64_w, i32_w]
         rfl
       refine take_ (i := 2) (N := some 16) (v := ?_) (a' := ?_) #[false, true, true, false, false] rfl rfl (by kernel_rfl) (fun _ _ _ h => h) (Or.inl ⟨by rfl, ?_⟩) hHeld ?_ ?_
       rotate_left
       · intro w' _
         go_simp
         with_reducible rfl
       rotate_left
       · simp only [Act.put, List.setIfInBounds_toArray, List.set_cons_zero, List.set_cons_succ, i64_w, i32_w]
         rfl
       refine one_ (i := 0) (N := some 14) #[true, true, true, false, false] rfl rfl (by kernel_rfl) (by decide) (fun K hK => ?_)
       refine goes_ Tryd.func67 (by kernel_rfl) rfl #[] (by rfl) rfl rfl (by (try simp only [List.map_toArray, List.map_cons, List.map_nil]); first | done | rfl | (simp only [List.length_drop, List.length_take]; rfl)) ?_
       with_reducible refine (chars_Literal.calls  t314 _ A5.out).mono ?_
       rintro e w12 ⟨rfl, hb⟩
       refine ⟨_, rfl, ?_⟩
       have n0_ := Aside0.mk (below_step (by repeat (first | (with_reducible first | exact HB.out | apply below_alloc | apply pw_below_drewN | apply below_drew1) | exact HB.out)) hb)
       clear HB
       have HB := n0_
       clear n0_
       (try clear hb)
       (try clear hb2)
       (try clear hk)
       (try clear hi)
       refine hK.out _ _ trivial (fun hHeld => ?_)
       clear hK K
       refine norm_ (a' := ?_) ?_ ?_
       rotate_left
       · show Act.put _ (some 14) _ = _
         simp only [Act.put, List.setIfInBounds_toArray, List.set_cons_zero, List.set_cons_succ, i64_w, i32_w]
         rfl
       refine one_ (i := 3) (N := some 17) #[true, true, true, true, false] rfl rfl (by kernel_rfl) (by decide) (fun K hK => ?_)
       refine goes_ Tryd.func50 (by kernel_rfl) rfl #[setV t314, .int .u8 (bt a0 0)] (by rfl) rfl rfl (by (try simp only [List.map_toArray, List.map_cons, List.map_nil]); first | done | rfl | (simp only [List.length_drop, List.length_take]; rfl)) ?_
       with_reducible refine (chars_Set_Has.calls t314 (bt a0 0) true _ A8.out).mono ?_
       rintro e w13 ⟨rfl, hb⟩
       refine ⟨_, rfl, ?_⟩
       have n0_ := Aside0.mk (below_step (by repeat (first | (with_reducible first | exact HB.out | apply below_alloc | apply pw_below_drewN | apply below_drew1) | exact HB.out)) hb)
       clear HB
       have HB := n0_
       clear n0_
       (try clear hb)
       (try clear hb2)
       (try clear hk)
       (try clear hi)
       refine hK.out _ _ trivial (fun hHeld => ?_)
       clear hK K
       refine norm_ (a' := ?_) ?_ ?_
       rotate_left
       · show Act.put _ (some 17) _ = _
         simp only [Act.put, List.setIfInBounds_toArray, List.set_cons_zero, List.set_cons_succ, i64_w, i32_w]
         rfl
       refine pure_ (i := 4) (N := some 13) (v := ?_) (a' := ?_) #[true, true, true, true, true] rfl rfl (by kernel_rfl) (fun _ _ _ h => h) (Or.inl ⟨by rfl, ?_⟩) ?_ ?_
       rotate_left
       · intro w'
         go_simp
         with_reducible rfl
       rotate_left
       · simp only [Act.put, List.setIfInBounds_toArray, List.set_cons_zero, List.set_cons_succ, i64_w, i32_w]
         rfl
       refine done_ (by kernel_rfl) ?_
       try go_wp2
       go_ret
       exact ⟨by first | rfl | (simp [errW_none, errW_some] <;> rfl) | (simp [*, errW_none, errW_some] <;> rfl), by repeat (first | (with_reducible first | exact HB.out | apply below_alloc | apply pw_below_drewN | apply below_drew1) | exact HB.out)⟩
     · replace c9 := Bool.eq_false_iff.mpr c9
       subst c9
       have H1 : ((pct_Triplet.f k a0).bind fun t316 => (if t316 = true then ((pct_One.f 0).bind fun t317 => (some (t317.size : Int))) else (some t313))) = some r := by rw [if_neg (show ¬ (false = true) by decide)] at H; exact H
       clear H
       have H := H1
       clear H1
       replace H := Option.bind_eq_some_iff.mp H
       obtain ⟨t316, A140, H⟩ := H
       replace H : (if t316 = true then ((pct_One.f 0).bind fun t317 => (some (t317.size : Int))) else (some t313)) = some r := H
       have A14 := Aside0.mk A140
       clear A140
       by_cases c15 : t316 = true
       · subst c15
         have H1 : ((pct_One.f 0).bind fun t317 => (some (t317.size : Int))) = some r := by rw [if_pos rfl] at H; exact H
         clear H
         have H := H1
         clear H1
         replace H := Option.bind_eq_some_iff.mp H
         obtain ⟨t317, A160, H⟩ := H
         replace H : (some (t317.size : Int)) = some r := H
         have A16 := Aside0.mk A160
         clear A160
         obtain rfl := Option.some.inj H
         go_enter Tryd.func48, Tryd.ntmps48
         try go_wp2_with (first | ((with_reducible refine gate_callee (f := 66) rfl ?_); refine goesL_ (some 7) rfl rfl Tryd.func66 (by kernel_rfl) rfl #[.string a0] rfl (by (try simp only [List.map_toArray, List.map_cons, List.map_nil]); first | done | rfl | (simp only [List.length_drop, List.length_take]; rfl)) ?_; (with_reducible refine (ucs_Take.calls k a0 t312 t313 _ A2.out).mono ?_); rintro e w17 ⟨rfl, hb⟩; refine ⟨_, rfl, ?_⟩; have n0_ := Aside0.mk (below_step (by repeat (first | (with_reducible first | exact HB.out | apply below_alloc | apply pw_below_drewN | apply below_drew1) | exact HB.out)) hb); clear HB; have HB := n0_; clear n0_; (try clear hb); (try clear hb2); (try clear hk); (try clear hi)))
         have n0_ := Aside0.mk (below_drew1 HB.out)
         clear HB
         have HB := n0_
         clear n0_
         have p7 : 0 ≤ (0 : Int) := (by omega)
         have q7 : 0 < a0.size := (by have : (0 : Int) < (a0.size : Int) := of_decide_eq_true (by first | (with_reducible assumption) | assumption); omega)
         have hx7 : ∀ h : 0 < a0.size, ((a0[0]'h).toNat : Int) = bt a0 0 := bt_at a0 0
         clear p7
         have qi7 : (0 < (a0.size : Int)) = True := eq_true (of_decide_eq_true (by first | (with_reducible assumption) | assumption))
         replace q7 := eq_true q7
         refine start_ (n := 5) (S := fun w' => True) (ds := []) #[false, false, false, false, false] (by kernel_rfl) rfl rfl trivial (fun hHeld => ?_)
         generalize w17.drew = w18 at HB hHeld ⊢
         refine pure_ (i := 1) (N := some 15) (v := ?_) (a' := ?_) #[false, true, false, false, false] rfl rfl (by kernel_rfl) (fun _ _ _ h => h) (Or.inl ⟨by rfl, ?_⟩) ?_ ?_
         rotate_left
         · intro w'
           go_simp
           with_reducible rfl
         rotate_left
         · simp only [Act.put, List.setIfInBounds_toArray, List.set_cons_zero, List.set_cons_succ, i64_w, i32_w]
           rfl
         refine take_ (i := 2) (N := some 16) (v := ?_) (a' := ?_) #[false, true, true, false, false] rfl rfl (by kernel_rfl) (fun _ _ _ h => h) (Or.inl ⟨by rfl, ?_⟩) hHeld ?_ ?_
         rotate_left
         · intro w' _
           go_simp
           with_reducible rfl
         rotate_left
         · simp only [Act.put, List.setIfInBounds_toArray, List.set_cons_zero, List.set_cons_succ, i64_w, i32_w]
           rfl
         refine one_ (i := 0) (N := some 14) #[true, true, true, false, false] rfl rfl (by kernel_rfl) (by decide) (fun K hK => ?_)
         refine goes_ Tryd.func67 (by kernel_rfl) rfl #[] (by rfl) rfl rfl (by (try simp only [List.map_toArray, List.map_cons, List.map_nil]); first | done | rfl | (simp only [List.length_drop, List.length_take]; rfl)) ?_
         with_reducible refine (chars_Literal.calls  t314 _ A5.out).mono ?_
         rintro e w19 ⟨rfl, hb⟩
         refine ⟨_, rfl, ?_⟩
         have n0_ := Aside0.mk (below_step (by repeat (first | (with_reducible first | exact HB.out | apply below_alloc | apply pw_below_drewN | apply below_drew1) | exact HB.out)) hb)
         clear HB
         have HB := n0_
         clear n0_
         (try clear hb)
         (try clear hb2)
         (try clear hk)
         (try clear hi)
         refine hK.out _ _ trivial (fun hHeld => ?_)
         clear hK K
         refine norm_ (a' := ?_) ?_ ?_
         rotate_left
         · show Act.put _ (some 14) _ = _
           simp only [Act.put, List.setIfInBounds_toArray, List.set_cons_zero, List.set_cons_succ, i64_w, i32_w]
           rfl
         refine one_ (i := 3) (N := some 17) #[true, true, true, true, false] rfl rfl (by kernel_rfl) (by decide) (fun K hK => ?_)
         refine goes_ Tryd.func50 (by kernel_rfl) rfl #[setV t314, .int .u8 (bt a0 0)] (by rfl) rfl rfl (by (try simp only [List.map_toArray, List.map_cons, List.map_nil]); first | done | rfl | (simp only [List.length_drop, List.length_take]; rfl)) ?_
         with_reducible refine (chars_Set_Has.calls t314 (bt a0 0) false _ A8.out).mono ?_
         rintro e w20 ⟨rfl, hb⟩
         refine ⟨_, rfl, ?_⟩
         have n0_ := Aside0.mk (below_step (by repeat (first | (with_reducible first | exact HB.out | apply below_alloc | apply pw_below_drewN | apply below_drew1) | exact HB.out)) hb)
         clear HB
         have HB := n0_
         clear n0_
         (try clear hb)
         (try clear hb2)
         (try clear hk)
         (try clear hi)
         refine hK.out _ _ trivial (fun hHeld => ?_)
         clear hK K
         refine norm_ (a' := ?_) ?_ ?_
         rotate_left
         · show Act.put _ (some 17) _ = _
           simp only [Act.put, List.setIfInBounds_toArray, List.set_cons_zero, List.set_cons_succ, i64_w, i32_w]
           rfl
         refine pure_ (i := 4) (N := some 13) (v := ?_) (a' := ?_) #[true, true, true, true, true] rfl rfl (by kernel_rfl) (fun _ _ _ h => h) (Or.inl ⟨by rfl, ?_⟩) ?_ ?_
         rotate_left
         · intro w'
           go_simp
           with_reducible rfl
         rotate_left
         · simp only [Act.put, List.setIfInBounds_toArray, List.set_cons_zero, List.set_cons_succ, i64_w, i32_w]
           rfl
         refine done_ (by kernel_rfl) ?_
         try go_wp2_with (first | ((with_reducible refine gate_callee (f := 68) rfl ?_); refine goesL_ (some 20) rfl rfl Tryd.func68 (by kernel_rfl) rfl #[.string a0] rfl (by (try simp only [List.map_toArray, List.map_cons, List.map_nil]); first | done | rfl | (simp only [List.length_drop, List.length_take]; rfl)) ?_; (with_reducible refine (pct_Triplet.calls k a0 true _ A14.out).mono ?_); rintro e w' ⟨rfl, ⟨nd, rfl⟩⟩; refine ⟨_, rfl, ?_⟩) | ((with_reducible refine gate_callee (f := 69) rfl ?_); refine goesL_ (some 21) rfl rfl Tryd.func69 (by kernel_rfl) rfl #[.int .u8 0] rfl (by (try simp only [List.map_toArray, List.map_cons, List.map_nil]); first | done | rfl | (simp only [List.length_drop, List.length_take]; rfl)) ?_; (with_reducible refine (pct_One.calls 0 t317 _ A16.out).mono ?_); rintro e w21 ⟨rfl, hb⟩; refine ⟨_, rfl, ?_⟩; have n0_ := Aside0.mk (below_step (by repeat (first | (with_reducible first | exact HB.out | apply below_alloc | apply pw_below_drewN | apply below_drew1) | exact HB.out)) hb); clear HB; have HB := n0_; clear n0_; (try clear hb); (try clear hb2); (try clear hk); (try clear hi)))
         go_ret
         exact ⟨by first | rfl | (simp [errW_none, errW_some] <;> rfl) | (simp [*, errW_none, errW_some] <;> rfl), by repeat (first | (with_reducible first | exact HB.out | apply below_alloc | apply pw_below_drewN | apply below_drew1) | exact HB.out)⟩
       · replace c15 := Bool.eq_false_iff.mpr c15
         subst c15
         have H1 : (some t313) = some r := by rw [if_neg (show ¬ (false = true) by decide)] at H; exact H
         clear H
         have H := H1
         clear H1
         obtain rfl := Option.some.inj H
         go_enter Tryd.func48, Tryd.ntmps48
         try go_wp2_with (first | ((with_reducible refine gate_callee (f := 66) rfl ?_); refine goesL_ (some 7) rfl rfl Tryd.func66 (by kernel_rfl) rfl #[.string a0] rfl (by (try simp only [List.map_toArray, List.map_cons, List.map_nil]); first | done | rfl | (simp only [List.length_drop, List.length_take]; rfl)) ?_; (with_reducible refine (ucs_Take.calls k a0 t312 t313 _ A2.out).mono ?_); rintro e w22 ⟨rfl, hb⟩; refine ⟨_, rfl, ?_⟩; have n0_ := Aside0.mk (below_step (by repeat (first | (with_reducible first | exact HB.out | apply below_alloc | apply pw_below_drewN | apply below_drew1) | exact HB.out)) hb); clear HB; have HB := n0_; clear n0_; (try clear hb); (try clear hb2); (try clear hk); (try clear hi)))
         have n0_ := Aside0.mk (below_drew1 HB.out)
         clear HB
         have HB := n0_
         clear n0_
         have p7 : 0 ≤ (0 : Int) := (by omega)
         have q7 : 0 < a0.size := (by have : (0 : Int) < (a0.size : Int) := of_decide_eq_true (by first | (with_reducible assumption) | assumption); omega)
         have hx7 : ∀ h : 0 < a0.size, ((a0[0]'h).toNat : Int) = bt a0 0 := bt_at a0 0
         clear p7
         have qi7 : (0 < (a0.size : Int)) = True := eq_true (of_decide_eq_true (by first | (with_reducible assumption) | assumption))
         replace q7 := eq_true q7
         refine start_ (n := 5) (S := fun w' => True) (ds := []) #[false, false, false, false, false] (by kernel_rfl) rfl rfl trivial (fun hHeld => ?_)
         generalize w22.drew = w23 at HB hHeld ⊢
         refine pure_ (i := 1) (N := some 15) (v := ?_) (a' := ?_) #[false, true, false, false, false] rfl rfl (by kernel_rfl) (fun _ _ _ h => h) (Or.inl ⟨by rfl, ?_⟩) ?_ ?_
         rotate_left
         · intro w'
           go_simp
           with_reducible rfl
         rotate_left
         · simp only [Act.put, List.setIfInBounds_toArray, List.set_cons_zero, List.set_cons_succ, i64_w, i32_w]
           rfl
         refine take_ (i := 2) (N := some 16) (v := ?_) (a' := ?_) #[false, true, true, false, false] rfl rfl (by kernel_rfl) (fun _ _ _ h => h) (Or.inl ⟨by rfl, ?_⟩) hHeld ?_ ?_
         rotate_left
         · intro w' _
           go_simp
           with_reducible rfl
         rotate_left
         · simp only [Act.put, List.setIfInBounds_toArray, List.set_cons_zero, List.set_cons_succ, i64_w, i32_w]
           rfl
         refine one_ (i := 0) (N := some 14) #[true, true, true, false, false] rfl rfl (by kernel_rfl) (by decide) (fun K hK => ?_)
         refine goes_ Tryd.func67 (by kernel_rfl) rfl #[] (by rfl) rfl rfl (by (try simp only [List.map_toArray, List.map_cons, List.map_nil]); first | done | rfl | (simp only [List.length_drop, List.length_take]; rfl)) ?_
         with_reducible refine (chars_Literal.calls  t314 _ A5.out).mono ?_
         rintro e w24 ⟨rfl, hb⟩
         refine ⟨_, rfl, ?_⟩
         have n0_ := Aside0.mk (below_step (by repeat (first | (with_reducible first | exact HB.out | apply below_alloc | apply pw_below_drewN | apply below_drew1) | exact HB.out)) hb)
         clear HB
         have HB := n0_
         clear n0_
         (try clear hb)
         (try clear hb2)
         (try clear hk)
         (try clear hi)
         refine hK.out _ _ trivial (fun hHeld => ?_)
         clear hK K
         refine norm_ (a' := ?_) ?_ ?_
         rotate_left
         · show Act.put _ (some 14) _ = _
           simp only [Act.put, List.setIfInBounds_toArray, List.set_cons_zero, List.set_cons_succ, i64_w, i32_w]
           rfl
         refine one_ (i := 3) (N := some 17) #[true, true, true, true, false] rfl rfl (by kernel_rfl) (by decide) (fun K hK => ?_)
         refine goes_ Tryd.func50 (by kernel_rfl) rfl #[setV t314, .int .u8 (bt a0 0)] (by rfl) rfl rfl (by (try simp only [List.map_toArray, List.map_cons, List.map_nil]); first | done | rfl | (simp only [List.length_drop, List.length_take]; rfl)) ?_
         with_reducible refine (chars_Set_Has.calls t314 (bt a0 0) false _ A8.out).mono ?_
         rintro e w25 ⟨rfl, hb⟩
         refine ⟨_, rfl, ?_⟩
         have n0_ := Aside0.mk (below_step (by repeat (first | (with_reducible first | exact HB.out | apply below_alloc | apply pw_below_drewN | apply below_drew1) | exact HB.out)) hb)
         clear HB
         have HB := n0_
         clear n0_
         (try clear hb)
         (try clear hb2)
         (try clear hk)
         (try clear hi)
         refine hK.out _ _ trivial (fun hHeld => ?_)
         clear hK K
         refine norm_ (a' := ?_) ?_ ?_
         rotate_left
         · show Act.put _ (some 17) _ = _
           simp only [Act.put, List.setIfInBounds_toArray, List.set_cons_zero, List.set_cons_succ, i64_w, i32_w]
           rfl
         refine pure_ (i := 4) (N := some 13) (v := ?_) (a' := ?_) #[true, true, true, true, true] rfl rfl (by kernel_rfl) (fun _ _ _ h => h) (Or.inl ⟨by rfl, ?_⟩) ?_ ?_
         rotate_left
         · intro w'
           go_simp
           with_reducible rfl
         rotate_left
         · simp only [Act.put, List.setIfInBounds_toArray, List.set_cons_zero, List.set_cons_succ, i64_w, i32_w]
           rfl
         refine done_ (by kernel_rfl) ?_
         try go_wp2_with (first | ((with_reducible refine gate_callee (f := 68) rfl ?_); refine goesL_ (some 20) rfl rfl Tryd.func68 (by kernel_rfl) rfl #[.string a0] rfl (by (try simp only [List.map_toArray, List.map_cons, List.map_nil]); first | done | rfl | (simp only [List.length_drop, List.length_take]; rfl)) ?_; (with_reducible refine (pct_Triplet.calls k a0 false _ A14.out).mono ?_); rintro e w' ⟨rfl, ⟨nd, rfl⟩⟩; refine ⟨_, rfl, ?_⟩))
         go_ret
         exact ⟨by first | rfl | (simp [errW_none, errW_some] <;> rfl) | (simp [*, errW_none, errW_some] <;> rfl), by repeat (first | (with_reducible first | exact HB.out | apply below_alloc | apply pw_below_drewN | apply below_drew1) | exact HB.out)⟩
   · rw [if_neg c6] at H
     exact absurd H (by simp)
def tmpl_pieces.l0 : Nat → ByteArray → Int → Int → Option (Int)
 | 0, _, _, _ => none
 | k + 1, x0, x3, x4 => if x4 > 0 then (if 0 ≤ (wrap64 (x3 + x4)) then (if (wrap64 (x3 + x4)) ≤ (x0.size : Int) then ((tmpl_piece.f k (x0.extract ((wrap64 (x3 + x4)) : Int).toNat x0.size)).bind fun t319 => (tmpl_pieces.l0 k x0 (wrap64 (x3 + x4)) t319)) else (none)) else (none)) else (some x3)
def tmpl_pieces.f (k : Nat) (a0 : ByteArray) : Option (Int) := (tmpl_piece.f k a0).bind fun t318 => (tmpl_pieces.l0 k a0 0 t318)
theorem tmpl_pieces.mono_l : ∀ k, (∀ y0 y1 y2, LeO (tmpl_pieces.l0 k y0 y1 y2) (tmpl_pieces.l0 (k + 1) y0 y1 y2))
 | 0 => fun _ _ _ r h => by simp [tmpl_pieces.l0] at h
 | k + 1 => by
  have ih0 := tmpl_pieces.mono_l k
  · intro y0 y1 y2
    unfold tmpl_pieces.l0
    repeat' first
    | (with_reducible exact ih0 _ _ _)
    | (with_reducible exact tmpl_piece.mono _ _)
    | (with_reducible exact LeO.refl _)
    | (with_reducible exact LeO.none _)
    | (with_reducible refine LeO.ite ?_ ?_)
    | (with_reducible refine LeO.bind ?_ (fun _ => ?_))
    | exact ih0 _ _ _
    | exact tmpl_piece.mono _ _
    | exact LeO.none _
    | refine LeO.ite ?_ ?_
    | refine LeO.bind ?_ (fun _ => ?_)
theorem tmpl_pieces.mono : ∀ a0 k, LeO (tmpl_pieces.f k a0) (tmpl_pieces.f (k + 1) a0) := by
 intro a0 k
 have ih0 := tmpl_pieces.mono_l k
 unfold tmpl_pieces.f
 repeat' first
  | (with_reducible exact ih0 _ _ _)
  | (with_reducible exact tmpl_piece.mono _ _)
  | (with_reducible exact LeO.refl _)
  | (with_reducible exact LeO.none _)
  | (with_reducible refine LeO.ite ?_ ?_)
  | (with_reducible refine LeO.bind ?_ (fun _ => ?_))
  | exact ih0 _ _ _
  | exact tmpl_piece.mono _ _
  | exact LeO.none _
  | refine LeO.ite ?_ ?_
  | refine LeO.bind ?_ (fun _ => ?_)
set_option maxHeartbeats 8000000 in
set_option maxRecDepth 100000 in
theorem tmpl_pieces.calls (k : Nat) (a0 : ByteArray) (r : Int) (w : World) (h : tmpl_pieces.f k a0 = some r) :
 Calls Tryd.prog 34 #[.string a0] w fun e w' => e = .returned (.int .i64 r) ∧ Below w.heap.size w w' := by
 have HB := Aside0.mk (Below.refl w.heap.size w)
 have H : ((tmpl_piece.f k a0).bind fun t318 => (tmpl_pieces.l0 k a0 0 t318)) = some r := h
 clear h
 replace H := Option.bind_eq_some_iff.mp H
 obtain ⟨t318, A20, H⟩ := H
 replace H : (tmpl_pieces.l0 k a0 0 t318) = some r := H
 have A2 := Aside0.mk A20
 clear A20
 have H' := Aside0.mk H
 clear H
 go_enter Tryd.func34, Tryd.ntmps34
 go_wp2_with (first | ((with_reducible refine gate_callee (f := 48) rfl ?_); refine goesL_ (some 6) rfl rfl Tryd.func48 (by kernel_rfl) rfl #[.string a0] rfl (by (try simp only [List.map_toArray, List.map_cons, List.map_nil]); first | done | rfl | (simp only [List.length_drop, List.length_take]; rfl)) ?_; (with_reducible refine (tmpl_piece.calls k a0 t318 _ A2.out).mono ?_); rintro e w3 ⟨rfl, hb⟩; refine ⟨_, rfl, ?_⟩; have n0_ := Aside0.mk (below_step (by repeat (first | (with_reducible first | exact HB.out | apply below_alloc | apply pw_below_drewN | apply below_drew1) | exact HB.out)) hb); clear HB; have HB := n0_; clear n0_; (try clear hb); (try clear hb2); (try clear hk); (try clear hi)))
 go_loopg [3, 4] k (fun kq v3 v4 w' => ∃ (x3_1 : Int) (x4_1 : Int), v3 = .int .i64 x3_1 ∧ v4 = .int .i64 x4_1 ∧ Aside0 (tmpl_pieces.l0 kq a0 x3_1 x4_1 = some r) ∧ Aside0 (kq ≤ k) ∧ Aside0 (Below w.heap.size w w'))
 case atStart => exact ⟨(0), (t318), (by first | rfl | (simp; done) | (simp [*]; done)), (by first | rfl | (simp; done) | (simp [*]; done)), H', ⟨Nat.le_refl _⟩, ⟨by repeat (first | (with_reducible first | exact HB.out | apply below_alloc | apply pw_below_drewN | apply below_drew1) | exact HB.out)⟩⟩
 case round =>
  clear H'
  try clear p2
  try clear c3
  obtain ⟨x3_1, x4_1, rfl, rfl, HA, HK1, HB⟩ := hrel
  cases gk with
  | zero => exact absurd HA.out (by simp [tmpl_pieces.l0])
  | succ k1 =>
   have H := HA.out
   clear HA
   simp only [tmpl_pieces.l0] at H
   by_cases c4 : x4_1 > 0
   · rw [if_pos c4] at H
     have c4b0 : decide (0 < x4_1) = true := decide_eq_true c4
     clear c4
     obtain ⟨ji5, hji5⟩ : ∃ j_ : Int, (wrap64 (x3_1 + x4_1)) = j_ := ⟨_, rfl⟩
     replace H : (if 0 ≤ (ji5) then (if (ji5) ≤ (a0.size : Int) then ((tmpl_piece.f k1 (a0.extract ((ji5) : Int).toNat a0.size)).bind fun t319 => (tmpl_pieces.l0 k1 a0 ji5 t319)) else (none)) else (none)) = some r := by first | (rw [hji5] at H; exact H) | (simp only [hji5] at H ⊢; exact H)
     have hji5w : (IntKind.i64.wrap (x3_1 + x4_1)) = ji5 := (i64_w _).trans hji5
     by_cases c6 : 0 ≤ (ji5)
     · rw [if_pos c6] at H
       have c6b0 := eq_true c6
       have c6b1 : decide (0 ≤ (ji5)) = true := decide_eq_true c6
       clear c6
       by_cases c7 : (ji5) ≤ (a0.size : Int)
       · rw [if_pos c7] at H
         have c7b0 := eq_true c7
         have c7b1 : decide ((ji5) ≤ (a0.size : Int)) = true := decide_eq_true c7
         clear c7
         replace H := Option.bind_eq_some_iff.mp H
         obtain ⟨t319, A80, H⟩ := H
         replace H : (tmpl_pieces.l0 k1 a0 ji5 t319) = some r := H
         have A8 := Aside0.mk A80
         clear A80
         have H' := Aside0.mk H
         clear H
         go_wp2_with (first | ((with_reducible refine gate_callee (f := 48) rfl ?_); refine goesL_ (some 12) rfl rfl Tryd.func48 (by kernel_rfl) rfl #[.string (a0.extract ((ji5) : Int).toNat a0.size)] rfl (by (try simp only [List.map_toArray, List.map_cons, List.map_nil]); first | done | (simp only [hji5]; rfl) | rfl | (simp only [List.length_drop, List.length_take]; rfl)) ?_; (with_reducible refine (tmpl_piece.calls k1 (a0.extract ((ji5) : Int).toNat a0.size) t319 _ A8.out).mono ?_); rintro e w9 ⟨rfl, hb⟩; refine ⟨_, rfl, ?_⟩; have n0_ := Aside0.mk (below_step (by repeat (first | (with_reducible first | exact HB.out | apply below_alloc | apply pw_below_drewN | apply below_drew1) | exact HB.out)) hb); clear HB; have HB := n0_; clear n0_; (try clear hb); (try clear hb2); (try clear hk); (try clear hi)))
         go_roundg k1
         case measure => have := HK1.out; omega
         case rel => exact ⟨(ji5), (t319), (by first | rfl | (simp; done) | (simp only [← hji5] <;> (first | rfl | simp)) | (simp [*]; done)), (by first | rfl | (simp; done) | (simp [*]; done)), H', ⟨by have := HK1.out; omega⟩, ⟨by repeat (first | (with_reducible first | exact HB.out | apply below_alloc | apply pw_below_drewN | apply below_drew1) | exact HB.out)⟩⟩
       · rw [if_neg c7] at H
         exact absurd H (by simp)
     · rw [if_neg c6] at H
       exact absurd H (by simp)
   · rw [if_neg c4] at H
     have c4b0 : decide (0 < x4_1) = false := decide_eq_false c4
     clear c4
     obtain rfl := Option.some.inj H
     go_wp2
     go_ret
     exact ⟨by first | rfl | (simp [errW_none, errW_some] <;> rfl) | (simp [*, errW_none, errW_some] <;> rfl), by repeat (first | (with_reducible first | exact HB.out | apply below_alloc | apply pw_below_drewN | apply below_drew1) | exact HB.out)⟩
end Go.Proofs.YtkipkbggnfllkaaDoor.P
end
section
namespace Go.Proofs.YtkipkbggnfllkaaDoor.P
set_option linter.unusedVariables false
set_option linter.unusedSimpArgs false
theorem digit_iff (b : Nat) : isDigit b = true ↔ 48 ≤ b ∧ b ≤ 57 := by
 simp only [isDigit, Bool.and_eq_true, decide_eq_true_eq]
 omega
theorem c_digits : ∀ (r : List Nat) (k : Nat), NoSep r → (far step (.c k) r = r.length ↔ (∀ b ∈ r, 48 ≤ b ∧ b ≤ 57) ∧ (r = [] ∨ k + r.length ≤ 4) ∧ (k = 0 → r.head? ≠ some 48))
 | [], k, _ => by simp [far]
 | b :: r, k, hs => by
  have hf := fin_other (hs b (by simp)).1 (hs b (by simp)).2
  by_cases h : isDigit b = true ∧ k < 4 ∧ ¬ (k = 0 ∧ b = 48)
  · have s : step (.c k) b = some (.c (k + 1)) := by simp only [step]; rw [if_pos h]
    rw [far_some s, List.length_cons, Nat.add_right_cancel_iff, c_digits r (k + 1) hs.tail]
    have hb := (digit_iff b).1 h.1
    constructor
    · rintro ⟨a, c, -⟩
      refine ⟨fun x hx => ?_, .inr ?_, fun hk => ?_⟩
      · rcases List.mem_cons.1 hx with rfl | hx
        · exact hb
        · exact a x hx
      · rcases c with rfl | c
        · simp
          omega
        · omega
      · intro g
        exact h.2.2 ⟨hk, Option.some.inj g⟩
    · rintro ⟨a, c, -⟩
      refine ⟨fun x hx => a x (List.mem_cons_of_mem _ hx), .inr ?_, fun hk => by omega⟩
      rcases c with c | c
      · cases c
      · omega
  · have s : step (.c k) b = none := by
     simp only [step]
     rw [if_neg h, hf]
     split <;> rfl
    rw [far_none s, List.length_cons]
    constructor
    · intro g
      omega
    · rintro ⟨a, c, e⟩
      refine absurd ⟨(digit_iff b).2 (a b (by simp)), ?_, fun g => ?_⟩ h
      · rcases c with c | c
        · cases c
        · omega
      · exact e g.1 (by rw [g.2]; rfl)
end Go.Proofs.YtkipkbggnfllkaaDoor.P
end
section
namespace Go.Proofs.YtkipkbggnfllkaaDoor.P
open Go.RowKit Go.Proofs.YtkipkbggnfllkaaDoorW.PrintWords Go.Proofs.YtkipkbggnfllkaaDoorW.PrintLast Go.Proofs.YtkipkbggnfllkaaDoorW.PrintMore
attribute [local go_sem] max2_int min2_int max_two min_two max_three min_three max_four min_four
set_option linter.unusedVariables false
set_option linter.unusedSimpArgs false
theorem eqA43 (d : Nat) (w : World) (x0 y0 : ByteArray) (x1 y1 : Int) (x2 y2 : Bool) :
 (Op.equalIn (d + 2) 43 (.agg #[.string x0, .int .i64 x1, .bool x2]) (.agg #[.string y0, .int .i64 y1, .bool y2])).run Tryd.prog w = .ok (x0.toList == y0.toList && (x1 == y1 && (x2 == y2))) w := by
 refine eqA_of Tryd.underlying43 (by kernel_rfl) ?_
 refine eqf_cons (by rfl) (by go_simp; rfl) (by go_simp; rfl) (by go_simp) ?_
 refine eqf_cons (by rfl) (by go_simp; rfl) (by go_simp; rfl) (by go_simp) ?_
 exact eqf_last (by rfl) (by go_simp; rfl) (by go_simp; rfl) (by go_simp)
end Go.Proofs.YtkipkbggnfllkaaDoor.P
end
