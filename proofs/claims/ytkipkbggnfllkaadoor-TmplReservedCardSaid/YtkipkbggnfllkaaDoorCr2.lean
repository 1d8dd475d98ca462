/- What is proved here is used by the law's card: FucsMay, FucsTake, PctOne, Ftmplpiece, Ftmplpieces, Figs, Fphalaroperef02Alpha, Fphalaroperef02Digit, Fphalaroperef02Word, Fphalaroperef02Hex, Fphalaroperef03Triplet, Fphalaroperef05May2, Fphalaropere. -/
import Derived.Test.YtkipkbggnfllkaaDoorCr1
import Derived.RegionTactic
import Derived.ChangeAlike
import Derived.BigRegion
import Derived.Lib.Hide
section
namespace Go.Proofs.YtkipkbggnfllkaaDoor.P
open Go.RowKit Go.Proofs.YtkipkbggnfllkaaDoorW.PrintWords Go.Proofs.YtkipkbggnfllkaaDoorW.PrintLast Go.Proofs.YtkipkbggnfllkaaDoorW.PrintMore
attribute [local go_sem] max2_int min2_int max_two min_two max_three min_three max_four min_four
set_option linter.unusedVariables false
set_option linter.unusedSimpArgs false
def ucs_May.f (a0 : Int) : Option (Bool) := (ucs_meets.f a0 a0).bind fun t298 => (some t298)
set_option maxHeartbeats 8000000 in
set_option maxRecDepth 100000 in
theorem ucs_May.calls (a0 : Int) (r : Bool) (w : World) (h : ucs_May.f a0 = some r) :
 Calls Tryd.prog 83 #[.int .i64 a0] w fun e w' => e = .returned (.bool r) ∧ Below w.heap.size w w' := by
 have HB := Aside0.mk (Below.refl w.heap.size w)
 have H : ((ucs_meets.f a0 a0).bind fun t298 => (some t298)) = some r := h
 clear h
 replace H := Option.bind_eq_some_iff.mp H
 obtain ⟨t298, A20, H⟩ := H
 replace H : (some t298) = some r := H
 have A2 := Aside0.mk A20
 clear A20
 obtain rfl := Option.some.inj H
 go_enter Tryd.func83, Tryd.ntmps83
 go_wp2_with (first | ((with_reducible refine gate_callee (f := 74) rfl ?_); refine goesL_ (some 5) rfl rfl Tryd.func74 (by kernel_rfl) rfl #[.int .i64 a0, .int .i64 a0] rfl (by (try simp only [List.map_toArray, List.map_cons, List.map_nil]); first | done | rfl | (simp only [List.length_drop, List.length_take]; rfl)) ?_; (with_reducible refine (ucs_meets.calls a0 a0 t298 _ A2.out).mono ?_); rintro e w3 ⟨rfl, hb⟩; refine ⟨_, rfl, ?_⟩; have n0_ := Aside0.mk (below_step (by repeat (first | (with_reducible first | exact HB.out | apply below_alloc | apply pw_below_drewN | apply below_drew1) | exact HB.out)) hb); clear HB; have HB := n0_; clear n0_; (try clear hb); (try clear hb2); (try clear hk); (try clear hi)))
 go_ret
 exact ⟨by first | rfl | (simp [errW_none, errW_some] <;> rfl) | (simp [*, errW_none, errW_some] <;> rfl), by repeat (first | (with_reducible first | exact HB.out | apply below_alloc | apply pw_below_drewN | apply below_drew1) | exact HB.out)⟩
def ucs_Take.l0 : Nat → ByteArray → List Int → Int → Int → Option (Int × Int)
 | 0, _, _, _, _ => none
 | k + 1, x4, x16, x17, x18 => if x18 < x17 then (if 0 ≤ x18 then (if x18 < (x16.length : Int) then ((ucs_May.f (rd x16 x18)).bind fun t305 => (if t305 = true then (some (rd x16 x18, (x4.size : Int))) else (ucs_Take.l0 k x4 x16 x17 (wrap64 (x18 + 1))))) else (none)) else (none)) else (some (0, 0))
def ucs_Take.f (k : Nat) (a0 : ByteArray) : Option (Int × Int) := (utf_Prefix.f a0 1).bind fun t299 => ((utf_Chars.f t299).bind fun bt300 => (ucs_Take.l0 k t299 bt300.1 (bt300.1.length : Int) 0))
theorem ucs_Take.mono_l : ∀ k, (∀ y0 y1 y2 y3, LeO (ucs_Take.l0 k y0 y1 y2 y3) (ucs_Take.l0 (k + 1) y0 y1 y2 y3))
 | 0 => fun _ _ _ _ r h => by simp [ucs_Take.l0] at h
 | k + 1 => by
  have ih0 := ucs_Take.mono_l k
  · intro y0 y1 y2 y3
    unfold ucs_Take.l0
    repeat' first
    | (with_reducible exact ih0 _ _ _ _)
    | (with_reducible exact LeO.refl _)
    | (with_reducible exact LeO.none _)
    | (with_reducible refine LeO.ite ?_ ?_)
    | (with_reducible refine LeO.bind ?_ (fun _ => ?_))
    | exact ih0 _ _ _ _
    | exact LeO.none _
    | refine LeO.ite ?_ ?_
    | refine LeO.bind ?_ (fun _ => ?_)
theorem ucs_Take.mono : ∀ a0 k, LeO (ucs_Take.f k a0) (ucs_Take.f (k + 1) a0) := by
 intro a0 k
 have ih0 := ucs_Take.mono_l k
 unfold ucs_Take.f
 repeat' first
  | (with_reducible exact ih0 _ _ _ _)
  | (with_reducible exact LeO.refl _)
  | (with_reducible exact LeO.none _)
  | (with_reducible refine LeO.ite ?_ ?_)
  | (with_reducible refine LeO.bind ?_ (fun _ => ?_))
  | exact ih0 _ _ _ _
  | exact LeO.none _
  | refine LeO.ite ?_ ?_
  | refine LeO.bind ?_ (fun _ => ?_)
set_option maxHeartbeats 8000000 in
set_option maxRecDepth 100000 in
theorem ucs_Take.calls (k : Nat) (a0 : ByteArray) (r1 : Int) (r2 : Int) (w : World) (h : ucs_Take.f k a0 = some (r1, r2)) :
 Calls Tryd.prog 66 #[.string a0] w fun e w' => e = .returned (.tuple #[.int .i64 r1, .int .i64 r2]) ∧ Below w.heap.size w w' := by
 have HB := Aside0.mk (Below.refl w.heap.size w)
 have H : ((utf_Prefix.f a0 1).bind fun t299 => ((utf_Chars.f t299).bind fun bt300 => (ucs_Take.l0 k t299 bt300.1 (bt300.1.length : Int) 0))) = some (r1, r2) := h
 clear h
 replace H := Option.bind_eq_some_iff.mp H
 obtain ⟨t299, A20, H⟩ := H
 replace H : ((utf_Chars.f t299).bind fun bt300 => (ucs_Take.l0 k t299 bt300.1 (bt300.1.length : Int) 0)) = some (r1, r2) := H
 have A2 := Aside0.mk A20
 clear A20
 replace H := Option.bind_eq_some_iff.mp H
 obtain ⟨⟨t300, t301⟩, A30, H⟩ := H
 replace H : (ucs_Take.l0 k t299 t300 (t300.length : Int) 0) = some (r1, r2) := H
 have A3 := Aside0.mk A30
 clear A30
 have H' := Aside0.mk H
 clear H
 go_enter Tryd.func66, Tryd.ntmps66
 go_wp2_with (first | ((with_reducible refine gate_callee (f := 81) rfl ?_); refine goesL_ (some 10) rfl rfl Tryd.func81 (by kernel_rfl) rfl #[.string a0, .int .i64 1] rfl (by (try simp only [List.map_toArray, List.map_cons, List.map_nil]); first | done | rfl | (simp only [List.length_drop, List.length_take]; rfl)) ?_; (with_reducible refine (utf_Prefix.calls a0 1 t299 _ A2.out).mono ?_); rintro e w4 ⟨rfl, hb⟩; refine ⟨_, rfl, ?_⟩; have n0_ := Aside0.mk (below_step (by repeat (first | (with_reducible first | exact HB.out | apply below_alloc | apply pw_below_drewN | apply below_drew1) | exact HB.out)) hb); clear HB; have HB := n0_; clear n0_; (try clear hb); (try clear hb2); (try clear hk); (try clear hi)) | ((with_reducible refine gate_callee (f := 82) rfl ?_); refine goesL_ (some 13) rfl rfl Tryd.func82 (by kernel_rfl) rfl #[.string t299] rfl (by (try simp only [List.map_toArray, List.map_cons, List.map_nil]); first | done | rfl | (simp only [List.length_drop, List.length_take]; rfl)) ?_; (with_reducible refine (utf_Chars.calls t299 t300 t301 _ A3.out).mono ?_); rintro e w5 ⟨v302, rfl, ho0, hb⟩; refine ⟨_, rfl, ?_⟩; have n0_ := Aside0.mk (Kd.R_lower ho0 (below_size (by repeat (first | (with_reducible first | exact HB.out | apply below_alloc | apply pw_below_drewN | apply below_drew1) | exact HB.out)))); have n1_ := Aside0.mk (below_step (by repeat (first | (with_reducible first | exact HB.out | apply below_alloc | apply pw_below_drewN | apply below_drew1) | exact HB.out)) hb); clear HB; have HO303 := n0_; have HB := n1_; clear n0_ n1_; (try clear hb); (try clear hb2); (try clear hk); (try clear hi); (try clear ho0); obtain ⟨Ao6, co6, eo6⟩ := Kd.R_slice HO303.out; subst eo6))
 go_loopg [18] k (fun kq v18 w' => ∃ (x18_1 : Int), v18 = .int .i64 x18_1 ∧ Aside0 (ucs_Take.l0 kq t299 t300 (t300.length : Int) x18_1 = some (r1, r2)) ∧ Aside0 (kq ≤ k) ∧ Aside0 (Kd.R (Kd.int .i64) 3 w' w.heap.size (fun _ => True) (.slice Ao6 t300.length co6) t300) ∧ Aside0 (Below w.heap.size w w'))
 case atStart => exact ⟨(0), (by first | rfl | (simp; done) | (simp [*]; done)), H', ⟨Nat.le_refl _⟩, ⟨by (with_reducible repeat (first | apply Kd.R_alloc | apply Kd.R_drewN | apply Kd.R_drew)); exact HO303.out⟩, ⟨by repeat (first | (with_reducible first | exact HB.out | apply below_alloc | apply pw_below_drewN | apply below_drew1) | exact HB.out)⟩⟩
 case round =>
  clear H'
  try clear p2
  try clear c6
  obtain ⟨x18_1, rfl, HA, HK1, HO_16, HB⟩ := hrel
  cases gk with
  | zero => exact absurd HA.out (by simp [ucs_Take.l0])
  | succ k1 =>
   have H := HA.out
   clear HA
   simp only [ucs_Take.l0] at H
   by_cases c7 : x18_1 < (t300.length : Int)
   · rw [if_pos c7] at H
     have c7b0 : decide (x18_1 < (t300.length : Int)) = true := decide_eq_true c7
     clear c7
     by_cases c8 : 0 ≤ x18_1
     · rw [if_pos c8] at H
       have c8b0 : decide (0 ≤ x18_1) = true := decide_eq_true c8
       clear c8
       by_cases c9 : x18_1 < (t300.length : Int)
       · rw [if_pos c9] at H
         have c9b0 : decide (x18_1 < (t300.length : Int)) = true := decide_eq_true c9
         clear c9
         replace H := Option.bind_eq_some_iff.mp H
         obtain ⟨t305, A100, H⟩ := H
         replace H : (if t305 = true then (some (rd t300 x18_1, (t299.size : Int))) else (ucs_Take.l0 k1 t299 t300 (t300.length : Int) (wrap64 (x18_1 + 1)))) = some (r1, r2) := H
         have A10 := Aside0.mk A100
         clear A100
         by_cases c11 : t305 = true
         · subst c11
           have H1 : (some (rd t300 x18_1, (t299.size : Int))) = some (r1, r2) := by rw [if_pos rfl] at H; exact H
           clear H
           have H := H1
           clear H1
           simp only [Option.some.injEq, Prod.mk.injEq] at H
           obtain ⟨rfl, rfl⟩ := H
           have p304 : 0 ≤ (x18_1 : Int) := of_decide_eq_true (by first | (with_reducible assumption) | assumption)
           have q304 : x18_1 < (t300.length : Int) := of_decide_eq_true (by first | (with_reducible assumption) | assumption)
           obtain ⟨ad304, e304, hx304_0⟩ := Kd.at_int (Kd.R_reads' HO_16.out).2.2 x18_1 p304 q304
           cases e304
           replace p304 := eq_true p304
           replace q304 := eq_true q304
           go_wp2_with (first | ((with_reducible refine gate_callee (f := 83) rfl ?_); refine goesL_ (some 23) rfl rfl Tryd.func83 (by kernel_rfl) rfl #[.int .i64 (rd t300 x18_1)] rfl (by (try simp only [List.map_toArray, List.map_cons, List.map_nil]); first | done | rfl | (simp only [List.length_drop, List.length_take]; rfl)) ?_; (with_reducible refine (ucs_May.calls (rd t300 x18_1) true _ A10.out).mono ?_); rintro e w12 ⟨rfl, hb⟩; refine ⟨_, rfl, ?_⟩; have n0_ := Aside0.mk (Kd.R_below (by (with_reducible repeat (first | apply Kd.R_alloc | apply Kd.R_drewN | apply Kd.R_drew)); exact HO_16.out) hb); have n1_ := Aside0.mk (below_step (by repeat (first | (with_reducible first | exact HB.out | apply below_alloc | apply pw_below_drewN | apply below_drew1) | exact HB.out)) hb); clear HO_16; clear HB; have HO_16 := n0_; have HB := n1_; clear n0_ n1_; (try clear hb); (try clear hb2); (try clear hk); (try clear hi)))
           go_ret2
           exact ⟨by first | rfl | (simp [errW_none, errW_some] <;> rfl) | (simp [*, errW_none, errW_some] <;> rfl), by repeat (first | (with_reducible first | exact HB.out | apply below_alloc | apply pw_below_drewN | apply below_drew1) | exact HB.out)⟩
         · replace c11 := Bool.eq_false_iff.mpr c11
           subst c11
           have H1 : (ucs_Take.l0 k1 t299 t300 (t300.length : Int) (wrap64 (x18_1 + 1))) = some (r1, r2) := by rw [if_neg (show ¬ (false = true) by decide)] at H; exact H
           clear H
           have H := H1
           clear H1
           have H' := Aside0.mk H
           clear H
           have p304 : 0 ≤ (x18_1 : Int) := of_decide_eq_true (by first | (with_reducible assumption) | assumption)
           have q304 : x18_1 < (t300.length : Int) := of_decide_eq_true (by first | (with_reducible assumption) | assumption)
           obtain ⟨ad304, e304, hx304_0⟩ := Kd.at_int (Kd.R_reads' HO_16.out).2.2 x18_1 p304 q304
           cases e304
           replace p304 := eq_true p304
           replace q304 := eq_true q304
           go_wp2_with (first | ((with_reducible refine gate_callee (f := 83) rfl ?_); refine goesL_ (some 23) rfl rfl Tryd.func83 (by kernel_rfl) rfl #[.int .i64 (rd t300 x18_1)] rfl (by (try simp only [List.map_toArray, List.map_cons, List.map_nil]); first | done | rfl | (simp only [List.length_drop, List.length_take]; rfl)) ?_; (with_reducible refine (ucs_May.calls (rd t300 x18_1) false _ A10.out).mono ?_); rintro e w13 ⟨rfl, hb⟩; refine ⟨_, rfl, ?_⟩; have n0_ := Aside0.mk (Kd.R_below (by (with_reducible repeat (first | apply Kd.R_alloc | apply Kd.R_drewN | apply Kd.R_drew)); exact HO_16.out) hb); have n1_ := Aside0.mk (below_step (by repeat (first | (with_reducible first | exact HB.out | apply below_alloc | apply pw_below_drewN | apply below_drew1) | exact HB.out)) hb); clear HO_16; clear HB; have HO_16 := n0_; have HB := n1_; clear n0_ n1_; (try clear hb); (try clear hb2); (try clear hk); (try clear hi)))
           go_roundg k1
           case measure => have := HK1.out; omega
           case rel => exact ⟨(wrap64 (x18_1 + 1)), (by first | rfl | (simp; done) | (simp [*]; done)), H', ⟨by have := HK1.out; omega⟩, ⟨by (with_reducible repeat (first | apply Kd.R_alloc | apply Kd.R_drewN | apply Kd.R_drew)); exact HO_16.out⟩, ⟨by repeat (first | (with_reducible first | exact HB.out | apply below_alloc | apply pw_below_drewN | apply below_drew1) | exact HB.out)⟩⟩
       · rw [if_neg c9] at H
         exact absurd H (by simp)
     · rw [if_neg c8] at H
       exact absurd H (by simp)
   · rw [if_neg c7] at H
     have c7b0 : decide (x18_1 < (t300.length : Int)) = false := decide_eq_false c7
     clear c7
     simp only [Option.some.injEq, Prod.mk.injEq] at H
     obtain ⟨rfl, rfl⟩ := H
     go_wp2
     go_ret2
     exact ⟨by first | rfl | (simp [errW_none, errW_some] <;> rfl) | (simp [*, errW_none, errW_some] <;> rfl), by repeat (first | (with_reducible first | exact HB.out | apply below_alloc | apply pw_below_drewN | apply below_drew1) | exact HB.out)⟩
end Go.Proofs.YtkipkbggnfllkaaDoor.P
end
section
namespace Go.Proofs.YtkipkbggnfllkaaDoor.P
open Go.RowKit Go.Proofs.YtkipkbggnfllkaaDoorW.PrintWords Go.Proofs.YtkipkbggnfllkaaDoorW.PrintLast Go.Proofs.YtkipkbggnfllkaaDoorW.PrintMore
def figure (n : Int) : Int := bt ⟨#[48, 49, 50, 51, 52, 53, 54, 55, 56, 57, 65, 66, 67, 68, 69, 70]⟩ n
def pct_One.f (c : Int) : Option ByteArray := if 0 ≤ c ∧ c ≤ 255 then some (strOfNums [37, figure (c / 16), figure (c % 16)]) else none
theorem reads_three (w : World) (a b : Int) : ReadsInt (w.alloc (.cells #[.int .u8 37, .int .u8 a, .int .u8 b] 5)).drew .u8 (some ⟨w.heap.size, 0, none⟩) 3 [37, a, b] := by
 refine ⟨rfl, by omega, fun _ => ⟨_, rfl, fun j hj => ?_⟩⟩
 have hadd : (⟨w.heap.size, 0, none⟩ : Addr).add j = ⟨w.heap.size, j, none⟩ := by unfold Addr.add; split <;> simp_all
 rw [hadd]
 show (w.alloc _).cell? _ = _
 have : j = 0 ∨ j = 1 ∨ j = 2 := by omega
 rcases this with rfl | rfl | rfl <;> simp
set_option maxHeartbeats 800000 in
theorem pct_One.calls (c : Int) (r : ByteArray) (w : World) (h : pct_One.f c = some r) :
 Calls Tryd.prog 69 #[.int .u8 c] w fun e w' => e = .returned (.string r) ∧ Below w.heap.size w w' := by
 unfold pct_One.f at h
 split at h
 · rename_i hc
   obtain ⟨h0, h1⟩ := hc
   injection h with h
   have i1 := bt_at ⟨#[48, 49, 50, 51, 52, 53, 54, 55, 56, 57, 65, 66, 67, 68, 69, 70]⟩ (c / 16)
   have i2 := bt_at ⟨#[48, 49, 50, 51, 52, 53, 54, 55, 56, 57, 65, 66, 67, 68, 69, 70]⟩ (c % 16)
   obtain ⟨a, ha⟩ : ∃ a, a = figure (c / 16) := ⟨_, rfl⟩
   obtain ⟨b, hb⟩ : ∃ b, b = figure (c % 16) := ⟨_, rfl⟩
   rw [← ha, ← hb] at h
   rw [show bt _ _ = a from ha.symm] at i1
   rw [show bt _ _ = b from hb.symm] at i2
   have HR := Lib.hid h
   clear h ha hb
   have h2 : 0 ≤ c / 16 := by omega
   have h3 : c / 16 < 16 := by omega
   have h4 : 0 ≤ c % 16 := by omega
   have h5 : c % 16 < 16 := by omega
   go_enter Tryd.func69, Tryd.ntmps69
   go_wp2_with fail
   have hcv := string_of_reads (P := Tryd.prog) (src := 29) (dst := 9) (c := 3) Tryd.underlying29 Tryd.underlying5 Tryd.underlying9 (reads_three w a b)
   go_region
   go_wp2
   go_ret
   exact ⟨by show Ending.returned (.string (strOfNums [37, a, b])) = _; rw [HR.out], ((Below.refl _ _).alloc (Nat.le_refl _) _).drew⟩
 · cases h
end Go.Proofs.YtkipkbggnfllkaaDoor.P
end
section
namespace Go.Proofs.YtkipkbggnfllkaaDoor.P
open Go.RowKit Go.Proofs.YtkipkbggnfllkaaDoorW.PrintWords Go.Proofs.YtkipkbggnfllkaaDoorW.PrintLast Go.Proofs.YtkipkbggnfllkaaDoorW.PrintMore
attribute [local go_sem] max2_int min2_int max_two min_two max_three min_three max_four min_four
set_option linter.unusedVariables false
set_option linter.unusedSimpArgs false
def tmpl_piece.f (k : Nat) (a0 : ByteArray) : Option (Int) := (ucs_Take.f k a0).bind fun bt312 => (if a0.toList = ([] : List UInt8) then (some 0) else ((chars_Literal.f).bind fun t314 => (if 0 < (a0.size : Int) then ((chars_Set_Has.f t314 (bt a0 0)).bind fun t315 => (if t315 = true then (some 1) else ((pct_Triplet.f k a0).bind fun t316 => (if t316 = true then ((pct_One.f 0).bind fun t317 => (some (t317.size : Int))) else (some bt312.2))))) else (none))))
theorem tmpl_piece.mono : ∀ a0 k, LeO (tmpl_piece.f k a0) (tmpl_piece.f (k + 1) a0) := by
 intro a0 k
 unfold tmpl_piece.f
 repeat' first
  | (with_reducible exact pct_Triplet.mono _ _)
  | (with_reducible exact ucs_Take.mono _ _)
  | (with_reducible exact LeO.refl _)
  | (with_reducible exact LeO.none _)
  | (with_reducible refine LeO.ite ?_ ?_)
  | (with_reducible refine LeO.bind ?_ (fun _ => ?_))
  | exact pct_Triplet.mono _ _
  | exact ucs_Take.mono _ _
  | exact LeO.none _
  | refine LeO.ite ?_ ?_
  | refine LeO.bind ?_ (fun _ => ?_)
set_option maxHeartbeats 8000000 in
set_option maxRecDepth 100000 in
theorem tmpl_piece.calls (k : Nat) (a0 : ByteArray) (r : Int) (w : World) (h : tmpl_piece.f k a0 = some r) :
 Calls Tryd.prog 48 #[.string a0] w fun e w' => e = .returned (.int .i64 r) ∧ Below w.heap.size w w' := by
 have HB := Aside0.mk (Below.refl w.heap.size w)
 have H : ((ucs_Take.f k a0).bind fun bt312 => (if a0.toList = ([] : List UInt8) then (some 0) else ((chars_Literal.f).bind fun t314 => (if 0 < (a0.size : Int) then ((chars_Set_Has.f t314 (bt a0 0)).bind fun t315 => (if t315 = true then (some 1) else ((pct_Triplet.f k a0).bind fun t316 => (if t316 = true then ((pct_One.f 0).bind fun t317 => (some (t317.size : Int))) else (some bt312.2))))) else (none))))) = some r := h
 clear h
 replace H := Option.bind_eq_some_iff.mp H
 obtain ⟨⟨t312, t313⟩, A20, H⟩ := H
 replace H : (if a0.toList = ([] : List UInt8) then (some 0) else ((chars_Literal.f).bind fun t314 => (if 0 < (a0.size : Int) then ((chars_Set_Has.f t314 (bt a0 0)).bind fun t315 => (if t315 = true then (some 1) else ((pct_Triplet.f k a0).bind fun t316 => (if t316 = true then ((pct_One.f 0).bind fun t317 => (some (t317.size : Int))) else (some t313))))) else (none)))) = some r := H
 have A2 := Aside0.mk A20
 clear A20
 by_cases c3 : a0.toList = ([] : List UInt8)
 · rw [if_pos c3] at H
   have c3b0 : (a0.toList == ([] : List UInt8)) = true := beq_iff_eq.mpr c3
   have c3b1 : (a0.toList != ([] : List UInt8)) = false := bne_eq_false_iff_eq.mpr c3
   clear c3
   obtain rfl := Option.some.inj H
   go_enter Tryd.func48, Tryd.ntmps48
   go_wp2_with (first | ((with_reducible refine gate_callee (f := 66) rfl ?_); refine goesL_ (some 7) rfl rfl Tryd.func66 (by kernel_rfl) rfl #[.string a0] rfl (by (try simp only [List.map_toArray, List.map_cons, List.map_nil]); first | done | rfl | (simp only [List.length_drop, List.length_take]; rfl)) ?_; (with_reducible refine (ucs_Take.calls k a0 t312 t313 _ A2.out).mono ?_); rintro e w4 ⟨rfl, hb⟩; refine ⟨_, rfl, ?_⟩; have n0_ := Aside0.mk (below_step (by repeat (first | (with_reducible first | exact HB.out | apply below_alloc | apply pw_below_drewN | apply below_drew1) | exact HB.out)) hb); clear HB; have HB := n0_; clear n0_; (try clear hb); (try clear hb2); (try clear hk); (try clear hi)))
   go_ret
   exact ⟨by first | rfl | (simp [errW_none, errW_some] <;> rfl) | (simp [*, errW_none, errW_some] <;> rfl), by repeat (first | (with_reducible first | exact HB.out | apply below_alloc | apply pw_below_drewN | apply below_drew1) | exact HB.out)⟩
 · rw [if_neg c3] at H
   have c3b0 : (a0.toList == ([] : List UInt8)) = false := beq_eq_false_iff_ne.mpr c3
   have c3b1 : (a0.toList != ([] : List UInt8)) = true := bne_iff_ne.mpr c3
   replace H := Option.bind_eq_some_iff.mp H
   obtain ⟨t314, A50, H⟩ := H
   replace H : (if 0 < (a0.size : Int) then ((chars_Set_Has.f t314 (bt a0 0)).bind fun t315 => (if t315 = true then (some 1) else ((pct_Triplet.f k a0).bind fun t316 => (if t316 = true then ((pct_One.f 0).bind fun t317 => (some (t317.size : Int))) else (some t313))))) else (none)) = some r := H
   have A5 := Aside0.mk A50
   clear A50
   by_cases c6 : 0 < (a0.size : Int)
   · rw [if_pos c6] at H
     have c6b0 : decide (0 < (a0.size : Int)) = true := decide_eq_true c6
     have c6b1 : decide (0 < a0.size) = true := decide_eq_true (by omega)
     clear c6
     replace H := Option.bind_eq_some_iff.mp H
     obtain ⟨t315, A80, H⟩ := H
     replace H : (if t315 = true then (some 1) else ((pct_Triplet.f k a0).bind fun t316 => (if t316 = true then ((pct_One.f 0).bind fun t317 => (some (t317.size : Int))) else (some t313)))) = some r := H
     have A8 := Aside0.mk A80
     clear A80
     by_cases c9 : t315 = true
     · subst c9
       have H1 : (some 1) = some r := by rw [if_pos rfl] at H; exact H
       clear H
       have H := H1
       clear H1
       obtain rfl := Option.some.inj H
       go_enter Tryd.func48, Tryd.ntmps48
       try go_wp2_with (first | ((with_reducible refine gate_callee (f := 66) rfl ?_); refine goesL_ (some 7) rfl rfl Tryd.func66 (by kernel_rfl) rfl #[.string a0] rfl (by (try simp only [List.map_toArray, List.map_cons, List.map_nil]); first | done | rfl | (simp only [List.length_drop, List.length_take]; rfl)) ?_; (with_reducible refine (ucs_Take.calls k a0 t312 t313 _ A2.out).mono ?_); rintro e w10 ⟨rfl, hb⟩; refine ⟨_, rfl, ?_⟩; have n0_ := Aside0.mk (below_step (by repeat (first | (with_reducible first | exact HB.out | apply below_alloc | apply pw_below_drewN | apply below_drew1) | exact HB.out)) hb); clear HB; have HB := n0_; clear n0_; (try clear hb); (try clear hb2); (try clear hk); (try clear hi)))
       have n0_ := Aside0.mk (below_drew1 HB.out)
       clear HB
       have HB := n0_
       clear n0_
       have p7 : 0 ≤ (0 : Int) := (by omega)
       have q7 : 0 < a0.size := (by have : (0 : Int) < (a0.size : Int) := of_decide_eq_true (by first | (with_reducible assumption) | assumption); omega)
       have hx7 : ∀ h : 0 < a0.size, ((a0[0]'h).toNat : Int) = bt a0 0 := bt_at a0 0
       clear p7
       have qi7 : (0 < (a0.size : Int)) = True := eq_true (of_decide_eq_true (by first | (with_reducible assumption) | assumption))
       replace q7 := eq_true q7
       refine start_ (n := 5) (S := fun w' => True) (ds := []) #[false, false, false, false, false] (by kernel_rfl) rfl rfl trivial (fun hHeld => ?_)
       generalize w10.drew = w11 at HB hHeld ⊢
       refine pure_ (i := 1) (N := some 15) (v := ?_) (a' := ?_) #[false, true, false, false, false] rfl rfl (by kernel_rfl) (fun _ _ _ h => h) (Or.inl ⟨by rfl, ?_⟩) ?_ ?_
       rotate_left
       · intro w'
         go_simp
         with_reducible rfl
       rotate_left
       · simp only [Act.put, List.setIfInBounds_toArray, List.set_cons_zero, List.set_cons_succ, i64_w, i32_w]
         rfl
       refine take_ (i := 2) (N := some 16) (v := ?_) (a' := ?_) #[false, true, true, false, false] rfl rfl (by kernel_rfl) (fun _ _ _ h => h) (Or.inl ⟨by rfl, ?_⟩) hHeld ?_ ?_
       rotate_left
       · intro w' _
         go_simp
         with_reducible rfl
       rotate_left
       · simp only [Act.put, List.setIfInBounds_toArray, List.set_cons_zero, List.set_cons_succ, i64_w, i32_w]
         rfl
       refine one_ (i := 0) (N := some 14) #[true, true, true, false, false] rfl rfl (by kernel_rfl) (by decide) (fun K hK => ?_)
       refine goes_ Tryd.func67 (by kernel_rfl) rfl #[] (by rfl) rfl rfl (by (try simp only [List.map_toArray, List.map_cons, List.map_nil]); first | done | rfl | (simp only [List.length_drop, List.length_take]; rfl)) ?_
       with_reducible refine (chars_Literal.calls  t314 _ A5.out).mono ?_
       rintro e w12 ⟨rfl, hb⟩
       refine ⟨_, rfl, ?_⟩
       have n0_ := Aside0.mk (below_step (by repeat (first | (with_reducible first | exact HB.out | apply below_alloc | apply pw_below_drewN | apply below_drew1) | exact HB.out)) hb)
       clear HB
       have HB := n0_
       clear n0_
       (try clear hb)
       (try clear hb2)
       (try clear hk)
       (try clear hi)
       refine hK.out _ _ trivial (fun hHeld => ?_)
       clear hK K
       refine norm_ (a' := ?_) ?_ ?_
       rotate_left
       · show Act.put _ (some 14) _ = _
         simp only [Act.put, List.setIfInBounds_toArray, List.set_cons_zero, List.set_cons_succ, i64_w, i32_w]
         rfl
       refine one_ (i := 3) (N := some 17) #[true, true, true, true, false] rfl rfl (by kernel_rfl) (by decide) (fun K hK => ?_)
       refine goes_ Tryd.func50 (by kernel_rfl) rfl #[setV t314, .int .u8 (bt a0 0)] (by rfl) rfl rfl (by (try simp only [List.map_toArray, List.map_cons, List.map_nil]); first | done | rfl | (simp only [List.length_drop, List.length_take]; rfl)) ?_
       with_reducible refine (chars_Set_Has.calls t314 (bt a0 0) true _ A8.out).mono ?_
       rintro e w13 ⟨rfl, hb⟩
       refine ⟨_, rfl, ?_⟩
       have n0_ := Aside0.mk (below_step (by repeat (first | (with_reducible first | exact HB.out | apply below_alloc | apply pw_below_drewN | apply below_drew1) | exact HB.out)) hb)
       clear HB
       have HB := n0_
       clear n0_
       (try clear hb)
       (try clear hb2)
       (try clear hk)
       (try clear hi)
       refine hK.out _ _ trivial (fun hHeld => ?_)
       clear hK K
       refine norm_ (a' := ?_) ?_ ?_
       rotate_left
       · show Act.put _ (some 17) _ = _
         simp only [Act.put, List.setIfInBounds_toArray, List.set_cons_zero, List.set_cons_succ, i64_w, i32_w]
         rfl
       refine pure_ (i := 4) (N := some 13) (v := ?_) (a' := ?_) #[true, true, true, true, true] rfl rfl (by kernel_rfl) (fun _ _ _ h => h) (Or.inl ⟨by rfl, ?_⟩) ?_ ?_
       rotate_left
       · intro w'
         go_simp
         with_reducible rfl
       rotate_left
       · simp only [Act.put, List.setIfInBounds_toArray, List.set_cons_zero, List.set_cons_succ, i64_w, i32_w]
         rfl
       refine done_ (by kernel_rfl) ?_
       try go_wp2
       go_ret
       exact ⟨by first | rfl | (simp [errW_none, errW_some] <;> rfl) | (simp [*, errW_none, errW_some] <;> rfl), by repeat (first | (with_reducible first | exact HB.out | apply below_alloc | apply pw_below_drewN | apply below_drew1) | exact HB.out)⟩
     · replace c9 := Bool.eq_false_iff.mpr c9
       subst c9
       have H1 : ((pct_Triplet.f k a0).bind fun t316 => (if t316 = true then ((pct_One.f 0).bind fun t317 => (some (t317.size : Int))) else (some t313))) = some r := by rw [if_neg (show ¬ (false = true) by decide)] at H; exact H
       clear H
       have H := H1
       clear H1
       replace H := Option.bind_eq_some_iff.mp H
       obtain ⟨t316, A140, H⟩ := H
       replace H : (if t316 = true then ((pct_One.f 0).bind fun t317 => (some (t317.size : Int))) else (some t313)) = some r := H
       have A14 := Aside0.mk A140
       clear A140
       by_cases c15 : t316 = true
       · subst c15
         have H1 : ((pct_One.f 0).bind fun t317 => (some (t317.size : Int))) = some r := by rw [if_pos rfl] at H; exact H
         clear H
         have H := H1
         clear H1
         replace H := Option.bind_eq_some_iff.mp H
         obtain ⟨t317, A160, H⟩ := H
         replace H : (some (t317.size : Int)) = some r := H
         have A16 := Aside0.mk A160
         clear A160
         obtain rfl := Option.some.inj H
         go_enter Tryd.func48, Tryd.ntmps48
         try go_wp2_with (first | ((with_reducible refine gate_callee (f := 66) rfl ?_); refine goesL_ (some 7) rfl rfl Tryd.func66 (by kernel_rfl) rfl #[.string a0] rfl (by (try simp only [List.map_toArray, List.map_cons, List.map_nil]); first | done | rfl | (simp only [List.length_drop, List.length_take]; rfl)) ?_; (with_reducible refine (ucs_Take.calls k a0 t312 t313 _ A2.out).mono ?_); rintro e w17 ⟨rfl, hb⟩; refine ⟨_, rfl, ?_⟩; have n0_ := Aside0.mk (below_step (by repeat (first | (with_reducible first | exact HB.out | apply below_alloc | apply pw_below_drewN | apply below_drew1) | exact HB.out)) hb); clear HB; have HB := n0_; clear n0_; (try clear hb); (try clear hb2); (try clear hk); (try clear hi)))
         have n0_ := Aside0.mk (below_drew1 HB.out)
         clear HB
         have HB := n0_
         clear n0_
         have p7 : 0 ≤ (0 : Int) := (by omega)
         have q7 : 0 < a0.size := (by have : (0 : Int) < (a0.size : Int) := of_decide_eq_true (by first | (with_reducible assumption) | assumption); omega)
         have hx7 : ∀ h : 0 < a0.size, ((a0[0]'h).toNat : Int) = bt a0 0 := bt_at a0 0
         clear p7
         have qi7 : (0 < (a0.size : Int)) = True := eq_true (of_decide_eq_true (by first | (with_reducible assumption) | assumption))
         replace q7 := eq_true q7
         refine start_ (n := 5) (S := fun w' => True) (ds := []) #[false, false, false, false, false] (by kernel_rfl) rfl rfl trivial (fun hHeld => ?_)
         generalize w17.drew = w18 at HB hHeld ⊢
         refine pure_ (i := 1) (N := some 15) (v := ?_) (a' := ?_) #[false, true, false, false, false] rfl rfl (by kernel_rfl) (fun _ _ _ h => h) (Or.inl ⟨by rfl, ?_⟩) ?_ ?_
         rotate_left
         · intro w'
           go_simp
           with_reducible rfl
         rotate_left
         · simp only [Act.put, List.setIfInBounds_toArray, List.set_cons_zero, List.set_cons_succ, i64_w, i32_w]
           rfl
         refine take_ (i := 2) (N := some 16) (v := ?_) (a' := ?_) #[false, true, true, false, false] rfl rfl (by kernel_rfl) (fun _ _ _ h => h) (Or.inl ⟨by rfl, ?_⟩) hHeld ?_ ?_
         rotate_left
         · intro w' _
           go_simp
           with_reducible rfl
         rotate_left
         · simp only [Act.put, List.setIfInBounds_toArray, List.set_cons_zero, List.set_cons_succ, i64_w, i32_w]
           rfl
         refine one_ (i := 0) (N := some 14) #[true, true, true, false, false] rfl rfl (by kernel_rfl) (by decide) (fun K hK => ?_)
         refine goes_ Tryd.func67 (by kernel_rfl) rfl #[] (by rfl) rfl rfl (by (try simp only [List.map_toArray, List.map_cons, List.map_nil]); first | done | rfl | (simp only [List.length_drop, List.length_take]; rfl)) ?_
         with_reducible refine (chars_Literal.calls  t314 _ A5.out).mono ?_
         rintro e w19 ⟨rfl, hb⟩
         refine ⟨_, rfl, ?_⟩
         have n0_ := Aside0.mk (below_step (by repeat (first | (with_reducible first | exact HB.out | apply below_alloc | apply pw_below_drewN | apply below_drew1) | exact HB.out)) hb)
         clear HB
         have HB := n0_
         clear n0_
         (try clear hb)
         (try clear hb2)
         (try clear hk)
         (try clear hi)
         refine hK.out _ _ trivial (fun hHeld => ?_)
         clear hK K
         refine norm_ (a' := ?_) ?_ ?_
         rotate_left
         · show Act.put _ (some 14) _ = _
           simp only [Act.put, List.setIfInBounds_toArray, List.set_cons_zero, List.set_cons_succ, i64_w, i32_w]
           rfl
         refine one_ (i := 3) (N := some 17) #[true, true, true, true, false] rfl rfl (by kernel_rfl) (by decide) (fun K hK => ?_)
         refine goes_ Tryd.func50 (by kernel_rfl) rfl #[setV t314, .int .u8 (bt a0 0)] (by rfl) rfl rfl (by (try simp only [List.map_toArray, List.map_cons, List.map_nil]); first | done | rfl | (simp only [List.length_drop, List.length_take]; rfl)) ?_
         with_reducible refine (chars_Set_Has.calls t314 (bt a0 0) false _ A8.out).mono ?_
         rintro e w20 ⟨rfl, hb⟩
         refine ⟨_, rfl, ?_⟩
         have n0_ := Aside0.mk (below_step (by repeat (first | (with_reducible first | exact HB.out | apply below_alloc | apply pw_below_drewN | apply below_drew1) | exact HB.out)) hb)
         clear HB
         have HB := n0_
         clear n0_
         (try clear hb)
         (try clear hb2)
         (try clear hk)
         (try clear hi)
         refine hK.out _ _ trivial (fun hHeld => ?_)
         clear hK K
         refine norm_ (a' := ?_) ?_ ?_
         rotate_left
         · show Act.put _ (some 17) _ = _
           simp only [Act.put, List.setIfInBounds_toArray, List.set_cons_zero, List.set_cons_succ, i64_w, i32_w]
           rfl
         refine pure_ (i := 4) (N := some 13) (v := ?_) (a' := ?_) #[true, true, true, true, true] rfl rfl (by kernel_rfl) (fun _ _ _ h => h) (Or.inl ⟨by rfl, ?_⟩) ?_ ?_
         rotate_left
         · intro w'
           go_simp
           with_reducible rfl
         rotate_left
         · simp only [Act.put, List.setIfInBounds_toArray, List.set_cons_zero, List.set_cons_succ, i64_w, i32_w]
           rfl
         refine done_ (by kernel_rfl) ?_
         try go_wp2_with (first | ((with_reducible refine gate_callee (f := 68) rfl ?_); refine goesL_ (some 20) rfl rfl Tryd.func68 (by kernel_rfl) rfl #[.string a0] rfl (by (try simp only [List.map_toArray, List.map_cons, List.map_nil]); first | done | rfl | (simp only [List.length_drop, List.length_take]; rfl)) ?_; (with_reducible refine (pct_Triplet.calls k a0 true _ A14.out).mono ?_); rintro e w' ⟨rfl, ⟨nd, rfl⟩⟩; refine ⟨_, rfl, ?_⟩) | ((with_reducible refine gate_callee (f := 69) rfl ?_); refine goesL_ (some 21) rfl rfl Tryd.func69 (by kernel_rfl) rfl #[.int .u8 0] rfl (by (try simp only [List.map_toArray, List.map_cons, List.map_nil]); first | done | rfl | (simp only [List.length_drop, List.length_take]; rfl)) ?_; (with_reducible refine (pct_One.calls 0 t317 _ A16.out).mono ?_); rintro e w21 ⟨rfl, hb⟩; refine ⟨_, rfl, ?_⟩; have n0_ := Aside0.mk (below_step (by repeat (first | (with_reducible first | exact HB.out | apply below_alloc | apply pw_below_drewN | apply below_drew1) | exact HB.out)) hb); clear HB; have HB := n0_; clear n0_; (try clear hb); (try clear hb2); (try clear hk); (try clear hi)))
         go_ret
         exact ⟨by first | rfl | (simp [errW_none, errW_some] <;> rfl) | (simp [*, errW_none, errW_some] <;> rfl), by repeat (first | (with_reducible first | exact HB.out | apply below_alloc | apply pw_below_drewN | apply below_drew1) | exact HB.out)⟩
       · replace c15 := Bool.eq_false_iff.mpr c15
         subst c15
         have H1 : (some t313) = some r := by rw [if_neg (show ¬ (false = true) by decide)] at H; exact H
         clear H
         have H := H1
         clear H1
         obtain rfl := Option.some.inj H
         go_enter Tryd.func48, Tryd.ntmps48
         try go_wp2_with (first | ((with_reducible refine gate_callee (f := 66) rfl ?_); refine goesL_ (some 7) rfl rfl Tryd.func66 (by kernel_rfl) rfl #[.string a0] rfl (by (try simp only [List.map_toArray, List.map_cons, List.map_nil]); first | done | rfl | (simp only [List.length_drop, List.length_take]; rfl)) ?_; (with_reducible refine (ucs_Take.calls k a0 t312 t313 _ A2.out).mono ?_); rintro e w22 ⟨rfl, hb⟩; refine ⟨_, rfl, ?_⟩; have n0_ := Aside0.mk (below_step (by repeat (first | (with_reducible first | exact HB.out | apply below_alloc | apply pw_below_drewN | apply below_drew1) | exact HB.out)) hb); clear HB; have HB := n0_; clear n0_; (try clear hb); (try clear hb2); (try clear hk); (try clear hi)))
         have n0_ := Aside0.mk (below_drew1 HB.out)
         clear HB
         have HB := n0_
         clear n0_
         have p7 : 0 ≤ (0 : Int) := (by omega)
         have q7 : 0 < a0.size := (by have : (0 : Int) < (a0.size : Int) := of_decide_eq_true (by first | (with_reducible assumption) | assumption); omega)
         have hx7 : ∀ h : 0 < a0.size, ((a0[0]'h).toNat : Int) = bt a0 0 := bt_at a0 0
         clear p7
         have qi7 : (0 < (a0.size : Int)) = True := eq_true (of_decide_eq_true (by first | (with_reducible assumption) | assumption))
         replace q7 := eq_true q7
         refine start_ (n := 5) (S := fun w' => True) (ds := []) #[false, false, false, false, false] (by kernel_rfl) rfl rfl trivial (fun hHeld => ?_)
         generalize w22.drew = w23 at HB hHeld ⊢
         refine pure_ (i := 1) (N := some 15) (v := ?_) (a' := ?_) #[false, true, false, false, false] rfl rfl (by kernel_rfl) (fun _ _ _ h => h) (Or.inl ⟨by rfl, ?_⟩) ?_ ?_
         rotate_left
         · intro w'
           go_simp
           with_reducible rfl
         rotate_left
         · simp only [Act.put, List.setIfInBounds_toArray, List.set_cons_zero, List.set_cons_succ, i64_w, i32_w]
           rfl
         refine take_ (i := 2) (N := some 16) (v := ?_) (a' := ?_) #[false, true, true, false, false] rfl rfl (by kernel_rfl) (fun _ _ _ h => h) (Or.inl ⟨by rfl, ?_⟩) hHeld ?_ ?_
         rotate_left
         · intro w' _
           go_simp
           with_reducible rfl
         rotate_left
         · simp only [Act.put, List.setIfInBounds_toArray, List.set_cons_zero, List.set_cons_succ, i64_w, i32_w]
           rfl
         refine one_ (i := 0) (N := some 14) #[true, true, true, false, false] rfl rfl (by kernel_rfl) (by decide) (fun K hK => ?_)
         refine goes_ Tryd.func67 (by kernel_rfl) rfl #[] (by rfl) rfl rfl (by (try simp only [List.map_toArray, List.map_cons, List.map_nil]); first | done | rfl | (simp only [List.length_drop, List.length_take]; rfl)) ?_
         with_reducible refine (chars_Literal.calls  t314 _ A5.out).mono ?_
         rintro e w24 ⟨rfl, hb⟩
         refine ⟨_, rfl, ?_⟩
         have n0_ := Aside0.mk (below_step (by repeat (first | (with_reducible first | exact HB.out | apply below_alloc | apply pw_below_drewN | apply below_drew1) | exact HB.out)) hb)
         clear HB
         have HB := n0_
         clear n0_
         (try clear hb)
         (try clear hb2)
         (try clear hk)
         (try clear hi)
         refine hK.out _ _ trivial (fun hHeld => ?_)
         clear hK K
         refine norm_ (a' := ?_) ?_ ?_
         rotate_left
         · show Act.put _ (some 14) _ = _
           simp only [Act.put, List.setIfInBounds_toArray, List.set_cons_zero, List.set_cons_succ, i64_w, i32_w]
           rfl
         refine one_ (i := 3) (N := some 17) #[true, true, true, true, false] rfl rfl (by kernel_rfl) (by decide) (fun K hK => ?_)
         refine goes_ Tryd.func50 (by kernel_rfl) rfl #[setV t314, .int .u8 (bt a0 0)] (by rfl) rfl rfl (by (try simp only [List.map_toArray, List.map_cons, List.map_nil]); first | done | rfl | (simp only [List.length_drop, List.length_take]; rfl)) ?_
         with_reducible refine (chars_Set_Has.calls t314 (bt a0 0) false _ A8.out).mono ?_
         rintro e w25 ⟨rfl, hb⟩
         refine ⟨_, rfl, ?_⟩
         have n0_ := Aside0.mk (below_step (by repeat (first | (with_reducible first | exact HB.out | apply below_alloc | apply pw_below_drewN | apply below_drew1) | exact HB.out)) hb)
         clear HB
         have HB := n0_
         clear n0_
         (try clear hb)
         (try clear hb2)
         (try clear hk)
         (try clear hi)
         refine hK.out _ _ trivial (fun hHeld => ?_)
         clear hK K
         refine norm_ (a' := ?_) ?_ ?_
         rotate_left
         · show Act.put _ (some 17) _ = _
           simp only [Act.put, List.setIfInBounds_toArray, List.set_cons_zero, List.set_cons_succ, i64_w, i32_w]
           rfl
         refine pure_ (i := 4) (N := some 13) (v := ?_) (a' := ?_) #[true, true, true, true, true] rfl rfl (by kernel_rfl) (fun _ _ _ h => h) (Or.inl ⟨by rfl, ?_⟩) ?_ ?_
         rotate_left
         · intro w'
           go_simp
           with_reducible rfl
         rotate_left
         · simp only [Act.put, List.setIfInBounds_toArray, List.set_cons_zero, List.set_cons_succ, i64_w, i32_w]
           rfl
         refine done_ (by kernel_rfl) ?_
         try go_wp2_with (first | ((with_reducible refine gate_callee (f := 68) rfl ?_); refine goesL_ (some 20) rfl rfl Tryd.func68 (by kernel_rfl) rfl #[.string a0] rfl (by (try simp only [List.map_toArray, List.map_cons, List.map_nil]); first | done | rfl | (simp only [List.length_drop, List.length_take]; rfl)) ?_; (with_reducible refine (pct_Triplet.calls k a0 false _ A14.out).mono ?_); rintro e w' ⟨rfl, ⟨nd, rfl⟩⟩; refine ⟨_, rfl, ?_⟩))
         go_ret
         exact ⟨by first | rfl | (simp [errW_none, errW_some] <;> rfl) | (simp [*, errW_none, errW_some] <;> rfl), by repeat (first | (with_reducible first | exact HB.out | apply below_alloc | apply pw_below_drewN | apply below_drew1) | exact HB.out)⟩
   · rw [if_neg c6] at H
     exact absurd H (by simp)
def tmpl_pieces.l0 : Nat → ByteArray → Int → Int → Option (Int)
 | 0, _, _, _ => none
 | k + 1, x0, x3, x4 => if x4 > 0 then (if 0 ≤ (wrap64 (x3 + x4)) then (if (wrap64 (x3 + x4)) ≤ (x0.size : Int) then ((tmpl_piece.f k (x0.extract ((wrap64 (x3 + x4)) : Int).toNat x0.size)).bind fun t319 => (tmpl_pieces.l0 k x0 (wrap64 (x3 + x4)) t319)) else (none)) else (none)) else (some x3)
def tmpl_pieces.f (k : Nat) (a0 : ByteArray) : Option (Int) := (tmpl_piece.f k a0).bind fun t318 => (tmpl_pieces.l0 k a0 0 t318)
theorem tmpl_pieces.mono_l : ∀ k, (∀ y0 y1 y2, LeO (tmpl_pieces.l0 k y0 y1 y2) (tmpl_pieces.l0 (k + 1) y0 y1 y2))
 | 0 => fun _ _ _ r h => by simp [tmpl_pieces.l0] at h
 | k + 1 => by
  have ih0 := tmpl_pieces.mono_l k
  · intro y0 y1 y2
    unfold tmpl_pieces.l0
    repeat' first
    | (with_reducible exact ih0 _ _ _)
    | (with_reducible exact tmpl_piece.mono _ _)
    | (with_reducible exact LeO.refl _)
    | (with_reducible exact LeO.none _)
    | (with_reducible refine LeO.ite ?_ ?_)
    | (with_reducible refine LeO.bind ?_ (fun _ => ?_))
    | exact ih0 _ _ _
    | exact tmpl_piece.mono _ _
    | exact LeO.none _
    | refine LeO.ite ?_ ?_
    | refine LeO.bind ?_ (fun _ => ?_)
theorem tmpl_pieces.mono : ∀ a0 k, LeO (tmpl_pieces.f k a0) (tmpl_pieces.f (k + 1) a0) := by
 intro a0 k
 have ih0 := tmpl_pieces.mono_l k
 unfold tmpl_pieces.f
 repeat' first
  | (with_reducible exact ih0 _ _ _)
  | (with_reducible exact tmpl_piece.mono _ _)
  | (with_reducible exact LeO.refl _)
  | (with_reducible exact LeO.none _)
  | (with_reducible refine LeO.ite ?_ ?_)
  | (with_reducible refine LeO.bind ?_ (fun _ => ?_))
  | exact ih0 _ _ _
  | exact tmpl_piece.mono _ _
  | exact LeO.none _
  | refine LeO.ite ?_ ?_
  | refine LeO.bind ?_ (fun _ => ?_)
set_option maxHeartbeats 8000000 in
set_option maxRecDepth 100000 in
theorem tmpl_pieces.calls (k : Nat) (a0 : ByteArray) (r : Int) (w : World) (h : tmpl_pieces.f k a0 = some r) :
 Calls Tryd.prog 34 #[.string a0] w fun e w' => e = .returned (.int .i64 r) ∧ Below w.heap.size w w' := by
 have HB := Aside0.mk (Below.refl w.heap.size w)
 have H : ((tmpl_piece.f k a0).bind fun t318 => (tmpl_pieces.l0 k a0 0 t318)) = some r := h
 clear h
 replace H := Option.bind_eq_some_iff.mp H
 obtain ⟨t318, A20, H⟩ := H
 replace H : (tmpl_pieces.l0 k a0 0 t318) = some r := H
 have A2 := Aside0.mk A20
 clear A20
 have H' := Aside0.mk H
 clear H
 go_enter Tryd.func34, Tryd.ntmps34
 go_wp2_with (first | ((with_reducible refine gate_callee (f := 48) rfl ?_); refine goesL_ (some 6) rfl rfl Tryd.func48 (by kernel_rfl) rfl #[.string a0] rfl (by (try simp only [List.map_toArray, List.map_cons, List.map_nil]); first | done | rfl | (simp only [List.length_drop, List.length_take]; rfl)) ?_; (with_reducible refine (tmpl_piece.calls k a0 t318 _ A2.out).mono ?_); rintro e w3 ⟨rfl, hb⟩; refine ⟨_, rfl, ?_⟩; have n0_ := Aside0.mk (below_step (by repeat (first | (with_reducible first | exact HB.out | apply below_alloc | apply pw_below_drewN | apply below_drew1) | exact HB.out)) hb); clear HB; have HB := n0_; clear n0_; (try clear hb); (try clear hb2); (try clear hk); (try clear hi)))
 go_loopg [3, 4] k (fun kq v3 v4 w' => ∃ (x3_1 : Int) (x4_1 : Int), v3 = .int .i64 x3_1 ∧ v4 = .int .i64 x4_1 ∧ Aside0 (tmpl_pieces.l0 kq a0 x3_1 x4_1 = some r) ∧ Aside0 (kq ≤ k) ∧ Aside0 (Below w.heap.size w w'))
 case atStart => exact ⟨(0), (t318), (by first | rfl | (simp; done) | (simp [*]; done)), (by first | rfl | (simp; done) | (simp [*]; done)), H', ⟨Nat.le_refl _⟩, ⟨by repeat (first | (with_reducible first | exact HB.out | apply below_alloc | apply pw_below_drewN | apply below_drew1) | exact HB.out)⟩⟩
 case round =>
  clear H'
  try clear p2
  try clear c3
  obtain ⟨x3_1, x4_1, rfl, rfl, HA, HK1, HB⟩ := hrel
  cases gk with
  | zero => exact absurd HA.out (by simp [tmpl_pieces.l0])
  | succ k1 =>
   have H := HA.out
   clear HA
   simp only [tmpl_pieces.l0] at H
   by_cases c4 : x4_1 > 0
   · rw [if_pos c4] at H
     have c4b0 : decide (0 < x4_1) = true := decide_eq_true c4
     clear c4
     obtain ⟨ji5, hji5⟩ : ∃ j_ : Int, (wrap64 (x3_1 + x4_1)) = j_ := ⟨_, rfl⟩
     replace H : (if 0 ≤ (ji5) then (if (ji5) ≤ (a0.size : Int) then ((tmpl_piece.f k1 (a0.extract ((ji5) : Int).toNat a0.size)).bind fun t319 => (tmpl_pieces.l0 k1 a0 ji5 t319)) else (none)) else (none)) = some r := by first | (rw [hji5] at H; exact H) | (simp only [hji5] at H ⊢; exact H)
     have hji5w : (IntKind.i64.wrap (x3_1 + x4_1)) = ji5 := (i64_w _).trans hji5
     by_cases c6 : 0 ≤ (ji5)
     · rw [if_pos c6] at H
       have c6b0 := eq_true c6
       have c6b1 : decide (0 ≤ (ji5)) = true := decide_eq_true c6
       clear c6
       by_cases c7 : (ji5) ≤ (a0.size : Int)
       · rw [if_pos c7] at H
         have c7b0 := eq_true c7
         have c7b1 : decide ((ji5) ≤ (a0.size : Int)) = true := decide_eq_true c7
         clear c7
         replace H := Option.bind_eq_some_iff.mp H
         obtain ⟨t319, A80, H⟩ := H
         replace H : (tmpl_pieces.l0 k1 a0 ji5 t319) = some r := H
         have A8 := Aside0.mk A80
         clear A80
         have H' := Aside0.mk H
         clear H
         go_wp2_with (first | ((with_reducible refine gate_callee (f := 48) rfl ?_); refine goesL_ (some 12) rfl rfl Tryd.func48 (by kernel_rfl) rfl #[.string (a0.extract ((ji5) : Int).toNat a0.size)] rfl (by (try simp only [List.map_toArray, List.map_cons, List.map_nil]); first | done | (simp only [hji5]; rfl) | rfl | (simp only [List.length_drop, List.length_take]; rfl)) ?_; (with_reducible refine (tmpl_piece.calls k1 (a0.extract ((ji5) : Int).toNat a0.size) t319 _ A8.out).mono ?_); rintro e w9 ⟨rfl, hb⟩; refine ⟨_, rfl, ?_⟩; have n0_ := Aside0.mk (below_step (by repeat (first | (with_reducible first | exact HB.out | apply below_alloc | apply pw_below_drewN | apply below_drew1) | exact HB.out)) hb); clear HB; have HB := n0_; clear n0_; (try clear hb); (try clear hb2); (try clear hk); (try clear hi)))
         go_roundg k1
         case measure => have := HK1.out; omega
         case rel => exact ⟨(ji5), (t319), (by first | rfl | (simp; done) | (simp only [← hji5] <;> (first | rfl | simp)) | (simp [*]; done)), (by first | rfl | (simp; done) | (simp [*]; done)), H', ⟨by have := HK1.out; omega⟩, ⟨by repeat (first | (with_reducible first | exact HB.out | apply below_alloc | apply pw_below_drewN | apply below_drew1) | exact HB.out)⟩⟩
       · rw [if_neg c7] at H
         exact absurd H (by simp)
     · rw [if_neg c6] at H
       exact absurd H (by simp)
   · rw [if_neg c4] at H
     have c4b0 : decide (0 < x4_1) = false := decide_eq_false c4
     clear c4
     obtain rfl := Option.some.inj H
     go_wp2
     go_ret
     exact ⟨by first | rfl | (simp [errW_none, errW_some] <;> rfl) | (simp [*, errW_none, errW_some] <;> rfl), by repeat (first | (with_reducible first | exact HB.out | apply below_alloc | apply pw_below_drewN | apply below_drew1) | exact HB.out)⟩
end Go.Proofs.YtkipkbggnfllkaaDoor.P
end
section
namespace Go.Proofs.YtkipkbggnfllkaaDoor.P
set_option linter.unusedVariables false
set_option linter.unusedSimpArgs false
theorem digit_iff (b : Nat) : isDigit b = true ↔ 48 ≤ b ∧ b ≤ 57 := by
 simp only [isDigit, Bool.and_eq_true, decide_eq_true_eq]
 omega
theorem c_digits : ∀ (r : List Nat) (k : Nat), NoSep r → (far step (.c k) r = r.length ↔ (∀ b ∈ r, 48 ≤ b ∧ b ≤ 57) ∧ (r = [] ∨ k + r.length ≤ 4) ∧ (k = 0 → r.head? ≠ some 48))
 | [], k, _ => by simp [far]
 | b :: r, k, hs => by
  have hf := fin_other (hs b (by simp)).1 (hs b (by simp)).2
  by_cases h : isDigit b = true ∧ k < 4 ∧ ¬ (k = 0 ∧ b = 48)
  · have s : step (.c k) b = some (.c (k + 1)) := by simp only [step]; rw [if_pos h]
    rw [far_some s, List.length_cons, Nat.add_right_cancel_iff, c_digits r (k + 1) hs.tail]
    have hb := (digit_iff b).1 h.1
    constructor
    · rintro ⟨a, c, -⟩
      refine ⟨fun x hx => ?_, .inr ?_, fun hk => ?_⟩
      · rcases List.mem_cons.1 hx with rfl | hx
        · exact hb
        · exact a x hx
      · rcases c with rfl | c
        · simp
          omega
        · omega
      · intro g
        exact h.2.2 ⟨hk, Option.some.inj g⟩
    · rintro ⟨a, c, -⟩
      refine ⟨fun x hx => a x (List.mem_cons_of_mem _ hx), .inr ?_, fun hk => by omega⟩
      rcases c with c | c
      · cases c
      · omega
  · have s : step (.c k) b = none := by
     simp only [step]
     rw [if_neg h, hf]
     split <;> rfl
    rw [far_none s, List.length_cons]
    constructor
    · intro g
      omega
    · rintro ⟨a, c, e⟩
      refine absurd ⟨(digit_iff b).2 (a b (by simp)), ?_, fun g => ?_⟩ h
      · rcases c with c | c
        · cases c
        · omega
      · exact e g.1 (by rw [g.2]; rfl)
end Go.Proofs.YtkipkbggnfllkaaDoor.P
end
section
namespace Go.Proofs.YtkipkbggnfllkaaDoor.P
open Go.RowKit Go.Proofs.YtkipkbggnfllkaaDoorW.PrintWords Go.Proofs.YtkipkbggnfllkaaDoorW.PrintLast Go.Proofs.YtkipkbggnfllkaaDoorW.PrintMore
attribute [local go_sem] max2_int min2_int max_two min_two max_three min_three max_four min_four
set_option linter.unusedVariables false
set_option linter.unusedSimpArgs false
def rf02_Alpha.f (a0 : Int) : Option (Bool) := if a0 ≥ 65 then (if a0 ≤ 90 then (some true) else (if a0 ≥ 97 then (some (decide (a0 ≤ 122))) else (some false))) else (if a0 ≥ 97 then (some (decide (a0 ≤ 122))) else (some false))
set_option maxHeartbeats 8000000 in
set_option maxRecDepth 100000 in
theorem rf02_Alpha.calls (a0 : Int) (r : Bool) (w : World) (h : rf02_Alpha.f a0 = some r) :
 Calls Tryd.prog 57 #[.int .u8 a0] w fun e w' => e = .returned (.bool r) ∧ Drawn0 w w' := by
 have H : (if a0 ≥ 65 then (if a0 ≤ 90 then (some true) else (if a0 ≥ 97 then (some (decide (a0 ≤ 122))) else (some false))) else (if a0 ≥ 97 then (some (decide (a0 ≤ 122))) else (some false))) = some r := h
 clear h
 by_cases c2 : a0 ≥ 65
 · rw [if_pos c2] at H
   have c2b0 : decide (65 ≤ a0) = true := decide_eq_true c2
   clear c2
   by_cases c3 : a0 ≤ 90
   · rw [if_pos c3] at H
     have c3b0 : decide (a0 ≤ 90) = true := decide_eq_true c3
     clear c3
     obtain rfl := Option.some.inj H
     go_enter Tryd.func57, Tryd.ntmps57
     go_wp2
     go_ret
     exact ⟨by first | rfl | (simp; done) | (simp [*]; done), by repeat (first | exact Drawn0.refl _ | apply Drawn0.step)⟩
   · rw [if_neg c3] at H
     have c3b0 : decide (a0 ≤ 90) = false := decide_eq_false c3
     clear c3
     by_cases c4 : a0 ≥ 97
     · rw [if_pos c4] at H
       have c4b0 : decide (97 ≤ a0) = true := decide_eq_true c4
       clear c4
       obtain rfl := Option.some.inj H
       go_enter Tryd.func57, Tryd.ntmps57
       go_wp2
       go_ret
       exact ⟨by first | rfl | (simp; done) | (simp [*]; done), by repeat (first | exact Drawn0.refl _ | apply Drawn0.step)⟩
     · rw [if_neg c4] at H
       have c4b0 : decide (97 ≤ a0) = false := decide_eq_false c4
       clear c4
       obtain rfl := Option.some.inj H
       go_enter Tryd.func57, Tryd.ntmps57
       go_wp2
       go_ret
       exact ⟨by first | rfl | (simp; done) | (simp [*]; done), by repeat (first | exact Drawn0.refl _ | apply Drawn0.step)⟩
 · rw [if_neg c2] at H
   have c2b0 : decide (65 ≤ a0) = false := decide_eq_false c2
   clear c2
   by_cases c5 : a0 ≥ 97
   · rw [if_pos c5] at H
     have c5b0 : decide (97 ≤ a0) = true := decide_eq_true c5
     clear c5
     obtain rfl := Option.some.inj H
     go_enter Tryd.func57, Tryd.ntmps57
     go_wp2
     go_ret
     exact ⟨by first | rfl | (simp; done) | (simp [*]; done), by repeat (first | exact Drawn0.refl _ | apply Drawn0.step)⟩
   · rw [if_neg c5] at H
     have c5b0 : decide (97 ≤ a0) = false := decide_eq_false c5
     clear c5
     obtain rfl := Option.some.inj H
     go_enter Tryd.func57, Tryd.ntmps57
     go_wp2
     go_ret
     exact ⟨by first | rfl | (simp; done) | (simp [*]; done), by repeat (first | exact Drawn0.refl _ | apply Drawn0.step)⟩
def rf02_Digit.f (a0 : Int) : Option (Bool) := if a0 ≥ 48 then (some (decide (a0 ≤ 57))) else (some false)
set_option maxHeartbeats 8000000 in
set_option maxRecDepth 100000 in
theorem rf02_Digit.calls (a0 : Int) (r : Bool) (w : World) (h : rf02_Digit.f a0 = some r) :
 Calls Tryd.prog 58 #[.int .u8 a0] w fun e w' => e = .returned (.bool r) ∧ Drawn0 w w' := by
 have H : (if a0 ≥ 48 then (some (decide (a0 ≤ 57))) else (some false)) = some r := h
 clear h
 by_cases c2 : a0 ≥ 48
 · rw [if_pos c2] at H
   have c2b0 : decide (48 ≤ a0) = true := decide_eq_true c2
   clear c2
   obtain rfl := Option.some.inj H
   go_enter Tryd.func58, Tryd.ntmps58
   go_wp2
   go_ret
   exact ⟨by first | rfl | (simp; done) | (simp [*]; done), by repeat (first | exact Drawn0.refl _ | apply Drawn0.step)⟩
 · rw [if_neg c2] at H
   have c2b0 : decide (48 ≤ a0) = false := decide_eq_false c2
   clear c2
   obtain rfl := Option.some.inj H
   go_enter Tryd.func58, Tryd.ntmps58
   go_wp2
   go_ret
   exact ⟨by first | rfl | (simp; done) | (simp [*]; done), by repeat (first | exact Drawn0.refl _ | apply Drawn0.step)⟩
def rf02_Word.f (a0 : Int) : Option (Bool) := (rf02_Alpha.f a0).bind fun t165 => (if t165 = true then (some true) else ((rf02_Digit.f a0).bind fun t166 => (if t166 = true then (some true) else (some (a0 == 95)))))
set_option maxHeartbeats 8000000 in
set_option maxRecDepth 100000 in
theorem rf02_Word.calls (a0 : Int) (r : Bool) (w : World) (h : rf02_Word.f a0 = some r) :
 Calls Tryd.prog 40 #[.int .u8 a0] w fun e w' => e = .returned (.bool r) ∧ Drawn0 w w' := by
 have H : ((rf02_Alpha.f a0).bind fun t165 => (if t165 = true then (some true) else ((rf02_Digit.f a0).bind fun t166 => (if t166 = true then (some true) else (some (a0 == 95)))))) = some r := h
 clear h
 replace H := Option.bind_eq_some_iff.mp H
 obtain ⟨t165, A20, H⟩ := H
 replace H : (if t165 = true then (some true) else ((rf02_Digit.f a0).bind fun t166 => (if t166 = true then (some true) else (some (a0 == 95))))) = some r := H
 have A2 := Aside0.mk A20
 clear A20
 by_cases c3 : t165 = true
 · subst c3
   have H1 : (some true) = some r := by rw [if_pos rfl] at H; exact H
   clear H
   have H := H1
   clear H1
   obtain rfl := Option.some.inj H
   go_enter Tryd.func40, Tryd.ntmps40
   go_wp2_with (first | ((with_reducible refine gate_callee (f := 57) rfl ?_); refine goesL_ (some 4) rfl rfl Tryd.func57 (by kernel_rfl) rfl #[.int .u8 a0] rfl (by (try simp only [List.map_toArray, List.map_cons, List.map_nil]); first | done | rfl | (simp only [List.length_drop, List.length_take]; rfl)) ?_; (with_reducible refine (rf02_Alpha.calls a0 true _ A2.out).mono ?_); rintro e w' ⟨rfl, ⟨nd, rfl⟩⟩; refine ⟨_, rfl, ?_⟩))
   go_ret
   exact ⟨by first | rfl | (simp; done) | (simp [*]; done), by repeat (first | exact Drawn0.refl _ | apply Drawn0.step)⟩
 · replace c3 := Bool.eq_false_iff.mpr c3
   subst c3
   have H1 : ((rf02_Digit.f a0).bind fun t166 => (if t166 = true then (some true) else (some (a0 == 95)))) = some r := by rw [if_neg (show ¬ (false = true) by decide)] at H; exact H
   clear H
   have H := H1
   clear H1
   replace H := Option.bind_eq_some_iff.mp H
   obtain ⟨t166, A40, H⟩ := H
   replace H : (if t166 = true then (some true) else (some (a0 == 95))) = some r := H
   have A4 := Aside0.mk A40
   clear A40
   by_cases c5 : t166 = true
   · subst c5
     have H1 : (some true) = some r := by rw [if_pos rfl] at H; exact H
     clear H
     have H := H1
     clear H1
     obtain rfl := Option.some.inj H
     go_enter Tryd.func40, Tryd.ntmps40
     go_wp2_with (first | ((with_reducible refine gate_callee (f := 57) rfl ?_); refine goesL_ (some 4) rfl rfl Tryd.func57 (by kernel_rfl) rfl #[.int .u8 a0] rfl (by (try simp only [List.map_toArray, List.map_cons, List.map_nil]); first | done | rfl | (simp only [List.length_drop, List.length_take]; rfl)) ?_; (with_reducible refine (rf02_Alpha.calls a0 false _ A2.out).mono ?_); rintro e w' ⟨rfl, ⟨nd, rfl⟩⟩; refine ⟨_, rfl, ?_⟩) | (go_at_call 58; (with_reducible refine (rf02_Digit.calls a0 true _ A4.out).mono ?_); rintro e w' ⟨rfl, ⟨nd, rfl⟩⟩))
     go_ret
     exact ⟨by first | rfl | (simp; done) | (simp [*]; done), by repeat (first | exact Drawn0.refl _ | apply Drawn0.step)⟩
   · replace c5 := Bool.eq_false_iff.mpr c5
     subst c5
     have H1 : (some (a0 == 95)) = some r := by rw [if_neg (show ¬ (false = true) by decide)] at H; exact H
     clear H
     have H := H1
     clear H1
     obtain rfl := Option.some.inj H
     go_enter Tryd.func40, Tryd.ntmps40
     go_wp2_with (first | ((with_reducible refine gate_callee (f := 57) rfl ?_); refine goesL_ (some 4) rfl rfl Tryd.func57 (by kernel_rfl) rfl #[.int .u8 a0] rfl (by (try simp only [List.map_toArray, List.map_cons, List.map_nil]); first | done | rfl | (simp only [List.length_drop, List.length_take]; rfl)) ?_; (with_reducible refine (rf02_Alpha.calls a0 false _ A2.out).mono ?_); rintro e w' ⟨rfl, ⟨nd, rfl⟩⟩; refine ⟨_, rfl, ?_⟩) | (go_at_call 58; (with_reducible refine (rf02_Digit.calls a0 false _ A4.out).mono ?_); rintro e w' ⟨rfl, ⟨nd, rfl⟩⟩))
     go_ret
     exact ⟨by first | rfl | (simp; done) | (simp [*]; done), by repeat (first | exact Drawn0.refl _ | apply Drawn0.step)⟩
def rf02_Hex.f (a0 : Int) : Option (Bool) := (rf02_Digit.f a0).bind fun t133 => (if t133 = true then (some true) else (if a0 ≥ 65 then (if a0 ≤ 70 then (some true) else (if a0 ≥ 97 then (some (decide (a0 ≤ 102))) else (some false))) else (if a0 ≥ 97 then (some (decide (a0 ≤ 102))) else (some false))))
set_option maxHeartbeats 8000000 in
set_option maxRecDepth 100000 in
theorem rf02_Hex.calls (a0 : Int) (r : Bool) (w : World) (h : rf02_Hex.f a0 = some r) :
 Calls Tryd.prog 53 #[.int .u8 a0] w fun e w' => e = .returned (.bool r) ∧ Drawn0 w w' := by
 have H : ((rf02_Digit.f a0).bind fun t133 => (if t133 = true then (some true) else (if a0 ≥ 65 then (if a0 ≤ 70 then (some true) else (if a0 ≥ 97 then (some (decide (a0 ≤ 102))) else (some false))) else (if a0 ≥ 97 then (some (decide (a0 ≤ 102))) else (some false))))) = some r := h
 clear h
 replace H := Option.bind_eq_some_iff.mp H
 obtain ⟨t133, A20, H⟩ := H
 replace H : (if t133 = true then (some true) else (if a0 ≥ 65 then (if a0 ≤ 70 then (some true) else (if a0 ≥ 97 then (some (decide (a0 ≤ 102))) else (some false))) else (if a0 ≥ 97 then (some (decide (a0 ≤ 102))) else (some false)))) = some r := H
 have A2 := Aside0.mk A20
 clear A20
 by_cases c3 : t133 = true
 · subst c3
   have H1 : (some true) = some r := by rw [if_pos rfl] at H; exact H
   clear H
   have H := H1
   clear H1
   obtain rfl := Option.some.inj H
   go_enter Tryd.func53, Tryd.ntmps53
   go_wp2_with (first | ((with_reducible refine gate_callee (f := 58) rfl ?_); refine goesL_ (some 4) rfl rfl Tryd.func58 (by kernel_rfl) rfl #[.int .u8 a0] rfl (by (try simp only [List.map_toArray, List.map_cons, List.map_nil]); first | done | rfl | (simp only [List.length_drop, List.length_take]; rfl)) ?_; (with_reducible refine (rf02_Digit.calls a0 true _ A2.out).mono ?_); rintro e w' ⟨rfl, ⟨nd, rfl⟩⟩; refine ⟨_, rfl, ?_⟩))
   go_ret
   exact ⟨by first | rfl | (simp; done) | (simp [*]; done), by repeat (first | exact Drawn0.refl _ | apply Drawn0.step)⟩
 · replace c3 := Bool.eq_false_iff.mpr c3
   subst c3
   have H1 : (if a0 ≥ 65 then (if a0 ≤ 70 then (some true) else (if a0 ≥ 97 then (some (decide (a0 ≤ 102))) else (some false))) else (if a0 ≥ 97 then (some (decide (a0 ≤ 102))) else (some false))) = some r := by rw [if_neg (show ¬ (false = true) by decide)] at H; exact H
   clear H
   have H := H1
   clear H1
   by_cases c4 : a0 ≥ 65
   · rw [if_pos c4] at H
     have c4b0 : decide (65 ≤ a0) = true := decide_eq_true c4
     clear c4
     by_cases c5 : a0 ≤ 70
     · rw [if_pos c5] at H
       have c5b0 : decide (a0 ≤ 70) = true := decide_eq_true c5
       clear c5
       obtain rfl := Option.some.inj H
       go_enter Tryd.func53, Tryd.ntmps53
       go_wp2_with (first | ((with_reducible refine gate_callee (f := 58) rfl ?_); refine goesL_ (some 4) rfl rfl Tryd.func58 (by kernel_rfl) rfl #[.int .u8 a0] rfl (by (try simp only [List.map_toArray, List.map_cons, List.map_nil]); first | done | rfl | (simp only [List.length_drop, List.length_take]; rfl)) ?_; (with_reducible refine (rf02_Digit.calls a0 false _ A2.out).mono ?_); rintro e w' ⟨rfl, ⟨nd, rfl⟩⟩; refine ⟨_, rfl, ?_⟩))
       go_ret
       exact ⟨by first | rfl | (simp; done) | (simp [*]; done), by repeat (first | exact Drawn0.refl _ | apply Drawn0.step)⟩
     · rw [if_neg c5] at H
       have c5b0 : decide (a0 ≤ 70) = false := decide_eq_false c5
       clear c5
       by_cases c6 : a0 ≥ 97
       · rw [if_pos c6] at H
         have c6b0 : decide (97 ≤ a0) = true := decide_eq_true c6
         clear c6
         obtain rfl := Option.some.inj H
         go_enter Tryd.func53, Tryd.ntmps53
         go_wp2_with (first | ((with_reducible refine gate_callee (f := 58) rfl ?_); refine goesL_ (some 4) rfl rfl Tryd.func58 (by kernel_rfl) rfl #[.int .u8 a0] rfl (by (try simp only [List.map_toArray, List.map_cons, List.map_nil]); first | done | rfl | (simp only [List.length_drop, List.length_take]; rfl)) ?_; (with_reducible refine (rf02_Digit.calls a0 false _ A2.out).mono ?_); rintro e w' ⟨rfl, ⟨nd, rfl⟩⟩; refine ⟨_, rfl, ?_⟩))
         go_ret
         exact ⟨by first | rfl | (simp; done) | (simp [*]; done), by repeat (first | exact Drawn0.refl _ | apply Drawn0.step)⟩
       · rw [if_neg c6] at H
         have c6b0 : decide (97 ≤ a0) = false := decide_eq_false c6
         clear c6
         obtain rfl := Option.some.inj H
         go_enter Tryd.func53, Tryd.ntmps53
         go_wp2_with (first | ((with_reducible refine gate_callee (f := 58) rfl ?_); refine goesL_ (some 4) rfl rfl Tryd.func58 (by kernel_rfl) rfl #[.int .u8 a0] rfl (by (try simp only [List.map_toArray, List.map_cons, List.map_nil]); first | done | rfl | (simp only [List.length_drop, List.length_take]; rfl)) ?_; (with_reducible refine (rf02_Digit.calls a0 false _ A2.out).mono ?_); rintro e w' ⟨rfl, ⟨nd, rfl⟩⟩; refine ⟨_, rfl, ?_⟩))
         go_ret
         exact ⟨by first | rfl | (simp; done) | (simp [*]; done), by repeat (first | exact Drawn0.refl _ | apply Drawn0.step)⟩
   · rw [if_neg c4] at H
     have c4b0 : decide (65 ≤ a0) = false := decide_eq_false c4
     clear c4
     by_cases c7 : a0 ≥ 97
     · rw [if_pos c7] at H
       have c7b0 : decide (97 ≤ a0) = true := decide_eq_true c7
       clear c7
       obtain rfl := Option.some.inj H
       go_enter Tryd.func53, Tryd.ntmps53
       go_wp2_with (first | ((with_reducible refine gate_callee (f := 58) rfl ?_); refine goesL_ (some 4) rfl rfl Tryd.func58 (by kernel_rfl) rfl #[.int .u8 a0] rfl (by (try simp only [List.map_toArray, List.map_cons, List.map_nil]); first | done | rfl | (simp only [List.length_drop, List.length_take]; rfl)) ?_; (with_reducible refine (rf02_Digit.calls a0 false _ A2.out).mono ?_); rintro e w' ⟨rfl, ⟨nd, rfl⟩⟩; refine ⟨_, rfl, ?_⟩))
       go_ret
       exact ⟨by first | rfl | (simp; done) | (simp [*]; done), by repeat (first | exact Drawn0.refl _ | apply Drawn0.step)⟩
     · rw [if_neg c7] at H
       have c7b0 : decide (97 ≤ a0) = false := decide_eq_false c7
       clear c7
       obtain rfl := Option.some.inj H
       go_enter Tryd.func53, Tryd.ntmps53
       go_wp2_with (first | ((with_reducible refine gate_callee (f := 58) rfl ?_); refine goesL_ (some 4) rfl rfl Tryd.func58 (by kernel_rfl) rfl #[.int .u8 a0] rfl (by (try simp only [List.map_toArray, List.map_cons, List.map_nil]); first | done | rfl | (simp only [List.length_drop, List.length_take]; rfl)) ?_; (with_reducible refine (rf02_Digit.calls a0 false _ A2.out).mono ?_); rintro e w' ⟨rfl, ⟨nd, rfl⟩⟩; refine ⟨_, rfl, ?_⟩))
       go_ret
       exact ⟨by first | rfl | (simp; done) | (simp [*]; done), by repeat (first | exact Drawn0.refl _ | apply Drawn0.step)⟩
def rf03_Triplet.f (a0 : ByteArray) : Option (Bool) := if (a0.size : Int) ≥ 3 then (if 0 < (a0.size : Int) then (if (bt a0 0) = 37 then (if 1 < (a0.size : Int) then ((rf02_Hex.f (bt a0 1)).bind fun t134 => (if t134 = true then (if 2 < (a0.size : Int) then ((rf02_Hex.f (bt a0 2)).bind fun t135 => (some t135)) else (none)) else (some false))) else (none)) else (some false)) else (none)) else (some false)
set_option maxHeartbeats 8000000 in
set_option maxRecDepth 100000 in
theorem rf03_Triplet.calls (a0 : ByteArray) (r : Bool) (w : World) (h : rf03_Triplet.f a0 = some r) :
 Calls Tryd.prog 37 #[.string a0] w fun e w' => e = .returned (.bool r) ∧ Drawn0 w w' := by
 have H : (if (a0.size : Int) ≥ 3 then (if 0 < (a0.size : Int) then (if (bt a0 0) = 37 then (if 1 < (a0.size : Int) then ((rf02_Hex.f (bt a0 1)).bind fun t134 => (if t134 = true then (if 2 < (a0.size : Int) then ((rf02_Hex.f (bt a0 2)).bind fun t135 => (some t135)) else (none)) else (some false))) else (none)) else (some false)) else (none)) else (some false)) = some r := h
 clear h
 by_cases c2 : (a0.size : Int) ≥ 3
 · rw [if_pos c2] at H
   have c2b0 : decide (3 ≤ (a0.size : Int)) = true := decide_eq_true c2
   have c2b1 : decide (3 ≤ a0.size) = true := decide_eq_true (by omega)
   clear c2
   by_cases c3 : 0 < (a0.size : Int)
   · rw [if_pos c3] at H
     have c3b0 : decide (0 < (a0.size : Int)) = true := decide_eq_true c3
     have c3b1 : decide (0 < a0.size) = true := decide_eq_true (by omega)
     clear c3
     by_cases c5 : (bt a0 0) = 37
     · rw [if_pos c5] at H
       have c5b0 : ((bt a0 0) == 37) = true := beq_iff_eq.mpr c5
       have c5b1 : ((bt a0 0) != 37) = false := bne_eq_false_iff_eq.mpr c5
       clear c5
       by_cases c6 : 1 < (a0.size : Int)
       · rw [if_pos c6] at H
         have c6b0 : decide (1 < (a0.size : Int)) = true := decide_eq_true c6
         have c6b1 : decide (1 < a0.size) = true := decide_eq_true (by omega)
         clear c6
         replace H := Option.bind_eq_some_iff.mp H
         obtain ⟨t134, A80, H⟩ := H
         replace H : (if t134 = true then (if 2 < (a0.size : Int) then ((rf02_Hex.f (bt a0 2)).bind fun t135 => (some t135)) else (none)) else (some false)) = some r := H
         have A8 := Aside0.mk A80
         clear A80
         by_cases c9 : t134 = true
         · subst c9
           have H1 : (if 2 < (a0.size : Int) then ((rf02_Hex.f (bt a0 2)).bind fun t135 => (some t135)) else (none)) = some r := by rw [if_pos rfl] at H; exact H
           clear H
           have H := H1
           clear H1
           by_cases c10 : 2 < (a0.size : Int)
           · rw [if_pos c10] at H
             have c10b0 : decide (2 < (a0.size : Int)) = true := decide_eq_true c10
             have c10b1 : decide (2 < a0.size) = true := decide_eq_true (by omega)
             clear c10
             replace H := Option.bind_eq_some_iff.mp H
             obtain ⟨t135, A120, H⟩ := H
             replace H : (some t135) = some r := H
             have A12 := Aside0.mk A120
             clear A120
             obtain rfl := Option.some.inj H
             have p4 : 0 ≤ (0 : Int) := (by omega)
             have q4 : 0 < a0.size := (by have : (0 : Int) < (a0.size : Int) := of_decide_eq_true (by first | (with_reducible assumption) | assumption); omega)
             have hx4 : ∀ h : 0 < a0.size, ((a0[0]'h).toNat : Int) = bt a0 0 := bt_at a0 0
             clear p4
             have qi4 : (0 < (a0.size : Int)) = True := eq_true (of_decide_eq_true (by first | (with_reducible assumption) | assumption))
             replace q4 := eq_true q4
             have p7 : 0 ≤ (1 : Int) := (by omega)
             have q7 : 1 < a0.size := (by have : (1 : Int) < (a0.size : Int) := of_decide_eq_true (by first | (with_reducible assumption) | assumption); omega)
             have hx7 : ∀ h : 1 < a0.size, ((a0[1]'h).toNat : Int) = bt a0 1 := bt_at a0 1
             clear p7
             have qi7 : (1 < (a0.size : Int)) = True := eq_true (of_decide_eq_true (by first | (with_reducible assumption) | assumption))
             replace q7 := eq_true q7
             go_enter Tryd.func37, Tryd.ntmps37
             go_wp2_with (first | (go_at_call 53; (with_reducible refine (rf02_Hex.calls (bt a0 1) true _ A8.out).mono ?_); rintro e w' ⟨rfl, ⟨nd, rfl⟩⟩; have p11 : 0 ≤ (2 : Int) := (by omega); have q11 : 2 < a0.size := (by have : (2 : Int) < (a0.size : Int) := of_decide_eq_true (by first | (with_reducible assumption) | assumption); omega); have hx11 : ∀ h : 2 < a0.size, ((a0[2]'h).toNat : Int) = bt a0 2 := bt_at a0 2; clear p11; have qi11 : (2 < (a0.size : Int)) = True := eq_true (of_decide_eq_true (by first | (with_reducible assumption) | assumption)); replace q11 := eq_true q11) | (go_at_call 53; (with_reducible refine (rf02_Hex.calls (bt a0 2) t135 _ A12.out).mono ?_); rintro e w' ⟨rfl, ⟨nd, rfl⟩⟩))
             go_ret
             exact ⟨by first | rfl | (simp; done) | (simp [*]; done), by repeat (first | exact Drawn0.refl _ | apply Drawn0.step)⟩
           · rw [if_neg c10] at H
             exact absurd H (by simp)
         · replace c9 := Bool.eq_false_iff.mpr c9
           subst c9
           have H1 : (some false) = some r := by rw [if_neg (show ¬ (false = true) by decide)] at H; exact H
           clear H
           have H := H1
           clear H1
           obtain rfl := Option.some.inj H
           have p4 : 0 ≤ (0 : Int) := (by omega)
           have q4 : 0 < a0.size := (by have : (0 : Int) < (a0.size : Int) := of_decide_eq_true (by first | (with_reducible assumption) | assumption); omega)
           have hx4 : ∀ h : 0 < a0.size, ((a0[0]'h).toNat : Int) = bt a0 0 := bt_at a0 0
           clear p4
           have qi4 : (0 < (a0.size : Int)) = True := eq_true (of_decide_eq_true (by first | (with_reducible assumption) | assumption))
           replace q4 := eq_true q4
           have p7 : 0 ≤ (1 : Int) := (by omega)
           have q7 : 1 < a0.size := (by have : (1 : Int) < (a0.size : Int) := of_decide_eq_true (by first | (with_reducible assumption) | assumption); omega)
           have hx7 : ∀ h : 1 < a0.size, ((a0[1]'h).toNat : Int) = bt a0 1 := bt_at a0 1
           clear p7
           have qi7 : (1 < (a0.size : Int)) = True := eq_true (of_decide_eq_true (by first | (with_reducible assumption) | assumption))
           replace q7 := eq_true q7
           go_enter Tryd.func37, Tryd.ntmps37
           go_wp2_with (first | (go_at_call 53; (with_reducible refine (rf02_Hex.calls (bt a0 1) false _ A8.out).mono ?_); rintro e w' ⟨rfl, ⟨nd, rfl⟩⟩))
           go_ret
           exact ⟨by first | rfl | (simp; done) | (simp [*]; done), by repeat (first | exact Drawn0.refl _ | apply Drawn0.step)⟩
       · rw [if_neg c6] at H
         exact absurd H (by simp)
     · rw [if_neg c5] at H
       have c5b0 : ((bt a0 0) == 37) = false := beq_eq_false_iff_ne.mpr c5
       have c5b1 : ((bt a0 0) != 37) = true := bne_iff_ne.mpr c5
       obtain rfl := Option.some.inj H
       have p4 : 0 ≤ (0 : Int) := (by omega)
       have q4 : 0 < a0.size := (by have : (0 : Int) < (a0.size : Int) := of_decide_eq_true (by first | (with_reducible assumption) | assumption); omega)
       have hx4 : ∀ h : 0 < a0.size, ((a0[0]'h).toNat : Int) = bt a0 0 := bt_at a0 0
       clear p4
       have qi4 : (0 < (a0.size : Int)) = True := eq_true (of_decide_eq_true (by first | (with_reducible assumption) | assumption))
       replace q4 := eq_true q4
       go_enter Tryd.func37, Tryd.ntmps37
       go_wp2
       go_ret
       exact ⟨by first | rfl | (simp; done) | (simp [*]; done), by repeat (first | exact Drawn0.refl _ | apply Drawn0.step)⟩
   · rw [if_neg c3] at H
     exact absurd H (by simp)
 · rw [if_neg c2] at H
   have c2b0 : decide (3 ≤ (a0.size : Int)) = false := decide_eq_false c2
   have c2b1 : decide (3 ≤ a0.size) = false := decide_eq_false (by omega)
   clear c2
   obtain rfl := Option.some.inj H
   go_enter Tryd.func37, Tryd.ntmps37
   go_wp2
   go_ret
   exact ⟨by first | rfl | (simp; done) | (simp [*]; done), by repeat (first | exact Drawn0.refl _ | apply Drawn0.step)⟩
def rf05_May2.f : Nat → ByteArray → Bool → Option (Bool)
 | 0, _, _ => none
 | k + 1, a0, a1 => if a0.toList = ([] : List UInt8) then (some a1) else (if 0 < (a0.size : Int) then ((rf02_Word.f (bt a0 0)).bind fun t167 => (if t167 = true then (if 1 ≤ (a0.size : Int) then ((rf05_May2.f k (a0.extract 1 a0.size) true).bind fun t168 => (some t168)) else (none)) else ((rf03_Triplet.f a0).bind fun t169 => (if t169 = true then (if 3 ≤ (a0.size : Int) then ((rf05_May2.f k (a0.extract 3 a0.size) true).bind fun t170 => (some t170)) else (none)) else (if (bt a0 0) = 46 then (if a1 = true then (if 1 ≤ (a0.size : Int) then ((rf05_May2.f k (a0.extract 1 a0.size) false).bind fun t171 => (some t171)) else (none)) else (some false)) else (some false)))))) else (none))
set_option maxHeartbeats 8000000 in
set_option maxRecDepth 100000 in
theorem rf05_May2.calls (k : Nat) : ∀ (a0 : ByteArray) (a1 : Bool) (r : Bool) (w : World) (h : rf05_May2.f k a0 a1 = some r),
 Calls Tryd.prog 25 #[.string a0, .bool a1] w fun e w' => e = .returned (.bool r) ∧ Drawn0 w w' := by
 induction k using Nat.strongRecOn with
 | _ k ih =>
 intro a0 a1 r w h
 cases k with
 | zero => exact absurd h (by simp [rf05_May2.f])
 | succ k =>
 simp only [rf05_May2.f] at h
 have H : (if a0.toList = ([] : List UInt8) then (some a1) else (if 0 < (a0.size : Int) then ((rf02_Word.f (bt a0 0)).bind fun t167 => (if t167 = true then (if 1 ≤ (a0.size : Int) then ((rf05_May2.f k (a0.extract 1 a0.size) true).bind fun t168 => (some t168)) else (none)) else ((rf03_Triplet.f a0).bind fun t169 => (if t169 = true then (if 3 ≤ (a0.size : Int) then ((rf05_May2.f k (a0.extract 3 a0.size) true).bind fun t170 => (some t170)) else (none)) else (if (bt a0 0) = 46 then (if a1 = true then (if 1 ≤ (a0.size : Int) then ((rf05_May2.f k (a0.extract 1 a0.size) false).bind fun t171 => (some t171)) else (none)) else (some false)) else (some false)))))) else (none))) = some r := h
 clear h
 by_cases c3 : a0.toList = ([] : List UInt8)
 · rw [if_pos c3] at H
   have c3b0 : (a0.toList == ([] : List UInt8)) = true := beq_iff_eq.mpr c3
   have c3b1 : (a0.toList != ([] : List UInt8)) = false := bne_eq_false_iff_eq.mpr c3
   clear c3
   obtain rfl := Option.some.inj H
   go_enter Tryd.func25, Tryd.ntmps25
   go_wp2
   go_ret
   exact ⟨by first | rfl | (simp; done) | (simp [*]; done), by repeat (first | exact Drawn0.refl _ | apply Drawn0.step)⟩
 · rw [if_neg c3] at H
   have c3b0 : (a0.toList == ([] : List UInt8)) = false := beq_eq_false_iff_ne.mpr c3
   have c3b1 : (a0.toList != ([] : List UInt8)) = true := bne_iff_ne.mpr c3
   by_cases c4 : 0 < (a0.size : Int)
   · rw [if_pos c4] at H
     have c4b0 : decide (0 < (a0.size : Int)) = true := decide_eq_true c4
     have c4b1 : decide (0 < a0.size) = true := decide_eq_true (by omega)
     clear c4
     replace H := Option.bind_eq_some_iff.mp H
     obtain ⟨t167, A60, H⟩ := H
     replace H : (if t167 = true then (if 1 ≤ (a0.size : Int) then ((rf05_May2.f k (a0.extract 1 a0.size) true).bind fun t168 => (some t168)) else (none)) else ((rf03_Triplet.f a0).bind fun t169 => (if t169 = true then (if 3 ≤ (a0.size : Int) then ((rf05_May2.f k (a0.extract 3 a0.size) true).bind fun t170 => (some t170)) else (none)) else (if (bt a0 0) = 46 then (if a1 = true then (if 1 ≤ (a0.size : Int) then ((rf05_May2.f k (a0.extract 1 a0.size) false).bind fun t171 => (some t171)) else (none)) else (some false)) else (some false))))) = some r := H
     have A6 := Aside0.mk A60
     clear A60
     by_cases c7 : t167 = true
     · subst c7
       have H1 : (if 1 ≤ (a0.size : Int) then ((rf05_May2.f k (a0.extract 1 a0.size) true).bind fun t168 => (some t168)) else (none)) = some r := by rw [if_pos rfl] at H; exact H
       clear H
       have H := H1
       clear H1
       by_cases c8 : 1 ≤ (a0.size : Int)
       · rw [if_pos c8] at H
         have c8b0 := eq_true c8
         have c8b1 : decide (1 ≤ (a0.size : Int)) = true := decide_eq_true c8
         clear c8
         replace H := Option.bind_eq_some_iff.mp H
         obtain ⟨t168, A90, H⟩ := H
         replace H : (some t168) = some r := H
         have A9 := Aside0.mk A90
         clear A90
         obtain rfl := Option.some.inj H
         have p5 : 0 ≤ (0 : Int) := (by omega)
         have q5 : 0 < a0.size := (by have : (0 : Int) < (a0.size : Int) := of_decide_eq_true (by first | (with_reducible assumption) | assumption); omega)
         have hx5 : ∀ h : 0 < a0.size, ((a0[0]'h).toNat : Int) = bt a0 0 := bt_at a0 0
         clear p5
         have qi5 : (0 < (a0.size : Int)) = True := eq_true (of_decide_eq_true (by first | (with_reducible assumption) | assumption))
         replace q5 := eq_true q5
         go_enter Tryd.func25, Tryd.ntmps25
         go_wp2_with (first | ((with_reducible refine gate_callee (f := 40) rfl ?_); refine goesL_ (some 10) rfl rfl Tryd.func40 (by kernel_rfl) rfl #[.int .u8 (bt a0 0)] rfl (by (try simp only [List.map_toArray, List.map_cons, List.map_nil]); first | done | rfl | (simp only [List.length_drop, List.length_take]; rfl)) ?_; (with_reducible refine (rf02_Word.calls (bt a0 0) true _ A6.out).mono ?_); rintro e w' ⟨rfl, ⟨nd, rfl⟩⟩; refine ⟨_, rfl, ?_⟩) | ((with_reducible refine gate_callee (f := 25) rfl ?_); refine goesL_ (some 13) rfl rfl Tryd.func25 (by kernel_rfl) rfl #[.string (a0.extract 1 a0.size), .bool true] rfl (by (try simp only [List.map_toArray, List.map_cons, List.map_nil]); first | done | rfl | (simp only [List.length_drop, List.length_take]; rfl)) ?_; (with_reducible refine (ih k (by omega) (a0.extract 1 a0.size) true t168 _ A9.out).mono ?_); rintro e w' ⟨rfl, ⟨nd, rfl⟩⟩; refine ⟨_, rfl, ?_⟩))
         go_ret
         exact ⟨by first | rfl | (simp; done) | (simp [*]; done), by repeat (first | exact Drawn0.refl _ | apply Drawn0.step)⟩
       · rw [if_neg c8] at H
         exact absurd H (by simp)
     · replace c7 := Bool.eq_false_iff.mpr c7
       subst c7
       have H1 : ((rf03_Triplet.f a0).bind fun t169 => (if t169 = true then (if 3 ≤ (a0.size : Int) then ((rf05_May2.f k (a0.extract 3 a0.size) true).bind fun t170 => (some t170)) else (none)) else (if (bt a0 0) = 46 then (if a1 = true then (if 1 ≤ (a0.size : Int) then ((rf05_May2.f k (a0.extract 1 a0.size) false).bind fun t171 => (some t171)) else (none)) else (some false)) else (some false)))) = some r := by rw [if_neg (show ¬ (false = true) by decide)] at H; exact H
       clear H
       have H := H1
       clear H1
       replace H := Option.bind_eq_some_iff.mp H
       obtain ⟨t169, A100, H⟩ := H
       replace H : (if t169 = true then (if 3 ≤ (a0.size : Int) then ((rf05_May2.f k (a0.extract 3 a0.size) true).bind fun t170 => (some t170)) else (none)) else (if (bt a0 0) = 46 then (if a1 = true then (if 1 ≤ (a0.size : Int) then ((rf05_May2.f k (a0.extract 1 a0.size) false).bind fun t171 => (some t171)) else (none)) else (some false)) else (some false))) = some r := H
       have A10 := Aside0.mk A100
       clear A100
       by_cases c11 : t169 = true
       · subst c11
         have H1 : (if 3 ≤ (a0.size : Int) then ((rf05_May2.f k (a0.extract 3 a0.size) true).bind fun t170 => (some t170)) else (none)) = some r := by rw [if_pos rfl] at H; exact H
         clear H
         have H := H1
         clear H1
         by_cases c12 : 3 ≤ (a0.size : Int)
         · rw [if_pos c12] at H
           have c12b0 := eq_true c12
           have c12b1 : decide (3 ≤ (a0.size : Int)) = true := decide_eq_true c12
           clear c12
           replace H := Option.bind_eq_some_iff.mp H
           obtain ⟨t170, A130, H⟩ := H
           replace H : (some t170) = some r := H
           have A13 := Aside0.mk A130
           clear A130
           obtain rfl := Option.some.inj H
           have p5 : 0 ≤ (0 : Int) := (by omega)
           have q5 : 0 < a0.size := (by have : (0 : Int) < (a0.size : Int) := of_decide_eq_true (by first | (with_reducible assumption) | assumption); omega)
           have hx5 : ∀ h : 0 < a0.size, ((a0[0]'h).toNat : Int) = bt a0 0 := bt_at a0 0
           clear p5
           have qi5 : (0 < (a0.size : Int)) = True := eq_true (of_decide_eq_true (by first | (with_reducible assumption) | assumption))
           replace q5 := eq_true q5
           go_enter Tryd.func25, Tryd.ntmps25
           go_wp2_with (first | ((with_reducible refine gate_callee (f := 40) rfl ?_); refine goesL_ (some 10) rfl rfl Tryd.func40 (by kernel_rfl) rfl #[.int .u8 (bt a0 0)] rfl (by (try simp only [List.map_toArray, List.map_cons, List.map_nil]); first | done | rfl | (simp only [List.length_drop, List.length_take]; rfl)) ?_; (with_reducible refine (rf02_Word.calls (bt a0 0) false _ A6.out).mono ?_); rintro e w' ⟨rfl, ⟨nd, rfl⟩⟩; refine ⟨_, rfl, ?_⟩) | ((with_reducible refine gate_callee (f := 37) rfl ?_); refine goesL_ (some 15) rfl rfl Tryd.func37 (by kernel_rfl) rfl #[.string a0] rfl (by (try simp only [List.map_toArray, List.map_cons, List.map_nil]); first | done | rfl | (simp only [List.length_drop, List.length_take]; rfl)) ?_; (with_reducible refine (rf03_Triplet.calls a0 true _ A10.out).mono ?_); rintro e w' ⟨rfl, ⟨nd, rfl⟩⟩; refine ⟨_, rfl, ?_⟩) | ((with_reducible refine gate_callee (f := 25) rfl ?_); refine goesL_ (some 18) rfl rfl Tryd.func25 (by kernel_rfl) rfl #[.string (a0.extract 3 a0.size), .bool true] rfl (by (try simp only [List.map_toArray, List.map_cons, List.map_nil]); first | done | rfl | (simp only [List.length_drop, List.length_take]; rfl)) ?_; (with_reducible refine (ih k (by omega) (a0.extract 3 a0.size) true t170 _ A13.out).mono ?_); rintro e w' ⟨rfl, ⟨nd, rfl⟩⟩; refine ⟨_, rfl, ?_⟩))
           go_ret
           exact ⟨by first | rfl | (simp; done) | (simp [*]; done), by repeat (first | exact Drawn0.refl _ | apply Drawn0.step)⟩
         · rw [if_neg c12] at H
           exact absurd H (by simp)
       · replace c11 := Bool.eq_false_iff.mpr c11
         subst c11
         have H1 : (if (bt a0 0) = 46 then (if a1 = true then (if 1 ≤ (a0.size : Int) then ((rf05_May2.f k (a0.extract 1 a0.size) false).bind fun t171 => (some t171)) else (none)) else (some false)) else (some false)) = some r := by rw [if_neg (show ¬ (false = true) by decide)] at H; exact H
         clear H
         have H := H1
         clear H1
         by_cases c15 : (bt a0 0) = 46
         · rw [if_pos c15] at H
           have c15b0 : ((bt a0 0) == 46) = true := beq_iff_eq.mpr c15
           have c15b1 : ((bt a0 0) != 46) = false := bne_eq_false_iff_eq.mpr c15
           clear c15
           by_cases c16 : a1 = true
           · subst c16
             have H1 : (if 1 ≤ (a0.size : Int) then ((rf05_May2.f k (a0.extract 1 a0.size) false).bind fun t171 => (some t171)) else (none)) = some r := by rw [if_pos rfl] at H; exact H
             clear H
             have H := H1
             clear H1
             by_cases c17 : 1 ≤ (a0.size : Int)
             · rw [if_pos c17] at H
               have c17b0 := eq_true c17
               have c17b1 : decide (1 ≤ (a0.size : Int)) = true := decide_eq_true c17
               clear c17
               replace H := Option.bind_eq_some_iff.mp H
               obtain ⟨t171, A180, H⟩ := H
               replace H : (some t171) = some r := H
               have A18 := Aside0.mk A180
               clear A180
               obtain rfl := Option.some.inj H
               have p5 : 0 ≤ (0 : Int) := (by omega)
               have q5 : 0 < a0.size := (by have : (0 : Int) < (a0.size : Int) := of_decide_eq_true (by first | (with_reducible assumption) | assumption); omega)
               have hx5 : ∀ h : 0 < a0.size, ((a0[0]'h).toNat : Int) = bt a0 0 := bt_at a0 0
               clear p5
               have qi5 : (0 < (a0.size : Int)) = True := eq_true (of_decide_eq_true (by first | (with_reducible assumption) | assumption))
               replace q5 := eq_true q5
               go_enter Tryd.func25, Tryd.ntmps25
               go_wp2_with (first | ((with_reducible refine gate_callee (f := 40) rfl ?_); refine goesL_ (some 10) rfl rfl Tryd.func40 (by kernel_rfl) rfl #[.int .u8 (bt a0 0)] rfl (by (try simp only [List.map_toArray, List.map_cons, List.map_nil]); first | done | rfl | (simp only [List.length_drop, List.length_take]; rfl)) ?_; (with_reducible refine (rf02_Word.calls (bt a0 0) false _ A6.out).mono ?_); rintro e w' ⟨rfl, ⟨nd, rfl⟩⟩; refine ⟨_, rfl, ?_⟩) | ((with_reducible refine gate_callee (f := 37) rfl ?_); refine goesL_ (some 15) rfl rfl Tryd.func37 (by kernel_rfl) rfl #[.string a0] rfl (by (try simp only [List.map_toArray, List.map_cons, List.map_nil]); first | done | rfl | (simp only [List.length_drop, List.length_take]; rfl)) ?_; (with_reducible refine (rf03_Triplet.calls a0 false _ A10.out).mono ?_); rintro e w' ⟨rfl, ⟨nd, rfl⟩⟩; refine ⟨_, rfl, ?_⟩; have p14 : 0 ≤ (0 : Int) := (by omega); have q14 : 0 < a0.size := (by have : (0 : Int) < (a0.size : Int) := of_decide_eq_true (by first | (with_reducible assumption) | assumption); omega); have hx14 : ∀ h : 0 < a0.size, ((a0[0]'h).toNat : Int) = bt a0 0 := bt_at a0 0; clear p14; have qi14 : (0 < (a0.size : Int)) = True := eq_true (of_decide_eq_true (by first | (with_reducible assumption) | assumption)); replace q14 := eq_true q14) | (go_at_call 25; (with_reducible refine (ih k (by omega) (a0.extract 1 a0.size) false t171 _ A18.out).mono ?_); rintro e w' ⟨rfl, ⟨nd, rfl⟩⟩))
               go_ret
               exact ⟨by first | rfl | (simp; done) | (simp [*]; done), by repeat (first | exact Drawn0.refl _ | apply Drawn0.step)⟩
             · rw [if_neg c17] at H
               exact absurd H (by simp)
           · replace c16 := Bool.eq_false_iff.mpr c16
             subst c16
             have H1 : (some false) = some r := by rw [if_neg (show ¬ (false = true) by decide)] at H; exact H
             clear H
             have H := H1
             clear H1
             obtain rfl := Option.some.inj H
             have p5 : 0 ≤ (0 : Int) := (by omega)
             have q5 : 0 < a0.size := (by have : (0 : Int) < (a0.size : Int) := of_decide_eq_true (by first | (with_reducible assumption) | assumption); omega)
             have hx5 : ∀ h : 0 < a0.size, ((a0[0]'h).toNat : Int) = bt a0 0 := bt_at a0 0
             clear p5
             have qi5 : (0 < (a0.size : Int)) = True := eq_true (of_decide_eq_true (by first | (with_reducible assumption) | assumption))
             replace q5 := eq_true q5
             go_enter Tryd.func25, Tryd.ntmps25
             go_wp2_with (first | ((with_reducible refine gate_callee (f := 40) rfl ?_); refine goesL_ (some 10) rfl rfl Tryd.func40 (by kernel_rfl) rfl #[.int .u8 (bt a0 0)] rfl (by (try simp only [List.map_toArray, List.map_cons, List.map_nil]); first | done | rfl | (simp only [List.length_drop, List.length_take]; rfl)) ?_; (with_reducible refine (rf02_Word.calls (bt a0 0) false _ A6.out).mono ?_); rintro e w' ⟨rfl, ⟨nd, rfl⟩⟩; refine ⟨_, rfl, ?_⟩) | ((with_reducible refine gate_callee (f := 37) rfl ?_); refine goesL_ (some 15) rfl rfl Tryd.func37 (by kernel_rfl) rfl #[.string a0] rfl (by (try simp only [List.map_toArray, List.map_cons, List.map_nil]); first | done | rfl | (simp only [List.length_drop, List.length_take]; rfl)) ?_; (with_reducible refine (rf03_Triplet.calls a0 false _ A10.out).mono ?_); rintro e w' ⟨rfl, ⟨nd, rfl⟩⟩; refine ⟨_, rfl, ?_⟩; have p14 : 0 ≤ (0 : Int) := (by omega); have q14 : 0 < a0.size := (by have : (0 : Int) < (a0.size : Int) := of_decide_eq_true (by first | (with_reducible assumption) | assumption); omega); have hx14 : ∀ h : 0 < a0.size, ((a0[0]'h).toNat : Int) = bt a0 0 := bt_at a0 0; clear p14; have qi14 : (0 < (a0.size : Int)) = True := eq_true (of_decide_eq_true (by first | (with_reducible assumption) | assumption)); replace q14 := eq_true q14))
             go_ret
             exact ⟨by first | rfl | (simp; done) | (simp [*]; done), by repeat (first | exact Drawn0.refl _ | apply Drawn0.step)⟩
         · rw [if_neg c15] at H
           have c15b0 : ((bt a0 0) == 46) = false := beq_eq_false_iff_ne.mpr c15
           have c15b1 : ((bt a0 0) != 46) = true := bne_iff_ne.mpr c15
           obtain rfl := Option.some.inj H
           have p5 : 0 ≤ (0 : Int) := (by omega)
           have q5 : 0 < a0.size := (by have : (0 : Int) < (a0.size : Int) := of_decide_eq_true (by first | (with_reducible assumption) | assumption); omega)
           have hx5 : ∀ h : 0 < a0.size, ((a0[0]'h).toNat : Int) = bt a0 0 := bt_at a0 0
           clear p5
           have qi5 : (0 < (a0.size : Int)) = True := eq_true (of_decide_eq_true (by first | (with_reducible assumption) | assumption))
           replace q5 := eq_true q5
           go_enter Tryd.func25, Tryd.ntmps25
           go_wp2_with (first | ((with_reducible refine gate_callee (f := 40) rfl ?_); refine goesL_ (some 10) rfl rfl Tryd.func40 (by kernel_rfl) rfl #[.int .u8 (bt a0 0)] rfl (by (try simp only [List.map_toArray, List.map_cons, List.map_nil]); first | done | rfl | (simp only [List.length_drop, List.length_take]; rfl)) ?_; (with_reducible refine (rf02_Word.calls (bt a0 0) false _ A6.out).mono ?_); rintro e w' ⟨rfl, ⟨nd, rfl⟩⟩; refine ⟨_, rfl, ?_⟩) | ((with_reducible refine gate_callee (f := 37) rfl ?_); refine goesL_ (some 15) rfl rfl Tryd.func37 (by kernel_rfl) rfl #[.string a0] rfl (by (try simp only [List.map_toArray, List.map_cons, List.map_nil]); first | done | rfl | (simp only [List.length_drop, List.length_take]; rfl)) ?_; (with_reducible refine (rf03_Triplet.calls a0 false _ A10.out).mono ?_); rintro e w' ⟨rfl, ⟨nd, rfl⟩⟩; refine ⟨_, rfl, ?_⟩; have p14 : 0 ≤ (0 : Int) := (by omega); have q14 : 0 < a0.size := (by have : (0 : Int) < (a0.size : Int) := of_decide_eq_true (by first | (with_reducible assumption) | assumption); omega); have hx14 : ∀ h : 0 < a0.size, ((a0[0]'h).toNat : Int) = bt a0 0 := bt_at a0 0; clear p14; have qi14 : (0 < (a0.size : Int)) = True := eq_true (of_decide_eq_true (by first | (with_reducible assumption) | assumption)); replace q14 := eq_true q14))
           go_ret
           exact ⟨by first | rfl | (simp; done) | (simp [*]; done), by repeat (first | exact Drawn0.refl _ | apply Drawn0.step)⟩
   · rw [if_neg c4] at H
     exact absurd H (by simp)
def rf05_May.f (k : Nat) (a0 : ByteArray) : Option (Bool) := (rf05_May2.f k a0 false).bind fun t172 => (some t172)
set_option maxHeartbeats 8000000 in
set_option maxRecDepth 100000 in
theorem rf05_May.calls (k : Nat) (a0 : ByteArray) (r : Bool) (w : World) (h : rf05_May.f k a0 = some r) :
 Calls Tryd.prog 11 #[.string a0] w fun e w' => e = .returned (.bool r) ∧ Drawn0 w w' := by
 have H : ((rf05_May2.f k a0 false).bind fun t172 => (some t172)) = some r := h
 clear h
 replace H := Option.bind_eq_some_iff.mp H
 obtain ⟨t172, A20, H⟩ := H
 replace H : (some t172) = some r := H
 have A2 := Aside0.mk A20
 clear A20
 obtain rfl := Option.some.inj H
 go_enter Tryd.func11, Tryd.ntmps11
 go_wp2_with (first | ((with_reducible refine gate_callee (f := 25) rfl ?_); refine goesL_ (some 4) rfl rfl Tryd.func25 (by kernel_rfl) rfl #[.string a0, .bool false] rfl (by (try simp only [List.map_toArray, List.map_cons, List.map_nil]); first | done | rfl | (simp only [List.length_drop, List.length_take]; rfl)) ?_; (with_reducible refine (rf05_May2.calls k a0 false t172 _ A2.out).mono ?_); rintro e w' ⟨rfl, ⟨nd, rfl⟩⟩; refine ⟨_, rfl, ?_⟩))
 go_ret
 exact ⟨by first | rfl | (simp; done) | (simp [*]; done), by repeat (first | exact Drawn0.refl _ | apply Drawn0.step)⟩
end Go.Proofs.YtkipkbggnfllkaaDoor.P
end
section
namespace Go.Proofs.YtkipkbggnfllkaaDoor.P
open Go.RowKit Go.Proofs.YtkipkbggnfllkaaDoorW.PrintWords Go.Proofs.YtkipkbggnfllkaaDoorW.PrintLast Go.Proofs.YtkipkbggnfllkaaDoorW.PrintMore
set_option linter.unusedVariables false
set_option linter.unusedSimpArgs false
theorem ref_word {b : Nat} (h : b < 256) : rf02_Word.f (b : Int) = some (isWord b) := by
 have : ∀ b : Fin 256, rf02_Word.f ((b.1 : Nat) : Int) = some (isWord b.1) := by decide +kernel
 exact this ⟨b, h⟩
theorem ref_hex {b : Nat} (h : b < 256) : rf02_Hex.f (b : Int) = some (isHex b) := by
 have : ∀ b : Fin 256, rf02_Hex.f ((b.1 : Nat) : Int) = some (isHex b.1) := by decide +kernel
 exact this ⟨b, h⟩
theorem ref_trip (s : ByteArray) : rf03_Triplet.f s = some (trip (bs s)) := by
 unfold rf03_Triplet.f
 by_cases h : 3 ≤ s.size
 · obtain ⟨a, a1, a2, a3⟩ := bs_get s 0 (by omega)
   obtain ⟨b, b1, b2, b3⟩ := bs_get s 1 (by omega)
   obtain ⟨c, c1, c2, c3⟩ := bs_get s 2 (by omega)
   have e : bs s = a :: b :: c :: (bs s).drop 3 := by
    rw [← c3, ← b3, ← a3]
    rfl
   rw [e]
   have a2' : bt s 0 = (a : Int) := a2
   have b2' : bt s 1 = (b : Int) := b2
   have c2' : bt s 2 = (c : Int) := c2
   rw [if_pos (by omega), if_pos (by omega), a2', b2', c2', ref_hex b1, ref_hex c1]
   simp only [trip, Option.bind_some]
   by_cases ha : a = 37
   · rw [if_pos (by omega), if_pos (by omega)]
     subst ha
     cases hb : isHex b
     · simp
     · simp
       omega
   · rw [if_neg (by omega)]
     have : (a == 37) = false := by simpa using ha
     rw [this, Bool.false_and]
 · rw [if_neg (by omega), trip_short (by rw [bs_length]; omega)]
def nameFrom (q : Q) (l : List Nat) : Bool := match run nstep q l with
 | some q' => isN q'
 | none => false
theorem nameFrom_nd (l : List Nat) : nameFrom .nd l = nameFrom .ns l := by
 cases l with
 | nil => rfl
 | cons b r => rfl
theorem nameFrom_some {q q' : Q} {b : Nat} (h : nstep q b = some q') (r : List Nat) : nameFrom q (b :: r) = nameFrom q' r := by unfold nameFrom; rw [run_some h]
theorem nameFrom_none {q : Q} {b : Nat} (h : nstep q b = none) (r : List Nat) : nameFrom q (b :: r) = false := by unfold nameFrom; rw [run_none h]
theorem trip_name {q : Q} (hq : q = .n ∨ q = .ns) {b : Nat} {r : List Nat} (h : trip (b :: r) = true) : nameFrom q (b :: r) = nameFrom .n (r.drop 2) := by
 match r, h with
 | [], h => cases h
 | [_], h => cases h
 | c :: d :: r, h =>
  simp only [trip, Bool.and_eq_true, beq_iff_eq] at h
  obtain ⟨rfl, hc, hd⟩ := h
  have hw : isWord 37 = false := by decide
  have s1 : nstep q 37 = some .np1 := by rcases hq with rfl | rfl <;> simp [nstep, nsStep, hw]
  have s2 : nstep .np1 c = some .np2 := by simp only [nstep]; rw [if_pos hc]
  have s3 : nstep .np2 d = some .n := by simp only [nstep]; rw [if_pos hd]
  rw [nameFrom_some s1, nameFrom_some s2, nameFrom_some s3]
  rfl
theorem trip_none {q : Q} (hq : q = .n ∨ q = .ns) {r : List Nat} (h : trip (37 :: r) = false) : nameFrom q (37 :: r) = false := by
 have hw : isWord 37 = false := by decide
 have s1 : nstep q 37 = some .np1 := by rcases hq with rfl | rfl <;> simp [nstep, nsStep, hw]
 rw [nameFrom_some s1]
 match r, h with
 | [], _ => rfl
 | [c], _ =>
  by_cases hc : isHex c = true
  · rw [nameFrom_some (q' := .np2) (by simp only [nstep]; rw [if_pos hc])]
    rfl
  · rw [nameFrom_none (by simp only [nstep]; rw [if_neg hc])]
 | c :: d :: r, h =>
  by_cases hc : isHex c = true
  · rw [nameFrom_some (q' := .np2) (by simp only [nstep]; rw [if_pos hc])]
    rw [nameFrom_none]
    simp only [nstep]
    rw [if_neg]
    intro hd
    simp [trip, hc, hd] at h
  · rw [nameFrom_none (by simp only [nstep]; rw [if_neg hc])]
theorem bs_drop3 (s : ByteArray) {b : Nat} {r : List Nat} (h : bs s = b :: r) : bs (s.extract 3 s.size) = r.drop 2 := by
 rw [bs_from, h]
 rfl
theorem ref_may2 : ∀ (n : Nat) (s : ByteArray) (v : Bool), s.size ≤ n → Ev (fun k => rf05_May2.f k s v) (nameFrom (if v = true then .n else .ns) (bs s)) := by
 intro n
 induction n with
 | zero =>
  intro s v h
  rcases bs_cases s with ⟨-, h2, h3⟩ | ⟨b, r, -, -, -, h4, -⟩
  · refine Ev.step (f := fun _ => some v) (fun k => by simp only [rf05_May2.f]; rw [if_pos h3]) ?_
    rw [h2]
    cases v <;> exact Ev.now _
  · omega
 | succ n ih =>
  intro s v h
  rcases bs_cases s with ⟨-, h2, h3⟩ | ⟨b, r, hb, h2, h3, h4, h5, h6, h7⟩
  · refine Ev.step (f := fun _ => some v) (fun k => by simp only [rf05_May2.f]; rw [if_pos h3]) ?_
    rw [h2]
    cases v <;> exact Ev.now _
  · rw [h2]
    have hq : (if v = true then Q.n else Q.ns) = .n ∨ (if v = true then Q.n else Q.ns) = .ns := by cases v <;> simp
    have hsz : (s.extract 1 s.size).size ≤ n := by rw [bs_size_from]; omega
    by_cases hw : isWord b = true
    · refine Ev.step (f := fun k => (rf05_May2.f k (s.extract 1 s.size) true).bind fun t => some t) (fun k => ?_) ?_
      · simp only [rf05_May2.f]
        rw [if_neg h6, if_pos (by omega), h3, ref_word hb, hw]
        simp only [Option.bind_some, if_true]
        rw [if_pos (by omega)]
      · have := ih (s.extract 1 s.size) true hsz
        rw [h5] at this
        rw [nameFrom_some (q' := .n)]
        · exact this.bind (Ev.now _)
        · cases v <;> simp [nstep, nsStep, hw]
    by_cases ht : trip (b :: r) = true
    · refine Ev.step (f := fun k => (rf05_May2.f k (s.extract 3 s.size) true).bind fun t => some t) (fun k => ?_) ?_
      · simp only [rf05_May2.f]
        have : 3 ≤ s.size := by
         refine Classical.byContradiction fun g => ?_
         rw [trip_short (by rw [List.length_cons]; omega)] at ht
         cases ht
        have hw' : isWord b = false := by simpa using hw
        rw [if_neg h6, if_pos (by omega), h3, ref_word hb, ref_trip, h2, ht, hw']
        simp only [Option.bind_some, if_true, Bool.false_eq_true, if_false]
        rw [if_pos (by omega)]
      · have := ih (s.extract 3 s.size) true (by rw [bs_size_from]; omega)
        rw [bs_drop3 s h2] at this
        rw [trip_name hq ht]
        exact this.bind (Ev.now _)
    have ht' : trip (b :: r) = false := by simpa using ht
    have hw' : isWord b = false := by simpa using hw
    by_cases hd : b = 46
    · cases v with
      | false =>
       refine Ev.step (f := fun k => some false) (fun k => ?_) ?_
       · simp only [rf05_May2.f]
         rw [if_neg h6, if_pos (by omega), h3, ref_word hb, ref_trip, h2, ht', hw']
         simp only [Option.bind_some]
         rw [if_neg (by simp), if_neg (by simp), if_pos (by omega), if_neg (by simp)]
       · rw [nameFrom_none]
         · exact Ev.now _
         · subst hd
           simp [nstep, nsStep, hw']
      | true =>
       refine Ev.step (f := fun k => (rf05_May2.f k (s.extract 1 s.size) false).bind fun t => some t) (fun k => ?_) ?_
       · simp only [rf05_May2.f]
         rw [if_neg h6, if_pos (by omega), h3, ref_word hb, ref_trip, h2, ht', hw']
         simp only [Option.bind_some]
         rw [if_neg (by simp), if_neg (by simp), if_pos (by omega), if_pos trivial, if_pos (by omega)]
       · have := ih (s.extract 1 s.size) false hsz
         rw [h5] at this
         rw [nameFrom_some (q' := .nd), nameFrom_nd]
         · exact this.bind (Ev.now _)
         · subst hd
           simp [nstep, hw']
    · refine Ev.step (f := fun k => some false) (fun k => ?_) ?_
      · simp only [rf05_May2.f]
        rw [if_neg h6, if_pos (by omega), h3, ref_word hb, ref_trip, h2, ht', hw']
        simp only [Option.bind_some]
        rw [if_neg (by simp), if_neg (by simp), if_neg (by omega)]
      · by_cases h37 : b = 37
        · subst h37
          rw [trip_none hq ht']
          exact Ev.now _
        · rw [nameFrom_none]
          · exact Ev.now _
          · cases v <;> simp [nstep, nsStep, hw', h37, hd]
theorem ref_may (s : ByteArray) : Ev (fun k => rf05_May.f k s) (nameFrom .ns (bs s)) :=
 (ref_may2 s.size s false (Nat.le_refl _)).bind (Ev.now _)
end Go.Proofs.YtkipkbggnfllkaaDoor.P
end
section
namespace Go.Proofs.YtkipkbggnfllkaaDoor.P
open Go.RowKit Go.Proofs.YtkipkbggnfllkaaDoorW.PrintWords Go.Proofs.YtkipkbggnfllkaaDoorW.PrintLast Go.Proofs.YtkipkbggnfllkaaDoorW.PrintMore
attribute [local go_sem] max2_int min2_int max_two min_two max_three min_three max_four min_four
set_option linter.unusedVariables false
set_option linter.unusedSimpArgs false
def rf02_In.l0 : Nat → ByteArray → Int → Int → Option (Bool)
 | 0, _, _, _ => none
 | k + 1, x0, x1, x5 => if x5 < (x0.size : Int) then (if 0 ≤ x5 then (if (bt x0 x5) = x1 then (some true) else (rf02_In.l0 k x0 x1 (wrap64 (x5 + 1)))) else (none)) else (some false)
def rf02_In.f (k : Nat) (a0 : ByteArray) (a1 : Int) : Option (Bool) := rf02_In.l0 k a0 a1 0
theorem rf02_In.mono_l : ∀ k, (∀ y0 y1 y2, LeO (rf02_In.l0 k y0 y1 y2) (rf02_In.l0 (k + 1) y0 y1 y2))
 | 0 => fun _ _ _ r h => by simp [rf02_In.l0] at h
 | k + 1 => by
  have ih0 := rf02_In.mono_l k
  · intro y0 y1 y2
    unfold rf02_In.l0
    repeat' first
    | (with_reducible exact ih0 _ _ _)
    | (with_reducible exact LeO.refl _)
    | (with_reducible exact LeO.none _)
    | (with_reducible refine LeO.ite ?_ ?_)
    | (with_reducible refine LeO.bind ?_ (fun _ => ?_))
    | exact ih0 _ _ _
    | exact LeO.none _
    | refine LeO.ite ?_ ?_
    | refine LeO.bind ?_ (fun _ => ?_)
theorem rf02_In.mono : ∀ a0 a1 k, LeO (rf02_In.f k a0 a1) (rf02_In.f (k + 1) a0 a1) := by
 intro a0 a1 k
 have ih0 := rf02_In.mono_l k
 unfold rf02_In.f
 repeat' first
  | (with_reducible exact ih0 _ _ _)
  | (with_reducible exact LeO.refl _)
  | (with_reducible exact LeO.none _)
  | (with_reducible refine LeO.ite ?_ ?_)
  | (with_reducible refine LeO.bind ?_ (fun _ => ?_))
  | exact ih0 _ _ _
  | exact LeO.none _
  | refine LeO.ite ?_ ?_
  | refine LeO.bind ?_ (fun _ => ?_)
set_option maxHeartbeats 8000000 in
set_option maxRecDepth 100000 in
theorem rf02_In.calls (k : Nat) (a0 : ByteArray) (a1 : Int) (r : Bool) (w : World) (h : rf02_In.f k a0 a1 = some r) :
 Calls Tryd.prog 52 #[.string a0, .int .u8 a1] w fun e w' => e = .returned (.bool r) ∧ Drawn0 w w' := by
 have H : (rf02_In.l0 k a0 a1 0) = some r := h
 clear h
 have H' := Aside0.mk H
 clear H
 go_enter Tryd.func52, Tryd.ntmps52
 go_wp2
 go_loopg [5] k (fun kq v5 w' => ∃ (x5_1 : Int), v5 = .int .i64 x5_1 ∧ Aside0 (rf02_In.l0 kq a0 a1 x5_1 = some r) ∧ Aside0 (kq ≤ k) ∧ Drawn0 w w')
 case atStart => exact ⟨(0), (by first | rfl | (simp; done) | (simp [*]; done)), H', ⟨Nat.le_refl _⟩, by repeat (first | exact Drawn0.refl _ | apply Drawn0.step)⟩
 case round =>
  clear H'
  try clear p2
  obtain ⟨x5_1, rfl, HA, HK1, ⟨m1, rfl⟩⟩ := hrel
  cases gk with
  | zero => exact absurd HA.out (by simp [rf02_In.l0])
  | succ k1 =>
   have H := HA.out
   clear HA
   simp only [rf02_In.l0] at H
   by_cases c3 : x5_1 < (a0.size : Int)
   · rw [if_pos c3] at H
     have c3b0 : decide (x5_1 < (a0.size : Int)) = true := decide_eq_true c3
     clear c3
     by_cases c4 : 0 ≤ x5_1
     · rw [if_pos c4] at H
       have c4b0 : decide (0 ≤ x5_1) = true := decide_eq_true c4
       clear c4
       by_cases c6 : (bt a0 x5_1) = a1
       · rw [if_pos c6] at H
         have c6b0 : ((bt a0 x5_1) == a1) = true := beq_iff_eq.mpr c6
         have c6b1 : ((bt a0 x5_1) != a1) = false := bne_eq_false_iff_eq.mpr c6
         clear c6
         obtain rfl := Option.some.inj H
         have p5 : 0 ≤ (x5_1 : Int) := of_decide_eq_true (by first | (with_reducible assumption) | assumption)
         have q5 : x5_1 < (a0.size : Int) := of_decide_eq_true (by first | (with_reducible assumption) | assumption)
         have hx5 := bt_at a0 x5_1
         replace p5 := eq_true p5
         replace q5 := eq_true q5
         go_wp2
         go_ret
         exact ⟨by first | rfl | (simp; done) | (simp [*]; done), by repeat (first | exact Drawn0.refl _ | apply Drawn0.step)⟩
       · rw [if_neg c6] at H
         have c6b0 : ((bt a0 x5_1) == a1) = false := beq_eq_false_iff_ne.mpr c6
         have c6b1 : ((bt a0 x5_1) != a1) = true := bne_iff_ne.mpr c6
         have H' := Aside0.mk H
         clear H
         have p5 : 0 ≤ (x5_1 : Int) := of_decide_eq_true (by first | (with_reducible assumption) | assumption)
         have q5 : x5_1 < (a0.size : Int) := of_decide_eq_true (by first | (with_reducible assumption) | assumption)
         have hx5 := bt_at a0 x5_1
         replace p5 := eq_true p5
         replace q5 := eq_true q5
         go_wp2
         go_roundg k1
         case measure => have := HK1.out; omega
         case rel => exact ⟨(wrap64 (x5_1 + 1)), (by first | rfl | (simp; done) | (simp [*]; done)), H', ⟨by have := HK1.out; omega⟩, by repeat (first | exact Drawn0.refl _ | apply Drawn0.step)⟩
     · rw [if_neg c4] at H
       exact absurd H (by simp)
   · rw [if_neg c3] at H
     have c3b0 : decide (x5_1 < (a0.size : Int)) = false := decide_eq_false c3
     clear c3
     obtain rfl := Option.some.inj H
     go_wp2
     go_ret
     exact ⟨by first | rfl | (simp; done) | (simp [*]; done), by repeat (first | exact Drawn0.refl _ | apply Drawn0.step)⟩
def rf02_Literal.f (k : Nat) (a0 : Int) : Option (Bool) := if a0 ≥ 33 then (if a0 ≤ 126 then ((rf02_In.f k (⟨#[34, 39, 37, 60, 62, 92, 94, 96, 123, 124, 125]⟩ : ByteArray) a0).bind fun t132 => (some (!t132))) else (some false)) else (some false)
theorem rf02_Literal.mono : ∀ a0 k, LeO (rf02_Literal.f k a0) (rf02_Literal.f (k + 1) a0) := by
 intro a0 k
 unfold rf02_Literal.f
 repeat' first
  | (with_reducible exact rf02_In.mono _ _ _)
  | (with_reducible exact LeO.refl _)
  | (with_reducible exact LeO.none _)
  | (with_reducible refine LeO.ite ?_ ?_)
  | (with_reducible refine LeO.bind ?_ (fun _ => ?_))
  | exact rf02_In.mono _ _ _
  | exact LeO.none _
  | refine LeO.ite ?_ ?_
  | refine LeO.bind ?_ (fun _ => ?_)
set_option maxHeartbeats 8000000 in
set_option maxRecDepth 100000 in
theorem rf02_Literal.calls (k : Nat) (a0 : Int) (r : Bool) (w : World) (h : rf02_Literal.f k a0 = some r) :
 Calls Tryd.prog 36 #[.int .u8 a0] w fun e w' => e = .returned (.bool r) ∧ Drawn0 w w' := by
 have H : (if a0 ≥ 33 then (if a0 ≤ 126 then ((rf02_In.f k (⟨#[34, 39, 37, 60, 62, 92, 94, 96, 123, 124, 125]⟩ : ByteArray) a0).bind fun t132 => (some (!t132))) else (some false)) else (some false)) = some r := h
 clear h
 by_cases c2 : a0 ≥ 33
 · rw [if_pos c2] at H
   have c2b0 : decide (33 ≤ a0) = true := decide_eq_true c2
   clear c2
   by_cases c3 : a0 ≤ 126
   · rw [if_pos c3] at H
     have c3b0 : decide (a0 ≤ 126) = true := decide_eq_true c3
     clear c3
     replace H := Option.bind_eq_some_iff.mp H
     obtain ⟨t132, A40, H⟩ := H
     replace H : (some (!t132)) = some r := H
     have A4 := Aside0.mk A40
     clear A40
     obtain rfl := Option.some.inj H
     go_enter Tryd.func36, Tryd.ntmps36
     go_wp2_with (first | (go_at_call 52; (with_reducible refine (rf02_In.calls k (⟨#[34, 39, 37, 60, 62, 92, 94, 96, 123, 124, 125]⟩ : ByteArray) a0 t132 _ A4.out).mono ?_); rintro e w' ⟨rfl, ⟨nd, rfl⟩⟩))
     go_ret
     exact ⟨by first | rfl | (simp; done) | (simp [*]; done), by repeat (first | exact Drawn0.refl _ | apply Drawn0.step)⟩
   · rw [if_neg c3] at H
     have c3b0 : decide (a0 ≤ 126) = false := decide_eq_false c3
     clear c3
     obtain rfl := Option.some.inj H
     go_enter Tryd.func36, Tryd.ntmps36
     go_wp2
     go_ret
     exact ⟨by first | rfl | (simp; done) | (simp [*]; done), by repeat (first | exact Drawn0.refl _ | apply Drawn0.step)⟩
 · rw [if_neg c2] at H
   have c2b0 : decide (33 ≤ a0) = false := decide_eq_false c2
   clear c2
   obtain rfl := Option.some.inj H
   go_enter Tryd.func36, Tryd.ntmps36
   go_wp2
   go_ret
   exact ⟨by first | rfl | (simp; done) | (simp [*]; done), by repeat (first | exact Drawn0.refl _ | apply Drawn0.step)⟩
end Go.Proofs.YtkipkbggnfllkaaDoor.P
end
section
namespace Go.Proofs.YtkipkbggnfllkaaDoor.P
open Go.RowKit Go.Proofs.YtkipkbggnfllkaaDoorW.PrintWords Go.Proofs.YtkipkbggnfllkaaDoorW.PrintLast Go.Proofs.YtkipkbggnfllkaaDoorW.PrintMore
set_option linter.unusedVariables false
set_option linter.unusedSimpArgs false
theorem ref_lit {b : Nat} (h : b < 256) : Ev (fun k => rf02_Literal.f k (b : Int)) (isLit b) := by
 have : ∀ b : Fin 256, rf02_Literal.f 20 ((b.1 : Nat) : Int) = some (isLit b.1) := by decide +kernel
 exact Ev.of (fun k => rf02_Literal.mono _ k) (this ⟨b, h⟩)
end Go.Proofs.YtkipkbggnfllkaaDoor.P
end
section
namespace Go.Proofs.YtkipkbggnfllkaaDoor.P
open Go.RowKit Go.Proofs.YtkipkbggnfllkaaDoorW.PrintWords Go.Proofs.YtkipkbggnfllkaaDoorW.PrintLast Go.Proofs.YtkipkbggnfllkaaDoorW.PrintMore
attribute [local go_sem] max2_int min2_int max_two min_two max_three min_three max_four min_four
set_option linter.unusedVariables false
set_option linter.unusedSimpArgs false
def rf01_May.f (a0 : Int) : Option (Bool) := if a0 ≥ 0 then (if a0 ≤ 1114111 then (if a0 < 55296 then (some true) else (some (decide (a0 > 57343)))) else (some false)) else (some false)
set_option maxHeartbeats 8000000 in
set_option maxRecDepth 100000 in
theorem rf01_May.calls (a0 : Int) (r : Bool) (w : World) (h : rf01_May.f a0 = some r) :
 Calls Tryd.prog 75 #[.int .i64 a0] w fun e w' => e = .returned (.bool r) ∧ Drawn0 w w' := by
 have H : (if a0 ≥ 0 then (if a0 ≤ 1114111 then (if a0 < 55296 then (some true) else (some (decide (a0 > 57343)))) else (some false)) else (some false)) = some r := h
 clear h
 by_cases c2 : a0 ≥ 0
 · rw [if_pos c2] at H
   have c2b0 : decide (0 ≤ a0) = true := decide_eq_true c2
   clear c2
   by_cases c3 : a0 ≤ 1114111
   · rw [if_pos c3] at H
     have c3b0 : decide (a0 ≤ 1114111) = true := decide_eq_true c3
     clear c3
     by_cases c4 : a0 < 55296
     · rw [if_pos c4] at H
       have c4b0 : decide (a0 < 55296) = true := decide_eq_true c4
       clear c4
       obtain rfl := Option.some.inj H
       go_enter Tryd.func75, Tryd.ntmps75
       go_wp2
       go_ret
       exact ⟨by first | rfl | (simp; done) | (simp [*]; done), by repeat (first | exact Drawn0.refl _ | apply Drawn0.step)⟩
     · rw [if_neg c4] at H
       have c4b0 : decide (a0 < 55296) = false := decide_eq_false c4
       clear c4
       obtain rfl := Option.some.inj H
       go_enter Tryd.func75, Tryd.ntmps75
       go_wp2
       go_ret
       exact ⟨by first | rfl | (simp; done) | (simp [*]; done), by repeat (first | exact Drawn0.refl _ | apply Drawn0.step)⟩
   · rw [if_neg c3] at H
     have c3b0 : decide (a0 ≤ 1114111) = false := decide_eq_false c3
     clear c3
     obtain rfl := Option.some.inj H
     go_enter Tryd.func75, Tryd.ntmps75
     go_wp2
     go_ret
     exact ⟨by first | rfl | (simp; done) | (simp [*]; done), by repeat (first | exact Drawn0.refl _ | apply Drawn0.step)⟩
 · rw [if_neg c2] at H
   have c2b0 : decide (0 ≤ a0) = false := decide_eq_false c2
   clear c2
   obtain rfl := Option.some.inj H
   go_enter Tryd.func75, Tryd.ntmps75
   go_wp2
   go_ret
   exact ⟨by first | rfl | (simp; done) | (simp [*]; done), by repeat (first | exact Drawn0.refl _ | apply Drawn0.step)⟩
def rf01_tail.l0 : Nat → Int → Int → Int → Option (Int)
 | 0, _, _, _ => none
 | k + 1, x0, x1, x5 => if x5 < x1 then (rf01_tail.l0 k (wrap64 (Int.tdiv x0 64)) x1 (wrap64 (x5 + 1))) else (some ((wrap64 (128 + (Int.tmod x0 64))) % 256))
def rf01_tail.f (k : Nat) (a0 : Int) (a1 : Int) : Option (Int) := rf01_tail.l0 k a0 a1 0
set_option maxHeartbeats 8000000 in
set_option maxRecDepth 100000 in
theorem rf01_tail.calls (k : Nat) (a0 : Int) (a1 : Int) (r : Int) (w : World) (h : rf01_tail.f k a0 a1 = some r) :
 Calls Tryd.prog 90 #[.int .i64 a0, .int .i64 a1] w fun e w' => e = .returned (.int .u8 r) ∧ Drawn0 w w' := by
 have H : (rf01_tail.l0 k a0 a1 0) = some r := h
 clear h
 have H' := Aside0.mk H
 clear H
 go_enter Tryd.func90, Tryd.ntmps90
 go_wp2
 go_loopg [0, 5] k (fun kq v0 v5 w' => ∃ (x0_1 : Int) (x5_1 : Int), v0 = .int .i64 x0_1 ∧ v5 = .int .i64 x5_1 ∧ Aside0 (rf01_tail.l0 kq x0_1 a1 x5_1 = some r) ∧ Aside0 (kq ≤ k) ∧ Drawn0 w w')
 case atStart => exact ⟨(a0), (0), (by first | rfl | (simp; done) | (simp [*]; done)), (by first | rfl | (simp; done) | (simp [*]; done)), H', ⟨Nat.le_refl _⟩, by repeat (first | exact Drawn0.refl _ | apply Drawn0.step)⟩
 case round =>
  clear H'
  try clear p2
  obtain ⟨x0_1, x5_1, rfl, rfl, HA, HK1, ⟨m1, rfl⟩⟩ := hrel
  cases gk with
  | zero => exact absurd HA.out (by simp [rf01_tail.l0])
  | succ k1 =>
   have H := HA.out
   clear HA
   simp only [rf01_tail.l0] at H
   by_cases c3 : x5_1 < a1
   · rw [if_pos c3] at H
     have c3b0 : decide (x5_1 < a1) = true := decide_eq_true c3
     clear c3
     have H' := Aside0.mk H
     clear H
     go_wp2
     go_roundg k1
     case measure => have := HK1.out; omega
     case rel => exact ⟨(wrap64 (Int.tdiv x0_1 64)), (wrap64 (x5_1 + 1)), (by first | rfl | (simp; done) | (simp [*]; done)), (by first | rfl | (simp; done) | (simp [*]; done)), H', ⟨by have := HK1.out; omega⟩, by repeat (first | exact Drawn0.refl _ | apply Drawn0.step)⟩
   · rw [if_neg c3] at H
     have c3b0 : decide (x5_1 < a1) = false := decide_eq_false c3
     clear c3
     obtain rfl := Option.some.inj H
     go_wp2
     go_ret
     exact ⟨by first | rfl | (simp; done) | (simp [*]; done), by repeat (first | exact Drawn0.refl _ | apply Drawn0.step)⟩
def rf01_One.f (k : Nat) (a0 : Int) : Option (ByteArray) := if a0 < 128 then (some (strOfNums (([(a0) % 256] : List Int)))) else (if a0 < 2048 then ((rf01_tail.f k a0 0).bind fun t139 => (some (strOfNums (([(wrap64 (192 + (wrap64 (Int.tdiv a0 64)))) % 256, t139] : List Int))))) else (if a0 < 65536 then ((rf01_tail.f k a0 1).bind fun t143 => ((rf01_tail.f k a0 0).bind fun t144 => (some (strOfNums (([(wrap64 (224 + (wrap64 (Int.tdiv a0 4096)))) % 256, t143, t144] : List Int)))))) else ((rf01_tail.f k a0 2).bind fun t148 => ((rf01_tail.f k a0 1).bind fun t149 => ((rf01_tail.f k a0 0).bind fun t150 => (some (strOfNums (([(wrap64 (240 + (wrap64 (Int.tdiv a0 262144)))) % 256, t148, t149, t150] : List Int)))))))))
set_option maxHeartbeats 8000000 in
set_option maxRecDepth 100000 in
theorem rf01_One.calls (k : Nat) (a0 : Int) (r : ByteArray) (w : World) (h : rf01_One.f k a0 = some r) :
 Calls Tryd.prog 76 #[.int .i64 a0] w fun e w' => e = .returned (.string r) ∧ Below w.heap.size w w' := by
 have HB := Aside0.mk (Below.refl w.heap.size w)
 have H : (if a0 < 128 then (some (strOfNums (([(a0) % 256] : List Int)))) else (if a0 < 2048 then ((rf01_tail.f k a0 0).bind fun t139 => (some (strOfNums (([(wrap64 (192 + (wrap64 (Int.tdiv a0 64)))) % 256, t139] : List Int))))) else (if a0 < 65536 then ((rf01_tail.f k a0 1).bind fun t143 => ((rf01_tail.f k a0 0).bind fun t144 => (some (strOfNums (([(wrap64 (224 + (wrap64 (Int.tdiv a0 4096)))) % 256, t143, t144] : List Int)))))) else ((rf01_tail.f k a0 2).bind fun t148 => ((rf01_tail.f k a0 1).bind fun t149 => ((rf01_tail.f k a0 0).bind fun t150 => (some (strOfNums (([(wrap64 (240 + (wrap64 (Int.tdiv a0 262144)))) % 256, t148, t149, t150] : List Int)))))))))) = some r := h
 clear h
 by_cases c2 : a0 < 128
 · rw [if_pos c2] at H
   have c2b0 : decide (a0 < 128) = true := decide_eq_true c2
   clear c2
   obtain ⟨y136, hy136⟩ : ∃ y_ : List Int, y_ = (([(a0) % 256] : List Int)) := ⟨_, rfl⟩
   replace H : (some (strOfNums y136)) = some r := by first | (rw [hy136]; with_reducible exact H) | (have H2_ := (Option.bind_some _ _).symm.trans H; rw [hy136]; with_reducible exact H2_) | (have H2_ := (Option.bind_some _ _).symm.trans H; with_reducible exact H2_) | with_reducible exact H | (rw [hy136]; exact H) | exact H
   have Ny136 := Aside0.mk hy136
   clear hy136
   obtain rfl := Option.some.inj H
   go_enter Tryd.func76, Tryd.ntmps76
   go_wp2_with (first | ((with_reducible refine gate_dst (N := 7) rfl ?_); refine Kd.R_lit (Kd.int .u8) _ 5 ?hg (N := 7) ?hd (xs := ([(a0) % 256] : List Int)) (inner := [.int .u8 ((a0) % 256)]) (ok := fun _ => True) (okp := fun _ => True) ?hr ?hp (fun _ hk => hk) trivial (Below.refl _ _) (Nat.le_refl _) (by simp) ?_; (case hd => rfl); (case hg => rfl); (case hr => first | (go_simp; done) | (go_simp; rfl)); (case hp => exact (Reps.one (show Kd.M (Kd.int .u8) _ _ _ ((a0) % 256) [.int .u8 ((a0) % 256)] from rfl) (Reps.none _ _))); intro v137 w3 ho4 hb hg_ hnew_; clear hg_ hnew_; (first | rw [← Ny136.out] at ho4 | (simp only [Int.reduceToNat] at ho4; rw [← Ny136.out] at ho4)); have n0_ := Aside0.mk (Kd.R_lower ho4 (below_size (by repeat (first | (with_reducible first | exact HB.out | apply below_alloc | apply pw_below_drewN | apply below_drew1) | exact HB.out)))); have n1_ := Aside0.mk (below_step (by repeat (first | (with_reducible first | exact HB.out | apply below_alloc | apply pw_below_drewN | apply below_drew1) | exact HB.out)) hb); clear HB; have HO138 := n0_; have HB := n1_; clear n0_ n1_; clear hb ho4; have hcv5 := own_string (P := Tryd.prog) Tryd.underlying29 Tryd.underlying5 Tryd.underlying9 (Kd.own_of_R HO138.out)))
   go_ret
   exact ⟨by first | rfl | (simp [errW_none, errW_some] <;> rfl) | (simp [*, errW_none, errW_some] <;> rfl), by repeat (first | (with_reducible first | exact HB.out | apply below_alloc | apply pw_below_drewN | apply below_drew1) | exact HB.out)⟩
 · rw [if_neg c2] at H
   have c2b0 : decide (a0 < 128) = false := decide_eq_false c2
   clear c2
   by_cases c6 : a0 < 2048
   · rw [if_pos c6] at H
     have c6b0 : decide (a0 < 2048) = true := decide_eq_true c6
     clear c6
     replace H := Option.bind_eq_some_iff.mp H
     obtain ⟨t139, A70, H⟩ := H
     replace H : (some (strOfNums (([(wrap64 (192 + (wrap64 (Int.tdiv a0 64)))) % 256, t139] : List Int)))) = some r := H
     have A7 := Aside0.mk A70
     clear A70
     obtain ⟨y140, hy140⟩ : ∃ y_ : List Int, y_ = (([(wrap64 (192 + (wrap64 (Int.tdiv a0 64)))) % 256, t139] : List Int)) := ⟨_, rfl⟩
     replace H : (some (strOfNums y140)) = some r := by first | (rw [hy140]; with_reducible exact H) | (have H2_ := (Option.bind_some _ _).symm.trans H; rw [hy140]; with_reducible exact H2_) | (have H2_ := (Option.bind_some _ _).symm.trans H; with_reducible exact H2_) | with_reducible exact H | (rw [hy140]; exact H) | exact H
     have Ny140 := Aside0.mk hy140
     clear hy140
     obtain rfl := Option.some.inj H
     go_enter Tryd.func76, Tryd.ntmps76
     go_wp2_with (first | ((with_reducible refine gate_callee (f := 90) rfl ?_); refine goesL_ (some 16) rfl rfl Tryd.func90 (by kernel_rfl) rfl #[.int .i64 a0, .int .i64 0] rfl (by (try simp only [List.map_toArray, List.map_cons, List.map_nil]); first | done | rfl | (simp only [List.length_drop, List.length_take]; rfl)) ?_; (with_reducible refine (rf01_tail.calls k a0 0 t139 _ A7.out).mono ?_); rintro e w' ⟨rfl, ⟨nd, rfl⟩⟩; refine ⟨_, rfl, ?_⟩) | ((with_reducible refine gate_dst (N := 17) rfl ?_); refine Kd.R_lit (Kd.int .u8) _ 5 ?hg (N := 17) ?hd (xs := ([(wrap64 (192 + (wrap64 (Int.tdiv a0 64)))) % 256, t139] : List Int)) (inner := [.int .u8 ((wrap64 (192 + (wrap64 (Int.tdiv a0 64)))) % 256), .int .u8 t139]) (ok := fun _ => True) (okp := fun _ => True) ?hr ?hp (fun _ hk => hk) trivial (Below.refl _ _) (Nat.le_refl _) (by simp) ?_; (case hd => rfl); (case hg => rfl); (case hr => first | (go_simp; done) | (go_simp; rfl)); (case hp => exact (Reps.one (show Kd.M (Kd.int .u8) _ _ _ ((wrap64 (192 + (wrap64 (Int.tdiv a0 64)))) % 256) [.int .u8 ((wrap64 (192 + (wrap64 (Int.tdiv a0 64)))) % 256)] from rfl) (Reps.one (show Kd.M (Kd.int .u8) _ _ _ t139 [.int .u8 t139] from rfl) (Reps.none _ _)))); intro v141 w8 ho9 hb hg_ hnew_; clear hg_ hnew_; (first | rw [← Ny140.out] at ho9 | (simp only [Int.reduceToNat] at ho9; rw [← Ny140.out] at ho9)); have n0_ := Aside0.mk (Kd.R_lower ho9 (below_size (by repeat (first | (with_reducible first | exact HB.out | apply below_alloc | apply pw_below_drewN | apply below_drew1) | exact HB.out)))); have n1_ := Aside0.mk (below_step (by repeat (first | (with_reducible first | exact HB.out | apply below_alloc | apply pw_below_drewN | apply below_drew1) | exact HB.out)) hb); clear HB; have HO142 := n0_; have HB := n1_; clear n0_ n1_; clear hb ho9; have hcv10 := own_string (P := Tryd.prog) Tryd.underlying29 Tryd.underlying5 Tryd.underlying9 (Kd.own_of_R HO142.out)))
     go_ret
     exact ⟨by first | rfl | (simp [errW_none, errW_some] <;> rfl) | (simp [*, errW_none, errW_some] <;> rfl), by repeat (first | (with_reducible first | exact HB.out | apply below_alloc | apply pw_below_drewN | apply below_drew1) | exact HB.out)⟩
   · rw [if_neg c6] at H
     have c6b0 : decide (a0 < 2048) = false := decide_eq_false c6
     clear c6
     by_cases c11 : a0 < 65536
     · rw [if_pos c11] at H
       have c11b0 : decide (a0 < 65536) = true := decide_eq_true c11
       clear c11
       replace H := Option.bind_eq_some_iff.mp H
       obtain ⟨t143, A120, H⟩ := H
       replace H : ((rf01_tail.f k a0 0).bind fun t144 => (some (strOfNums (([(wrap64 (224 + (wrap64 (Int.tdiv a0 4096)))) % 256, t143, t144] : List Int))))) = some r := H
       have A12 := Aside0.mk A120
       clear A120
       replace H := Option.bind_eq_some_iff.mp H
       obtain ⟨t144, A130, H⟩ := H
       replace H : (some (strOfNums (([(wrap64 (224 + (wrap64 (Int.tdiv a0 4096)))) % 256, t143, t144] : List Int)))) = some r := H
       have A13 := Aside0.mk A130
       clear A130
       obtain ⟨y145, hy145⟩ : ∃ y_ : List Int, y_ = (([(wrap64 (224 + (wrap64 (Int.tdiv a0 4096)))) % 256, t143, t144] : List Int)) := ⟨_, rfl⟩
       replace H : (some (strOfNums y145)) = some r := by first | (rw [hy145]; with_reducible exact H) | (have H2_ := (Option.bind_some _ _).symm.trans H; rw [hy145]; with_reducible exact H2_) | (have H2_ := (Option.bind_some _ _).symm.trans H; with_reducible exact H2_) | with_reducible exact H | (rw [hy145]; exact H) | exact H
       have Ny145 := Aside0.mk hy145
       clear hy145
       obtain rfl := Option.some.inj H
       go_enter Tryd.func76, Tryd.ntmps76
       go_wp2_with (first | ((with_reducible refine gate_callee (f := 90) rfl ?_); refine goesL_ (some 26) rfl rfl Tryd.func90 (by kernel_rfl) rfl #[.int .i64 a0, .int .i64 1] rfl (by (try simp only [List.map_toArray, List.map_cons, List.map_nil]); first | done | rfl | (simp only [List.length_drop, List.length_take]; rfl)) ?_; (with_reducible refine (rf01_tail.calls k a0 1 t143 _ A12.out).mono ?_); rintro e w' ⟨rfl, ⟨nd, rfl⟩⟩; refine ⟨_, rfl, ?_⟩) | ((with_reducible refine gate_callee (f := 90) rfl ?_); refine goesL_ (some 28) rfl rfl Tryd.func90 (by kernel_rfl) rfl #[.int .i64 a0, .int .i64 0] rfl (by (try simp only [List.map_toArray, List.map_cons, List.map_nil]); first | done | rfl | (simp only [List.length_drop, List.length_take]; rfl)) ?_; (with_reducible refine (rf01_tail.calls k a0 0 t144 _ A13.out).mono ?_); rintro e w' ⟨rfl, ⟨nd, rfl⟩⟩; refine ⟨_, rfl, ?_⟩) | ((with_reducible refine gate_dst (N := 29) rfl ?_); refine Kd.R_lit (Kd.int .u8) _ 5 ?hg (N := 29) ?hd (xs := ([(wrap64 (224 + (wrap64 (Int.tdiv a0 4096)))) % 256, t143, t144] : List Int)) (inner := [.int .u8 ((wrap64 (224 + (wrap64 (Int.tdiv a0 4096)))) % 256), .int .u8 t143, .int .u8 t144]) (ok := fun _ => True) (okp := fun _ => True) ?hr ?hp (fun _ hk => hk) trivial (Below.refl _ _) (Nat.le_refl _) (by simp) ?_; (case hd => rfl); (case hg => rfl); (case hr => first | (go_simp; done) | (go_simp; rfl)); (case hp => exact (Reps.one (show Kd.M (Kd.int .u8) _ _ _ ((wrap64 (224 + (wrap64 (Int.tdiv a0 4096)))) % 256) [.int .u8 ((wrap64 (224 + (wrap64 (Int.tdiv a0 4096)))) % 256)] from rfl) (Reps.one (show Kd.M (Kd.int .u8) _ _ _ t143 [.int .u8 t143] from rfl) (Reps.one (show Kd.M (Kd.int .u8) _ _ _ t144 [.int .u8 t144] from rfl) (Reps.none _ _))))); intro v146 w14 ho15 hb hg_ hnew_; clear hg_ hnew_; (first | rw [← Ny145.out] at ho15 | (simp only [Int.reduceToNat] at ho15; rw [← Ny145.out] at ho15)); have n0_ := Aside0.mk (Kd.R_lower ho15 (below_size (by repeat (first | (with_reducible first | exact HB.out | apply below_alloc | apply pw_below_drewN | apply below_drew1) | exact HB.out)))); have n1_ := Aside0.mk (below_step (by repeat (first | (with_reducible first | exact HB.out | apply below_alloc | apply pw_below_drewN | apply below_drew1) | exact HB.out)) hb); clear HB; have HO147 := n0_; have HB := n1_; clear n0_ n1_; clear hb ho15; have hcv16 := own_string (P := Tryd.prog) Tryd.underlying29 Tryd.underlying5 Tryd.underlying9 (Kd.own_of_R HO147.out)))
       go_ret
       exact ⟨by first | rfl | (simp [errW_none, errW_some] <;> rfl) | (simp [*, errW_none, errW_some] <;> rfl), by repeat (first | (with_reducible first | exact HB.out | apply below_alloc | apply pw_below_drewN | apply below_drew1) | exact HB.out)⟩
     · rw [if_neg c11] at H
       have c11b0 : decide (a0 < 65536) = false := decide_eq_false c11
       clear c11
       replace H := Option.bind_eq_some_iff.mp H
       obtain ⟨t148, A170, H⟩ := H
       replace H : ((rf01_tail.f k a0 1).bind fun t149 => ((rf01_tail.f k a0 0).bind fun t150 => (some (strOfNums (([(wrap64 (240 + (wrap64 (Int.tdiv a0 262144)))) % 256, t148, t149, t150] : List Int)))))) = some r := H
       have A17 := Aside0.mk A170
       clear A170
       replace H := Option.bind_eq_some_iff.mp H
       obtain ⟨t149, A180, H⟩ := H
       replace H : ((rf01_tail.f k a0 0).bind fun t150 => (some (strOfNums (([(wrap64 (240 + (wrap64 (Int.tdiv a0 262144)))) % 256, t148, t149, t150] : List Int))))) = some r := H
       have A18 := Aside0.mk A180
       clear A180
       replace H := Option.bind_eq_some_iff.mp H
       obtain ⟨t150, A190, H⟩ := H
       replace H : (some (strOfNums (([(wrap64 (240 + (wrap64 (Int.tdiv a0 262144)))) % 256, t148, t149, t150] : List Int)))) = some r := H
       have A19 := Aside0.mk A190
       clear A190
       obtain ⟨y151, hy151⟩ : ∃ y_ : List Int, y_ = (([(wrap64 (240 + (wrap64 (Int.tdiv a0 262144)))) % 256, t148, t149, t150] : List Int)) := ⟨_, rfl⟩
       replace H : (some (strOfNums y151)) = some r := by first | (rw [hy151]; with_reducible exact H) | (have H2_ := (Option.bind_some _ _).symm.trans H; rw [hy151]; with_reducible exact H2_) | (have H2_ := (Option.bind_some _ _).symm.trans H; with_reducible exact H2_) | with_reducible exact H | (rw [hy151]; exact H) | exact H
       have Ny151 := Aside0.mk hy151
       clear hy151
       obtain rfl := Option.some.inj H
       go_enter Tryd.func76, Tryd.ntmps76
       go_wp2_with (first | ((with_reducible refine gate_callee (f := 90) rfl ?_); refine goesL_ (some 36) rfl rfl Tryd.func90 (by kernel_rfl) rfl #[.int .i64 a0, .int .i64 2] rfl (by (try simp only [List.map_toArray, List.map_cons, List.map_nil]); first | done | rfl | (simp only [List.length_drop, List.length_take]; rfl)) ?_; (with_reducible refine (rf01_tail.calls k a0 2 t148 _ A17.out).mono ?_); rintro e w' ⟨rfl, ⟨nd, rfl⟩⟩; refine ⟨_, rfl, ?_⟩) | ((with_reducible refine gate_callee (f := 90) rfl ?_); refine goesL_ (some 38) rfl rfl Tryd.func90 (by kernel_rfl) rfl #[.int .i64 a0, .int .i64 1] rfl (by (try simp only [List.map_toArray, List.map_cons, List.map_nil]); first | done | rfl | (simp only [List.length_drop, List.length_take]; rfl)) ?_; (with_reducible refine (rf01_tail.calls k a0 1 t149 _ A18.out).mono ?_); rintro e w' ⟨rfl, ⟨nd, rfl⟩⟩; refine ⟨_, rfl, ?_⟩) | ((with_reducible refine gate_callee (f := 90) rfl ?_); refine goesL_ (some 40) rfl rfl Tryd.func90 (by kernel_rfl) rfl #[.int .i64 a0, .int .i64 0] rfl (by (try simp only [List.map_toArray, List.map_cons, List.map_nil]); first | done | rfl | (simp only [List.length_drop, List.length_take]; rfl)) ?_; (with_reducible refine (rf01_tail.calls k a0 0 t150 _ A19.out).mono ?_); rintro e w' ⟨rfl, ⟨nd, rfl⟩⟩; refine ⟨_, rfl, ?_⟩) | ((with_reducible refine gate_dst (N := 41) rfl ?_); refine Kd.R_lit (Kd.int .u8) _ 5 ?hg (N := 41) ?hd (xs := ([(wrap64 (240 + (wrap64 (Int.tdiv a0 262144)))) % 256, t148, t149, t150] : List Int)) (inner := [.int .u8 ((wrap64 (240 + (wrap64 (Int.tdiv a0 262144)))) % 256), .int .u8 t148, .int .u8 t149, .int .u8 t150]) (ok := fun _ => True) (okp := fun _ => True) ?hr ?hp (fun _ hk => hk) trivial (Below.refl _ _) (Nat.le_refl _) (by simp) ?_; (case hd => rfl); (case hg => rfl); (case hr => first | (go_simp; done) | (go_simp; rfl)); (case hp => exact (Reps.one (show Kd.M (Kd.int .u8) _ _ _ ((wrap64 (240 + (wrap64 (Int.tdiv a0 262144)))) % 256) [.int .u8 ((wrap64 (240 + (wrap64 (Int.tdiv a0 262144)))) % 256)] from rfl) (Reps.one (show Kd.M (Kd.int .u8) _ _ _ t148 [.int .u8 t148] from rfl) (Reps.one (show Kd.M (Kd.int .u8) _ _ _ t149 [.int .u8 t149] from rfl) (Reps.one (show Kd.M (Kd.int .u8) _ _ _ t150 [.int .u8 t150] from rfl) (Reps.none _ _)))))); intro v152 w20 ho21 hb hg_ hnew_; clear hg_ hnew_; (first | rw [← Ny151.out] at ho21 | (simp only [Int.reduceToNat] at ho21; rw [← Ny151.out] at ho21)); have n0_ := Aside0.mk (Kd.R_lower ho21 (below_size (by repeat (first | (with_reducible first | exact HB.out | apply below_alloc | apply pw_below_drewN | apply below_drew1) | exact HB.out)))); have n1_ := Aside0.mk (below_step (by repeat (first | (with_reducible first | exact HB.out | apply below_alloc | apply pw_below_drewN | apply below_drew1) | exact HB.out)) hb); clear HB; have HO153 := n0_; have HB := n1_; clear n0_ n1_; clear hb ho21; have hcv22 := own_string (P := Tryd.prog) Tryd.underlying29 Tryd.underlying5 Tryd.underlying9 (Kd.own_of_R HO153.out)))
       go_ret
       exact ⟨by first | rfl | (simp [errW_none, errW_some] <;> rfl) | (simp [*, errW_none, errW_some] <;> rfl), by repeat (first | (with_reducible first | exact HB.out | apply below_alloc | apply pw_below_drewN | apply below_drew1) | exact HB.out)⟩
mutual
def rf01_First.l0 : Nat → ByteArray → Int → Int → Option (Int × Int)
 | 0, _, _, _ => none
 | k + 1, x0, x4, x5 => if x5 ≤ 4 then (rf01_First.j1 k x0 x4 x5 (decide (x5 ≤ (x0.size : Int)))) else (rf01_First.j1 k x0 x4 x5 false)
def rf01_First.j1 : Nat → ByteArray → Int → Int → Bool → Option (Int × Int)
 | 0, _, _, _, _ => none
 | k + 1, x0, x4, x5, x14 => if x14 = true then (if 0 ≤ (wrap64 (x5 - 1)) then (if (wrap64 (x5 - 1)) < (x0.size : Int) then (if x5 = 1 then (if (wrap64 (bt x0 (wrap64 (x5 - 1)))) ≥ 192 then (rf01_First.j2 k x0 (wrap64 ((wrap64 (bt x0 (wrap64 (x5 - 1)))) - 192)) x5 (wrap64 (bt x0 (wrap64 (x5 - 1))))) else (rf01_First.j2 k x0 (wrap64 (bt x0 (wrap64 (x5 - 1)))) x5 (wrap64 (bt x0 (wrap64 (x5 - 1)))))) else (rf01_First.j3 k x0 (wrap64 ((wrap64 (64 * x4)) + (Int.tmod (wrap64 (bt x0 (wrap64 (x5 - 1)))) 64))) x5)) else (none)) else (none)) else (some (0, 0))
def rf01_First.j3 : Nat → ByteArray → Int → Int → Option (Int × Int)
 | 0, _, _, _ => none
 | k + 1, x0, x4, x5 => (rf01_May.f x4).bind fun t154 => (if t154 = true then ((rf01_One.f k x4).bind fun t155 => (if 0 ≤ x5 then (if x5 ≤ (x0.size : Int) then (if t155.toList = (x0.extract 0 (x5 : Int).toNat).toList then (some (x4, x5)) else (rf01_First.l0 k x0 x4 (wrap64 (x5 + 1)))) else (none)) else (none))) else (rf01_First.l0 k x0 x4 (wrap64 (x5 + 1))))
def rf01_First.j2 : Nat → ByteArray → Int → Int → Int → Option (Int × Int)
 | 0, _, _, _, _ => none
 | k + 1, x0, x4, x5, x6 => if x6 ≥ 224 then (if x6 ≥ 240 then (rf01_First.j3 k x0 (wrap64 (x6 - 240)) x5) else (rf01_First.j3 k x0 (wrap64 (x6 - 224)) x5)) else (if x6 ≥ 240 then (rf01_First.j3 k x0 (wrap64 (x6 - 240)) x5) else (rf01_First.j3 k x0 x4 x5))
end
def rf01_First.f (k : Nat) (a0 : ByteArray) : Option (Int × Int) := rf01_First.l0 k a0 0 1
def rf01_First.T15 : Bool × List (List Nat × List Nat) := (true, [([], []), ([0], [0]), ([1, 1], [1]), ([2], [2]), ([3, 2, 2], [2, 3]), ([2], [2]), ([2], [2]), ([5, 6, 2], [2, 5, 6]), ([4, 7, 2], [2, 4, 7]), ([2, 8], [2, 8])])
def rf01_First.B15 : List Nat := [0, 1, 3, 7, 15, 7, 7, 103, 255, 511]
theorem rf01_First.tab15 : rtab .any (opsOf Tryd.f54 15) = rf01_First.T15 := by kernel_rfl
theorem rf01_First.bits15 : waitsOk rf01_First.T15.2 rf01_First.B15 = true := by kernel_rfl
set_option maxHeartbeats 8000000 in
set_option maxRecDepth 100000 in
theorem rf01_First.calls (k : Nat) (a0 : ByteArray) (r1 : Int) (r2 : Int) (w : World) (h : rf01_First.f k a0 = some (r1, r2)) :
 Calls Tryd.prog 54 #[.string a0] w fun e w' => e = .returned (.tuple #[.int .i64 r1, .int .i64 r2]) ∧ Below w.heap.size w w' := by
 have HB := Aside0.mk (Below.refl w.heap.size w)
 have H : (rf01_First.l0 k a0 0 1) = some (r1, r2) := h
 clear h
 have H' := Aside0.mk H
 clear H
 go_enter Tryd.func54, Tryd.ntmps54
 go_wp2
 go_loopg [4, 5] k (fun kq v4 v5 w' => ∃ (x4_1 : Int) (x5_1 : Int), v4 = .int .i64 x4_1 ∧ v5 = .int .i64 x5_1 ∧ Aside0 (rf01_First.l0 kq a0 x4_1 x5_1 = some (r1, r2)) ∧ Aside0 (kq ≤ k) ∧ Aside0 (Below w.heap.size w w'))
 case atStart => exact ⟨(0), (1), (by first | rfl | (simp; done) | (simp [*]; done)), (by first | rfl | (simp; done) | (simp [*]; done)), H', ⟨Nat.le_refl _⟩, ⟨by repeat (first | (with_reducible first | exact HB.out | apply below_alloc | apply pw_below_drewN | apply below_drew1) | exact HB.out)⟩⟩
 case round =>
  clear H'
  obtain ⟨x4_1, x5_1, rfl, rfl, HA, HK1, HB⟩ := hrel
  cases gk with
  | zero => exact absurd HA.out (by simp [rf01_First.l0])
  | succ k1 =>
   have H := HA.out
   clear HA
   simp only [rf01_First.l0] at H
   have HC2 := Aside0.mk H
   clear H
   go_upto_region 3 with (fail)
   go_cut [14] (fun v14 wc => ∃ (kq : Nat) (x14_1 : Bool), v14 = .bool x14_1 ∧ Aside0 (rf01_First.j1 kq a0 x4_1 x5_1 x14_1 = some (r1, r2)) ∧ Aside0 (kq ≤ k1) ∧ Aside0 (Below w.heap.size w wc))
   case first =>
    have H := HC2.out
    clear HC2
    by_cases c3 : x5_1 ≤ 4
    · rw [if_pos c3] at H
      have c3b0 : decide (x5_1 ≤ 4) = true := decide_eq_true c3
      clear c3
      (first | rw [c3b0] | (simp only [i64_w, i32_w]; rw [c3b0]) | skip)
      have H' := Aside0.mk H
      clear H
      go_wp2
      go_meet
      case rel => exact ⟨_, (decide (x5_1 ≤ (a0.size : Int))), (by first | rfl | (simp; done) | (simp [*]; done)), H', ⟨by have := HK1.out; first | omega | exact Nat.le_refl _⟩, ⟨by repeat (first | (with_reducible first | exact HB.out | apply below_alloc | apply pw_below_drewN | apply below_drew1) | exact HB.out)⟩⟩
    · rw [if_neg c3] at H
      have c3b0 : decide (x5_1 ≤ 4) = false := decide_eq_false c3
      clear c3
      (first | rw [c3b0] | (simp only [i64_w, i32_w]; rw [c3b0]) | skip)
      have H' := Aside0.mk H
      clear H
      go_wp2
      go_meet
      case rel => exact ⟨_, (false), (by first | rfl | (simp; done) | (simp [*]; done)), H', ⟨by have := HK1.out; first | omega | exact Nat.le_refl _⟩, ⟨by repeat (first | (with_reducible first | exact HB.out | apply below_alloc | apply pw_below_drewN | apply below_drew1) | exact HB.out)⟩⟩
   case rest =>
    clear HC2
    try clear p2
    try clear c3
    try clear c3b0
    obtain ⟨kq, x14_1, rfl, HA, HJ1, HB⟩ := hcut
    cases kq with
    | zero => exact absurd HA.out (by simp [rf01_First.j1])
    | succ kj1 =>
     have H := HA.out
     clear HA
     simp only [rf01_First.j1] at H
     by_cases c4 : x14_1 = true
     · subst c4
       have H1 : (if 0 ≤ (wrap64 (x5_1 - 1)) then (if (wrap64 (x5_1 - 1)) < (a0.size : Int) then (if x5_1 = 1 then (if (wrap64 (bt a0 (wrap64 (x5_1 - 1)))) ≥ 192 then (rf01_First.j2 kj1 a0 (wrap64 ((wrap64 (bt a0 (wrap64 (x5_1 - 1)))) - 192)) x5_1 (wrap64 (bt a0 (wrap64 (x5_1 - 1))))) else (rf01_First.j2 kj1 a0 (wrap64 (bt a0 (wrap64 (x5_1 - 1)))) x5_1 (wrap64 (bt a0 (wrap64 (x5_1 - 1)))))) else (rf01_First.j3 kj1 a0 (wrap64 ((wrap64 (64 * x4_1)) + (Int.tmod (wrap64 (bt a0 (wrap64 (x5_1 - 1)))) 64))) x5_1)) else (none)) else (none)) = some (r1, r2) := by rw [if_pos rfl] at H; exact H
       clear H
       have H := H1
       clear H1
       obtain ⟨ji5, hji5⟩ : ∃ j_ : Int, (wrap64 (x5_1 - 1)) = j_ := ⟨_, rfl⟩
       replace H : (if 0 ≤ (ji5) then (if (ji5) < (a0.size : Int) then (if x5_1 = 1 then (if (wrap64 (bt a0 (ji5))) ≥ 192 then (rf01_First.j2 kj1 a0 (wrap64 ((wrap64 (bt a0 (ji5))) - 192)) x5_1 (wrap64 (bt a0 (ji5)))) else (rf01_First.j2 kj1 a0 (wrap64 (bt a0 (ji5))) x5_1 (wrap64 (bt a0 (ji5))))) else (rf01_First.j3 kj1 a0 (wrap64 ((wrap64 (64 * x4_1)) + (Int.tmod (wrap64 (bt a0 (ji5))) 64))) x5_1)) else (none)) else (none)) = some (r1, r2) := by first | (rw [hji5] at H; exact H) | (simp only [hji5] at H ⊢; exact H)
       have hji5w : (IntKind.i64.wrap (x5_1 - 1)) = ji5 := (i64_w _).trans hji5
       by_cases c6 : 0 ≤ (ji5)
       · rw [if_pos c6] at H
         have c6b0 : decide (0 ≤ (ji5)) = true := decide_eq_true c6
         clear c6
         by_cases c7 : (ji5) < (a0.size : Int)
         · rw [if_pos c7] at H
           have c7b0 : decide ((ji5) < (a0.size : Int)) = true := decide_eq_true c7
           clear c7
           have HC9 := Aside0.mk H
           clear H
           have p8 : 0 ≤ ((ji5) : Int) := of_decide_eq_true (by first | (with_reducible assumption) | assumption)
           have q8 : (ji5) < (a0.size : Int) := of_decide_eq_true (by first | (with_reducible assumption) | assumption)
           have hx8 := bt_at a0 (ji5)
           replace p8 := eq_true p8
           replace q8 := eq_true q8
           go_upto_if 23 with (fail)
           go_cut [4] (fun v4 wc => ∃ (kq : Nat) (x4_8 : Int), v4 = .int .i64 x4_8 ∧ Aside0 (rf01_First.j3 kq a0 x4_8 x5_1 = some (r1, r2)) ∧ Aside0 (kq ≤ kj1) ∧ Aside0 (Below w.heap.size w wc))
           case first =>
            have H := HC9.out
            clear HC9
            by_cases c10 : x5_1 = 1
            · rw [if_pos c10] at H
              have c10b0 : (x5_1 == 1) = true := beq_iff_eq.mpr c10
              have c10b1 : (x5_1 != 1) = false := bne_eq_false_iff_eq.mpr c10
              clear c10
              (first | rw [c10b0] | (simp only [i64_w, i32_w]; rw [c10b0]) | skip)
              have HC11 := Aside0.mk H
              clear H
              go_upto_if 26 with (fail)
              go_cut [4] (fun v4 wc => ∃ (kq : Nat) (x4_10 : Int), v4 = .int .i64 x4_10 ∧ Aside0 (rf01_First.j2 kq a0 x4_10 x5_1 (wrap64 (bt a0 (ji5))) = some (r1, r2)) ∧ Aside0 (kq ≤ kj1) ∧ Aside0 (Below w.heap.size w wc))
              case first =>
               have H := HC11.out
               clear HC11
               by_cases c12 : (wrap64 (bt a0 (ji5))) ≥ 192
               · rw [if_pos c12] at H
                 have c12b0 : decide (192 ≤ (wrap64 (bt a0 (ji5)))) = true := decide_eq_true c12
                 clear c12
                 (first | rw [c12b0] | (simp only [i64_w, i32_w]; rw [c12b0]) | skip)
                 have H' := Aside0.mk H
                 clear H
                 go_wp2
                 go_meet
                 case rel => exact ⟨_, (wrap64 ((wrap64 (bt a0 (ji5))) - 192)), (by first | rfl | (simp; done) | (simp only [← hji5] <;> (first | rfl | simp)) | (simp [*]; done)), H', ⟨by have := HK1.out; have := HJ1.out; first | omega | exact Nat.le_refl _⟩, ⟨by repeat (first | (with_reducible first | exact HB.out | apply below_alloc | apply pw_below_drewN | apply below_drew1) | exact HB.out)⟩⟩
               · rw [if_neg c12] at H
                 have c12b0 : decide (192 ≤ (wrap64 (bt a0 (ji5)))) = false := decide_eq_false c12
                 clear c12
                 (first | rw [c12b0] | (simp only [i64_w, i32_w]; rw [c12b0]) | skip)
                 have H' := Aside0.mk H
                 clear H
                 go_wp2
                 go_meet
                 case rel => exact ⟨_, (wrap64 (bt a0 (ji5))), (by first | rfl | (simp; done) | (simp only [← hji5] <;> (first | rfl | simp)) | (simp [*]; done)), H', ⟨by have := HK1.out; have := HJ1.out; first | omega | exact Nat.le_refl _⟩, ⟨by repeat (first | (with_reducible first | exact HB.out | apply below_alloc | apply pw_below_drewN | apply below_drew1) | exact HB.out)⟩⟩
              case rest =>
               clear HC11
               try clear c1
               try clear p2
               try clear c3
               try clear c3b0
               try clear c4
               try clear c5
               try clear c6
               try clear c6b0
               try clear p6
               try clear c7
               try clear c7b0
               try clear p8
               try clear q8
               try clear hx8
               try clear c10
               try clear c10b0
               try clear c10b1
               try clear c12
               try clear c12b0
               try clear p2
               try clear p8
               try clear q8
               obtain ⟨kq, x4_10, rfl, HA, HJ10, HB⟩ := hcut
               cases kq with
               | zero => exact absurd HA.out (by simp [rf01_First.j2])
               | succ kj10 =>
                have H := HA.out
                clear HA
                simp only [rf01_First.j2] at H
                by_cases c13 : (wrap64 (bt a0 (ji5))) ≥ 224
                · rw [if_pos c13] at H
                  have c13b0 : decide (224 ≤ (wrap64 (bt a0 (ji5)))) = true := decide_eq_true c13
                  clear c13
                  by_cases c14 : (wrap64 (bt a0 (ji5))) ≥ 240
                  · rw [if_pos c14] at H
                    have c14b0 : decide (240 ≤ (wrap64 (bt a0 (ji5)))) = true := decide_eq_true c14
                    clear c14
                    have H' := Aside0.mk H
                    clear H
                    go_wp2
                    go_meet
                    case rel => exact ⟨_, (wrap64 ((wrap64 (bt a0 (ji5))) - 240)), (by first | rfl | (simp; done) | (simp only [← hji5] <;> (first | rfl | simp)) | (simp [*]; done)), H', ⟨by have := HK1.out; have := HJ1.out; have := HJ10.out; first | omega | exact Nat.le_refl _⟩, ⟨by repeat (first | (with_reducible first | exact HB.out | apply below_alloc | apply pw_below_drewN | apply below_drew1) | exact HB.out)⟩⟩
                  · rw [if_neg c14] at H
                    have c14b0 : decide (240 ≤ (wrap64 (bt a0 (ji5)))) = false := decide_eq_false c14
                    clear c14
                    have H' := Aside0.mk H
                    clear H
                    go_wp2
                    go_meet
                    case rel => exact ⟨_, (wrap64 ((wrap64 (bt a0 (ji5))) - 224)), (by first | rfl | (simp; done) | (simp only [← hji5] <;> (first | rfl | simp)) | (simp [*]; done)), H', ⟨by have := HK1.out; have := HJ1.out; have := HJ10.out; first | omega | exact Nat.le_refl _⟩, ⟨by repeat (first | (with_reducible first | exact HB.out | apply below_alloc | apply pw_below_drewN | apply below_drew1) | exact HB.out)⟩⟩
                · rw [if_neg c13] at H
                  have c13b0 : decide (224 ≤ (wrap64 (bt a0 (ji5)))) = false := decide_eq_false c13
                  clear c13
                  by_cases c15 : (wrap64 (bt a0 (ji5))) ≥ 240
                  · rw [if_pos c15] at H
                    have c15b0 : decide (240 ≤ (wrap64 (bt a0 (ji5)))) = true := decide_eq_true c15
                    clear c15
                    have H' := Aside0.mk H
                    clear H
                    go_wp2
                    go_meet
                    case rel => exact ⟨_, (wrap64 ((wrap64 (bt a0 (ji5))) - 240)), (by first | rfl | (simp; done) | (simp only [← hji5] <;> (first | rfl | simp)) | (simp [*]; done)), H', ⟨by have := HK1.out; have := HJ1.out; have := HJ10.out; first | omega | exact Nat.le_refl _⟩, ⟨by repeat (first | (with_reducible first | exact HB.out | apply below_alloc | apply pw_below_drewN | apply below_drew1) | exact HB.out)⟩⟩
                  · rw [if_neg c15] at H
                    have c15b0 : decide (240 ≤ (wrap64 (bt a0 (ji5)))) = false := decide_eq_false c15
                    clear c15
                    have H' := Aside0.mk H
                    clear H
                    go_wp2
                    go_meet
                    case rel => exact ⟨_, (x4_10), (by first | rfl | (simp; done) | (simp [*]; done)), H', ⟨by have := HK1.out; have := HJ1.out; have := HJ10.out; first | omega | exact Nat.le_refl _⟩, ⟨by repeat (first | (with_reducible first | exact HB.out | apply below_alloc | apply pw_below_drewN | apply below_drew1) | exact HB.out)⟩⟩
            · rw [if_neg c10] at H
              have c10b0 : (x5_1 == 1) = false := beq_eq_false_iff_ne.mpr c10
              have c10b1 : (x5_1 != 1) = true := bne_iff_ne.mpr c10
              (first | rw [c10b0] | (simp only [i64_w, i32_w]; rw [c10b0]) | skip)
              have H' := Aside0.mk H
              clear H
              go_wp2
              go_meet
              case rel => exact ⟨_, (wrap64 ((wrap64 (64 * x4_1)) + (Int.tmod (wrap64 (bt a0 (ji5))) 64))), (by first | rfl | (simp; done) | (simp only [← hji5] <;> (first | rfl | simp)) | (simp [*]; done)), H', ⟨by have := HK1.out; have := HJ1.out; first | omega | exact Nat.le_refl _⟩, ⟨by repeat (first | (with_reducible first | exact HB.out | apply below_alloc | apply pw_below_drewN | apply below_drew1) | exact HB.out)⟩⟩
           case rest =>
            clear HC9
            try clear c1
            try clear p2
            try clear c3
            try clear c3b0
            try clear c4
            try clear c5
            try clear c6
            try clear c6b0
            try clear p6
            try clear c7
            try clear c7b0
            try clear p8
            try clear q8
            try clear hx8
            try clear c10
            try clear c10b0
            try clear c10b1
            try clear c12
            try clear c12b0
            try clear c13
            try clear c13b0
            try clear c14
            try clear c14b0
            try clear c15
            try clear c15b0
            try clear p2
            try clear p6
            try clear p8
            try clear q8
            obtain ⟨kq, x4_8, rfl, HA, HJ8, HB⟩ := hcut
            cases kq with
            | zero => exact absurd HA.out (by simp [rf01_First.j3])
            | succ kj8 =>
             have H := HA.out
             clear HA
             simp only [rf01_First.j3] at H
             replace H := Option.bind_eq_some_iff.mp H
             obtain ⟨t154, A160, H⟩ := H
             replace H : (if t154 = true then ((rf01_One.f kj8 x4_8).bind fun t155 => (if 0 ≤ x5_1 then (if x5_1 ≤ (a0.size : Int) then (if t155.toList = (a0.extract 0 (x5_1 : Int).toNat).toList then (some (x4_8, x5_1)) else (rf01_First.l0 kj8 a0 x4_8 (wrap64 (x5_1 + 1)))) else (none)) else (none))) else (rf01_First.l0 kj8 a0 x4_8 (wrap64 (x5_1 + 1)))) = some (r1, r2) := H
             have A16 := Aside0.mk A160
             clear A160
             by_cases c17 : t154 = true
             · subst c17
               have H1 : ((rf01_One.f kj8 x4_8).bind fun t155 => (if 0 ≤ x5_1 then (if x5_1 ≤ (a0.size : Int) then (if t155.toList = (a0.extract 0 (x5_1 : Int).toNat).toList then (some (x4_8, x5_1)) else (rf01_First.l0 kj8 a0 x4_8 (wrap64 (x5_1 + 1)))) else (none)) else (none))) = some (r1, r2) := by rw [if_pos rfl] at H; exact H
               clear H
               have H := H1
               clear H1
               replace H := Option.bind_eq_some_iff.mp H
               obtain ⟨t155, A180, H⟩ := H
               replace H : (if 0 ≤ x5_1 then (if x5_1 ≤ (a0.size : Int) then (if t155.toList = (a0.extract 0 (x5_1 : Int).toNat).toList then (some (x4_8, x5_1)) else (rf01_First.l0 kj8 a0 x4_8 (wrap64 (x5_1 + 1)))) else (none)) else (none)) = some (r1, r2) := H
               have A18 := Aside0.mk A180
               clear A180
               by_cases c19 : 0 ≤ x5_1
               · rw [if_pos c19] at H
                 have c19b0 := eq_true c19
                 have c19b1 : decide (0 ≤ x5_1) = true := decide_eq_true c19
                 clear c19
                 by_cases c20 : x5_1 ≤ (a0.size : Int)
                 · rw [if_pos c20] at H
                   have c20b0 := eq_true c20
                   have c20b1 : decide (x5_1 ≤ (a0.size : Int)) = true := decide_eq_true c20
                   clear c20
                   by_cases c21 : t155.toList = (a0.extract 0 (x5_1 : Int).toNat).toList
                   · rw [if_pos c21] at H
                     have c21b0 : (t155.toList == (a0.extract 0 (x5_1 : Int).toNat).toList) = true := beq_iff_eq.mpr c21
                     have c21b1 : (t155.toList != (a0.extract 0 (x5_1 : Int).toNat).toList) = false := bne_eq_false_iff_eq.mpr c21
                     clear c21
                     simp only [Option.some.injEq, Prod.mk.injEq] at H
                     obtain ⟨rfl, rfl⟩ := H
                     try go_wp2
                     have n0_ := Aside0.mk (below_drew1 HB.out)
                     clear HB
                     have HB := n0_
                     clear n0_
                     refine start_ (n := 10) (S := fun w' => True) (ds := []) #[false, false, false, false, false, false, false, false, false, false] (by kernel_rfl) rfl rfl trivial (fun hHeld => ?_); refine with_tabW rf01_First.tab15 rf01_First.bits15 (fun HT_ HW_ => ?_)
                     generalize wc.drew = w22 at HB hHeld ⊢
                     refine pure_ (i := 0) (N := some 42) (v := ?_) (a' := ?_) #[true, false, false, false, false, false, false, false, false, false] rfl rfl (any_of HT_.out (by kernel_rfl)) (fun _ _ _ h => h) (Or.inl ⟨by rfl, ?_⟩) ?_ ?_
                     rotate_left
                     · intro w'
                       go_simp
                       with_reducible rfl
                     rotate_left
                     · simp only [Act.put, List.setIfInBounds_toArray, List.set_cons_zero, List.set_cons_succ, i64_w, i32_w]
                       rfl
                     refine one_ (i := 1) (N := some 43) #[true, true, false, false, false, false, false, false, false, false] rfl rfl (one_of HT_.out (by kernel_rfl)) (by decide) (fun K hK => ?_)
                     refine goes_ Tryd.func75 (by kernel_rfl) rfl #[.int .i64 x4_8] (by rfl) rfl rfl (by (try simp only [List.map_toArray, List.map_cons, List.map_nil]); first | done | rfl | (simp only [List.length_drop, List.length_take]; rfl)) ?_
                     with_reducible refine (rf01_May.calls x4_8 true _ A16.out).mono ?_
                     rintro e w' ⟨rfl, ⟨nd, rfl⟩⟩
                     refine ⟨_, rfl, ?_⟩
                     refine hK.out _ _ trivial (fun hHeld => ?_)
                     clear hK K
                     refine norm_ (a' := ?_) ?_ ?_
                     rotate_left
                     · show Act.put _ (some 43) _ = _
                       simp only [Act.put, List.setIfInBounds_toArray, List.set_cons_zero, List.set_cons_succ, i64_w, i32_w]
                       rfl
                     refine pure_ (i := 2) (N := some 44) (v := ?_) (a' := ?_) #[true, true, true, false, false, false, false, false, false, false] rfl rfl (any_of HT_.out (by kernel_rfl)) (fun _ _ _ h => h) (Or.inl ⟨by rfl, ?_⟩) ?_ ?_
                     rotate_left
                     · intro w'
                       go_simp
                       with_reducible rfl
                     rotate_left
                     · simp only [Act.put, List.setIfInBounds_toArray, List.set_cons_zero, List.set_cons_succ, i64_w, i32_w]
                       rfl
                     refine pure_ (i := 3) (N := some 45) (v := ?_) (a' := ?_) #[true, true, true, true, false, false, false, false, false, false] rfl rfl (any_of HT_.out (by kernel_rfl)) (fun _ _ _ h => h) (Or.inl ⟨by rfl, ?_⟩) ?_ ?_
                     rotate_left
                     · intro w'
                       go_simp
                       with_reducible rfl
                     rotate_left
                     · simp only [Act.put, List.setIfInBounds_toArray, List.set_cons_zero, List.set_cons_succ, i64_w, i32_w]
                       rfl
                     refine pure_ (i := 5) (N := some 47) (v := ?_) (a' := ?_) #[true, true, true, true, false, true, false, false, false, false] rfl rfl (any_of HT_.out (by kernel_rfl)) (fun _ _ _ h => h) (Or.inl ⟨by rfl, ?_⟩) ?_ ?_
                     rotate_left
                     · intro w'
                       go_simp
                       with_reducible rfl
                     rotate_left
                     · simp only [Act.put, List.setIfInBounds_toArray, List.set_cons_zero, List.set_cons_succ, i64_w, i32_w]
                       rfl
                     refine pure_ (i := 6) (N := some 48) (v := ?_) (a' := ?_) #[true, true, true, true, false, true, true, false, false, false] rfl rfl (any_of HT_.out (by kernel_rfl)) (fun _ _ _ h => h) (Or.inl ⟨by rfl, ?_⟩) ?_ ?_
                     rotate_left
                     · intro w'
                       go_simp
                       with_reducible rfl
                     rotate_left
                     · simp only [Act.put, List.setIfInBounds_toArray, List.set_cons_zero, List.set_cons_succ, i64_w, i32_w]
                       rfl
                     refine pure_ (i := 7) (N := some 49) (v := ?_) (a' := ?_) #[true, true, true, true, false, true, true, true, false, false] rfl rfl (any_of HT_.out (by kernel_rfl)) (fun _ _ _ h => h) (Or.inl ⟨by rfl, ?_⟩) ?_ ?_
                     rotate_left
                     · intro w'
                       go_simp
                       with_reducible rfl
                     rotate_left
                     · simp only [Act.put, List.setIfInBounds_toArray, List.set_cons_zero, List.set_cons_succ, i64_w, i32_w]
                       rfl
                     refine one_ (i := 4) (N := some 46) #[true, true, true, true, true, true, true, true, false, false] rfl rfl (one_of HT_.out (by kernel_rfl)) (by decide) (fun K hK => ?_)
                     refine goes_ Tryd.func76 (by kernel_rfl) rfl #[.int .i64 x4_8] (by rfl) rfl rfl (by (try simp only [List.map_toArray, List.map_cons, List.map_nil]); first | done | rfl | (simp only [List.length_drop, List.length_take]; rfl)) ?_
                     with_reducible refine (rf01_One.calls kj8 x4_8 t155 _ A18.out).mono ?_
                     rintro e w23 ⟨rfl, hb⟩
                     refine ⟨_, rfl, ?_⟩
                     have n0_ := Aside0.mk (below_step (by repeat (first | (with_reducible first | exact HB.out | apply below_alloc | apply pw_below_drewN | apply below_drew1) | exact HB.out)) hb)
                     clear HB
                     have HB := n0_
                     clear n0_
                     (try clear hb)
                     (try clear hb2)
                     (try clear hk)
                     (try clear hi)
                     refine hK.out _ _ trivial (fun hHeld => ?_)
                     clear hK K
                     refine norm_ (a' := ?_) ?_ ?_
                     rotate_left
                     · show Act.put _ (some 46) _ = _
                       simp only [Act.put, List.setIfInBounds_toArray, List.set_cons_zero, List.set_cons_succ, i64_w, i32_w]
                       rfl
                     refine pure_ (i := 8) (N := some 50) (v := ?_) (a' := ?_) #[true, true, true, true, true, true, true, true, true, false] rfl rfl (any_of HT_.out (by kernel_rfl)) (fun _ _ _ h => h) (Or.inl ⟨by rfl, ?_⟩) ?_ ?_
                     rotate_left
                     · intro w'
                       go_simp
                       with_reducible rfl
                     rotate_left
                     · simp only [Act.put, List.setIfInBounds_toArray, List.set_cons_zero, List.set_cons_succ, i64_w, i32_w]
                       rfl
                     refine pure_ (i := 9) (N := some 51) (v := ?_) (a' := ?_) #[true, true, true, true, true, true, true, true, true, true] rfl rfl (any_of HT_.out (by kernel_rfl)) (fun _ _ _ h => h) (Or.inl ⟨by rfl, ?_⟩) ?_ ?_
                     rotate_left
                     · intro w'
                       go_simp
                       with_reducible rfl
                     rotate_left
                     · simp only [Act.put, List.setIfInBounds_toArray, List.set_cons_zero, List.set_cons_succ, i64_w, i32_w]
                       rfl
                     refine done_ (done_of HT_.out (by kernel_rfl)) ?_
                     try go_wp2
                     go_ret2
                     exact ⟨by first | rfl | (simp [errW_none, errW_some] <;> rfl) | (simp only [← hji5]; first | rfl | (simp [errW_none, errW_some] <;> rfl)) | (simp [*, errW_none, errW_some] <;> rfl), by repeat (first | (with_reducible first | exact HB.out | apply below_alloc | apply pw_below_drewN | apply below_drew1) | exact HB.out)⟩
                   · rw [if_neg c21] at H
                     have c21b0 : (t155.toList == (a0.extract 0 (x5_1 : Int).toNat).toList) = false := beq_eq_false_iff_ne.mpr c21
                     have c21b1 : (t155.toList != (a0.extract 0 (x5_1 : Int).toNat).toList) = true := bne_iff_ne.mpr c21
                     have H' := Aside0.mk H
                     clear H
                     try go_wp2
                     have n0_ := Aside0.mk (below_drew1 HB.out)
                     clear HB
                     have HB := n0_
                     clear n0_
                     refine start_ (n := 10) (S := fun w' => True) (ds := []) #[false, false, false, false, false, false, false, false, false, false] (by kernel_rfl) rfl rfl trivial (fun hHeld => ?_); refine with_tabW rf01_First.tab15 rf01_First.bits15 (fun HT_ HW_ => ?_)
                     generalize wc.drew = w24 at HB hHeld ⊢
                     refine pure_ (i := 0) (N := some 42) (v := ?_) (a' := ?_) #[true, false, false, false, false, false, false, false, false, false] rfl rfl (any_of HT_.out (by kernel_rfl)) (fun _ _ _ h => h) (Or.inl ⟨by rfl, ?_⟩) ?_ ?_
                     rotate_left
                     · intro w'
                       go_simp
                       with_reducible rfl
                     rotate_left
                     · simp only [Act.put, List.setIfInBounds_toArray, List.set_cons_zero, List.set_cons_succ, i64_w, i32_w]
                       rfl
                     refine one_ (i := 1) (N := some 43) #[true, true, false, false, false, false, false, false, false, false] rfl rfl (one_of HT_.out (by kernel_rfl)) (by decide) (fun K hK => ?_)
                     refine goes_ Tryd.func75 (by kernel_rfl) rfl #[.int .i64 x4_8] (by rfl) rfl rfl (by (try simp only [List.map_toArray, List.map_cons, List.map_nil]); first | done | rfl | (simp only [List.length_drop, List.length_take]; rfl)) ?_
                     with_reducible refine (rf01_May.calls x4_8 true _ A16.out).mono ?_
                     rintro e w' ⟨rfl, ⟨nd, rfl⟩⟩
                     refine ⟨_, rfl, ?_⟩
                     refine hK.out _ _ trivial (fun hHeld => ?_)
                     clear hK K
                     refine norm_ (a' := ?_) ?_ ?_
                     rotate_left
                     · show Act.put _ (some 43) _ = _
                       simp only [Act.put, List.setIfInBounds_toArray, List.set_cons_zero, List.set_cons_succ, i64_w, i32_w]
                       rfl
                     refine pure_ (i := 2) (N := some 44) (v := ?_) (a' := ?_) #[true, true, true, false, false, false, false, false, false, false] rfl rfl (any_of HT_.out (by kernel_rfl)) (fun _ _ _ h => h) (Or.inl ⟨by rfl, ?_⟩) ?_ ?_
                     rotate_left
                     · intro w'
                       go_simp
                       with_reducible rfl
                     rotate_left
                     · simp only [Act.put, List.setIfInBounds_toArray, List.set_cons_zero, List.set_cons_succ, i64_w, i32_w]
                       rfl
                     refine pure_ (i := 3) (N := some 45) (v := ?_) (a' := ?_) #[true, true, true, true, false, false, false, false, false, false] rfl rfl (any_of HT_.out (by kernel_rfl)) (fun _ _ _ h => h) (Or.inl ⟨by rfl, ?_⟩) ?_ ?_
                     rotate_left
                     · intro w'
                       go_simp
                       with_reducible rfl
                     rotate_left
                     · simp only [Act.put, List.setIfInBounds_toArray, List.set_cons_zero, List.set_cons_succ, i64_w, i32_w]
                       rfl
                     refine pure_ (i := 5) (N := some 47) (v := ?_) (a' := ?_) #[true, true, true, true, false, true, false, false, false, false] rfl rfl (any_of HT_.out (by kernel_rfl)) (fun _ _ _ h => h) (Or.inl ⟨by rfl, ?_⟩) ?_ ?_
                     rotate_left
                     · intro w'
                       go_simp
                       with_reducible rfl
                     rotate_left
                     · simp only [Act.put, List.setIfInBounds_toArray, List.set_cons_zero, List.set_cons_succ, i64_w, i32_w]
                       rfl
                     refine pure_ (i := 6) (N := some 48) (v := ?_) (a' := ?_) #[true, true, true, true, false, true, true, false, false, false] rfl rfl (any_of HT_.out (by kernel_rfl)) (fun _ _ _ h => h) (Or.inl ⟨by rfl, ?_⟩) ?_ ?_
                     rotate_left
                     · intro w'
                       go_simp
                       with_reducible rfl
                     rotate_left
                     · simp only [Act.put, List.setIfInBounds_toArray, List.set_cons_zero, List.set_cons_succ, i64_w, i32_w]
                       rfl
                     refine pure_ (i := 7) (N := some 49) (v := ?_) (a' := ?_) #[true, true, true, true, false, true, true, true, false, false] rfl rfl (any_of HT_.out (by kernel_rfl)) (fun _ _ _ h => h) (Or.inl ⟨by rfl, ?_⟩) ?_ ?_
                     rotate_left
                     · intro w'
                       go_simp
                       with_reducible rfl
                     rotate_left
                     · simp only [Act.put, List.setIfInBounds_toArray, List.set_cons_zero, List.set_cons_succ, i64_w, i32_w]
                       rfl
                     refine one_ (i := 4) (N := some 46) #[true, true, true, true, true, true, true, true, false, false] rfl rfl (one_of HT_.out (by kernel_rfl)) (by decide) (fun K hK => ?_)
                     refine goes_ Tryd.func76 (by kernel_rfl) rfl #[.int .i64 x4_8] (by rfl) rfl rfl (by (try simp only [List.map_toArray, List.map_cons, List.map_nil]); first | done | rfl | (simp only [List.length_drop, List.length_take]; rfl)) ?_
                     with_reducible refine (rf01_One.calls kj8 x4_8 t155 _ A18.out).mono ?_
                     rintro e w25 ⟨rfl, hb⟩
                     refine ⟨_, rfl, ?_⟩
                     have n0_ := Aside0.mk (below_step (by repeat (first | (with_reducible first | exact HB.out | apply below_alloc | apply pw_below_drewN | apply below_drew1) | exact HB.out)) hb)
                     clear HB
                     have HB := n0_
                     clear n0_
                     (try clear hb)
                     (try clear hb2)
                     (try clear hk)
                     (try clear hi)
                     refine hK.out _ _ trivial (fun hHeld => ?_)
                     clear hK K
                     refine norm_ (a' := ?_) ?_ ?_
                     rotate_left
                     · show Act.put _ (some 46) _ = _
                       simp only [Act.put, List.setIfInBounds_toArray, List.set_cons_zero, List.set_cons_succ, i64_w, i32_w]
                       rfl
                     refine pure_ (i := 8) (N := some 50) (v := ?_) (a' := ?_) #[true, true, true, true, true, true, true, true, true, false] rfl rfl (any_of HT_.out (by kernel_rfl)) (fun _ _ _ h => h) (Or.inl ⟨by rfl, ?_⟩) ?_ ?_
                     rotate_left
                     · intro w'
                       go_simp
                       with_reducible rfl
                     rotate_left
                     · simp only [Act.put, List.setIfInBounds_toArray, List.set_cons_zero, List.set_cons_succ, i64_w, i32_w]
                       rfl
                     refine pure_ (i := 9) (N := some 51) (v := ?_) (a' := ?_) #[true, true, true, true, true, true, true, true, true, true] rfl rfl (any_of HT_.out (by kernel_rfl)) (fun _ _ _ h => h) (Or.inl ⟨by rfl, ?_⟩) ?_ ?_
                     rotate_left
                     · intro w'
                       go_simp
                       with_reducible rfl
                     rotate_left
                     · simp only [Act.put, List.setIfInBounds_toArray, List.set_cons_zero, List.set_cons_succ, i64_w, i32_w]
                       rfl
                     refine done_ (done_of HT_.out (by kernel_rfl)) ?_
                     try go_wp2
                     go_roundg kj8
                     case measure => have := HK1.out; have := HJ1.out; have := HJ8.out; omega
                     case rel => exact ⟨(x4_8), (wrap64 (x5_1 + 1)), (by first | rfl | (simp; done) | (simp [*]; done)), (by first | rfl | (simp; done) | (simp [*]; done)), H', ⟨by have := HK1.out; have := HJ1.out; have := HJ8.out; omega⟩, ⟨by repeat (first | (with_reducible first | exact HB.out | apply below_alloc | apply pw_below_drewN | apply below_drew1) | exact HB.out)⟩⟩
                 · rw [if_neg c20] at H
                   exact absurd H (by simp)
               · rw [if_neg c19] at H
                 exact absurd H (by simp)
             · replace c17 := Bool.eq_false_iff.mpr c17
               subst c17
               have H1 : (rf01_First.l0 kj8 a0 x4_8 (wrap64 (x5_1 + 1))) = some (r1, r2) := by rw [if_neg (show ¬ (false = true) by decide)] at H; exact H
               clear H
               have H := H1
               clear H1
               have H' := Aside0.mk H
               clear H
               try go_wp2
               have n0_ := Aside0.mk (below_drew1 HB.out)
               clear HB
               have HB := n0_
               clear n0_
               refine start_ (n := 10) (S := fun w' => True) (ds := []) #[false, false, false, false, false, false, false, false, false, false] (by kernel_rfl) rfl rfl trivial (fun hHeld => ?_); refine with_tabW rf01_First.tab15 rf01_First.bits15 (fun HT_ HW_ => ?_)
               generalize wc.drew = w26 at HB hHeld ⊢
               refine pure_ (i := 0) (N := some 42) (v := ?_) (a' := ?_) #[true, false, false, false, false, false, false, false, false, false] rfl rfl (any_of HT_.out (by kernel_rfl)) (fun _ _ _ h => h) (Or.inl ⟨by rfl, ?_⟩) ?_ ?_
               rotate_left
               · intro w'
                 go_simp
                 with_reducible rfl
               rotate_left
               · simp only [Act.put, List.setIfInBounds_toArray, List.set_cons_zero, List.set_cons_succ, i64_w, i32_w]
                 rfl
               refine one_ (i := 1) (N := some 43) #[true, true, false, false, false, false, false, false, false, false] rfl rfl (one_of HT_.out (by kernel_rfl)) (by decide) (fun K hK => ?_)
               refine goes_ Tryd.func75 (by kernel_rfl) rfl #[.int .i64 x4_8] (by rfl) rfl rfl (by (try simp only [List.map_toArray, List.map_cons, List.map_nil]); first | done | rfl | (simp only [List.length_drop, List.length_take]; rfl)) ?_
               with_reducible refine (rf01_May.calls x4_8 false _ A16.out).mono ?_
               rintro e w' ⟨rfl, ⟨nd, rfl⟩⟩
               refine ⟨_, rfl, ?_⟩
               refine hK.out _ _ trivial (fun hHeld => ?_)
               clear hK K
               refine norm_ (a' := ?_) ?_ ?_
               rotate_left
               · show Act.put _ (some 43) _ = _
                 simp only [Act.put, List.setIfInBounds_toArray, List.set_cons_zero, List.set_cons_succ, i64_w, i32_w]
                 rfl
               refine pure_ (i := 2) (N := some 44) (v := ?_) (a' := ?_) #[true, true, true, false, false, false, false, false, false, false] rfl rfl (any_of HT_.out (by kernel_rfl)) (fun _ _ _ h => h) (Or.inl ⟨by rfl, ?_⟩) ?_ ?_
               rotate_left
               · intro w'
                 go_simp
                 with_reducible rfl
               rotate_left
               · simp only [Act.put, List.setIfInBounds_toArray, List.set_cons_zero, List.set_cons_succ, i64_w, i32_w]
                 rfl
               refine pure_ (i := 3) (N := some 45) (v := undef) (a' := ?_) #[true, true, true, true, false, false, false, false, false, false] rfl rfl (any_of HT_.out (by kernel_rfl)) (fun _ _ _ h => h) (Or.inr ⟨by rfl, rfl⟩) ?_ ?_
               rotate_left
               · simp only [Act.put, List.setIfInBounds_toArray, List.set_cons_zero, List.set_cons_succ, i64_w, i32_w]
                 rfl
               refine pure_ (i := 4) (N := some 46) (v := undef) (a' := ?_) #[true, true, true, true, true, false, false, false, false, false] rfl rfl (any_of HT_.out (by kernel_rfl)) (fun _ _ _ h => h) (Or.inr ⟨by rfl, rfl⟩) ?_ ?_
               rotate_left
               · simp only [Act.put, List.setIfInBounds_toArray, List.set_cons_zero, List.set_cons_succ, i64_w, i32_w]
                 rfl
               refine pure_ (i := 5) (N := some 47) (v := undef) (a' := ?_) #[true, true, true, true, true, true, false, false, false, false] rfl rfl (any_of HT_.out (by kernel_rfl)) (fun _ _ _ h => h) (Or.inr ⟨by rfl, rfl⟩) ?_ ?_
               rotate_left
               · simp only [Act.put, List.setIfInBounds_toArray, List.set_cons_zero, List.set_cons_succ, i64_w, i32_w]
                 rfl
               refine pure_ (i := 6) (N := some 48) (v := undef) (a' := ?_) #[true, true, true, true, true, true, true, false, false, false] rfl rfl (any_of HT_.out (by kernel_rfl)) (fun _ _ _ h => h) (Or.inr ⟨by rfl, rfl⟩) ?_ ?_
               rotate_left
               · simp only [Act.put, List.setIfInBounds_toArray, List.set_cons_zero, List.set_cons_succ, i64_w, i32_w]
                 rfl
               refine pure_ (i := 7) (N := some 49) (v := undef) (a' := ?_) #[true, true, true, true, true, true, true, true, false, false] rfl rfl (any_of HT_.out (by kernel_rfl)) (fun _ _ _ h => h) (Or.inr ⟨by rfl, rfl⟩) ?_ ?_
               rotate_left
               · simp only [Act.put, List.setIfInBounds_toArray, List.set_cons_zero, List.set_cons_succ, i64_w, i32_w]
                 rfl
               refine pure_ (i := 8) (N := some 50) (v := undef) (a' := ?_) #[true, true, true, true, true, true, true, true, true, false] rfl rfl (any_of HT_.out (by kernel_rfl)) (fun _ _ _ h => h) (Or.inr ⟨by rfl, rfl⟩) ?_ ?_
               rotate_left
               · simp only [Act.put, List.setIfInBounds_toArray, List.set_cons_zero, List.set_cons_succ, i64_w, i32_w]
                 rfl
               refine pure_ (i := 9) (N := some 51) (v := ?_) (a' := ?_) #[true, true, true, true, true, true, true, true, true, true] rfl rfl (any_of HT_.out (by kernel_rfl)) (fun _ _ _ h => h) (Or.inl ⟨by rfl, ?_⟩) ?_ ?_
               rotate_left
               · intro w'
                 go_simp
                 with_reducible rfl
               rotate_left
               · simp only [Act.put, List.setIfInBounds_toArray, List.set_cons_zero, List.set_cons_succ, i64_w, i32_w]
                 rfl
               refine done_ (done_of HT_.out (by kernel_rfl)) ?_
               try go_wp2
               go_roundg kj8
               case measure => have := HK1.out; have := HJ1.out; have := HJ8.out; omega
               case rel => exact ⟨(x4_8), (wrap64 (x5_1 + 1)), (by first | rfl | (simp; done) | (simp [*]; done)), (by first | rfl | (simp; done) | (simp [*]; done)), H', ⟨by have := HK1.out; have := HJ1.out; have := HJ8.out; omega⟩, ⟨by repeat (first | (with_reducible first | exact HB.out | apply below_alloc | apply pw_below_drewN | apply below_drew1) | exact HB.out)⟩⟩
         · rw [if_neg c7] at H
           exact absurd H (by simp)
       · rw [if_neg c6] at H
         exact absurd H (by simp)
     · replace c4 := Bool.eq_false_iff.mpr c4
       subst c4
       have H1 : (some (0, 0)) = some (r1, r2) := by rw [if_neg (show ¬ (false = true) by decide)] at H; exact H
       clear H
       have H := H1
       clear H1
       simp only [Option.some.injEq, Prod.mk.injEq] at H
       obtain ⟨rfl, rfl⟩ := H
       go_wp2
       go_ret2
       exact ⟨by first | rfl | (simp [errW_none, errW_some] <;> rfl) | (simp [*, errW_none, errW_some] <;> rfl), by repeat (first | (with_reducible first | exact HB.out | apply below_alloc | apply pw_below_drewN | apply below_drew1) | exact HB.out)⟩
def rf04_May.f (a0 : Int) : Option (Bool) := if a0 < 65536 then (if a0 ≥ 160 then (if a0 ≤ 55295 then (some true) else (if a0 ≥ 57344 then (if a0 ≤ 64975 then (some true) else (if a0 ≥ 65008 then (some (decide (a0 ≤ 65519))) else (some false))) else (if a0 ≥ 65008 then (some (decide (a0 ≤ 65519))) else (some false)))) else (if a0 ≥ 57344 then (if a0 ≤ 64975 then (some true) else (if a0 ≥ 65008 then (some (decide (a0 ≤ 65519))) else (some false))) else (if a0 ≥ 65008 then (some (decide (a0 ≤ 65519))) else (some false)))) else (if a0 ≥ 917504 then (if a0 < 921600 then (some false) else (if a0 ≤ 1114109 then (some (decide ((Int.tmod a0 65536) ≤ 65533))) else (some false))) else (if a0 ≤ 1114109 then (some (decide ((Int.tmod a0 65536) ≤ 65533))) else (some false)))
set_option maxHeartbeats 8000000 in
set_option maxRecDepth 100000 in
theorem rf04_May.calls (a0 : Int) (r : Bool) (w : World) (h : rf04_May.f a0 = some r) :
 Calls Tryd.prog 55 #[.int .i64 a0] w fun e w' => e = .returned (.bool r) ∧ Drawn0 w w' := by
 have H : (if a0 < 65536 then (if a0 ≥ 160 then (if a0 ≤ 55295 then (some true) else (if a0 ≥ 57344 then (if a0 ≤ 64975 then (some true) else (if a0 ≥ 65008 then (some (decide (a0 ≤ 65519))) else (some false))) else (if a0 ≥ 65008 then (some (decide (a0 ≤ 65519))) else (some false)))) else (if a0 ≥ 57344 then (if a0 ≤ 64975 then (some true) else (if a0 ≥ 65008 then (some (decide (a0 ≤ 65519))) else (some false))) else (if a0 ≥ 65008 then (some (decide (a0 ≤ 65519))) else (some false)))) else (if a0 ≥ 917504 then (if a0 < 921600 then (some false) else (if a0 ≤ 1114109 then (some (decide ((Int.tmod a0 65536) ≤ 65533))) else (some false))) else (if a0 ≤ 1114109 then (some (decide ((Int.tmod a0 65536) ≤ 65533))) else (some false)))) = some r := h
 clear h
 by_cases c2 : a0 < 65536
 · rw [if_pos c2] at H
   have c2b0 : decide (a0 < 65536) = true := decide_eq_true c2
   clear c2
   by_cases c3 : a0 ≥ 160
   · rw [if_pos c3] at H
     have c3b0 : decide (160 ≤ a0) = true := decide_eq_true c3
     clear c3
     by_cases c4 : a0 ≤ 55295
     · rw [if_pos c4] at H
       have c4b0 : decide (a0 ≤ 55295) = true := decide_eq_true c4
       clear c4
       obtain rfl := Option.some.inj H
       go_enter Tryd.func55, Tryd.ntmps55
       go_wp2
       go_ret
       exact ⟨by first | rfl | (simp; done) | (simp [*]; done), by repeat (first | exact Drawn0.refl _ | apply Drawn0.step)⟩
     · rw [if_neg c4] at H
       have c4b0 : decide (a0 ≤ 55295) = false := decide_eq_false c4
       clear c4
       by_cases c5 : a0 ≥ 57344
       · rw [if_pos c5] at H
         have c5b0 : decide (57344 ≤ a0) = true := decide_eq_true c5
         clear c5
         by_cases c6 : a0 ≤ 64975
         · rw [if_pos c6] at H
           have c6b0 : decide (a0 ≤ 64975) = true := decide_eq_true c6
           clear c6
           obtain rfl := Option.some.inj H
           go_enter Tryd.func55, Tryd.ntmps55
           go_wp2
           go_ret
           exact ⟨by first | rfl | (simp; done) | (simp [*]; done), by repeat (first | exact Drawn0.refl _ | apply Drawn0.step)⟩
         · rw [if_neg c6] at H
           have c6b0 : decide (a0 ≤ 64975) = false := decide_eq_false c6
           clear c6
           by_cases c7 : a0 ≥ 65008
           · rw [if_pos c7] at H
             have c7b0 : decide (65008 ≤ a0) = true := decide_eq_true c7
             clear c7
             obtain rfl := Option.some.inj H
             go_enter Tryd.func55, Tryd.ntmps55
             go_wp2
             go_ret
             exact ⟨by first | rfl | (simp; done) | (simp [*]; done), by repeat (first | exact Drawn0.refl _ | apply Drawn0.step)⟩
           · rw [if_neg c7] at H
             have c7b0 : decide (65008 ≤ a0) = false := decide_eq_false c7
             clear c7
             obtain rfl := Option.some.inj H
             go_enter Tryd.func55, Tryd.ntmps55
             go_wp2
             go_ret
             exact ⟨by first | rfl | (simp; done) | (simp [*]; done), by repeat (first | exact Drawn0.refl _ | apply Drawn0.step)⟩
       · rw [if_neg c5] at H
         have c5b0 : decide (57344 ≤ a0) = false := decide_eq_false c5
         clear c5
         by_cases c8 : a0 ≥ 65008
         · rw [if_pos c8] at H
           have c8b0 : decide (65008 ≤ a0) = true := decide_eq_true c8
           clear c8
           obtain rfl := Option.some.inj H
           go_enter Tryd.func55, Tryd.ntmps55
           go_wp2
           go_ret
           exact ⟨by first | rfl | (simp; done) | (simp [*]; done), by repeat (first | exact Drawn0.refl _ | apply Drawn0.step)⟩
         · rw [if_neg c8] at H
           have c8b0 : decide (65008 ≤ a0) = false := decide_eq_false c8
           clear c8
           obtain rfl := Option.some.inj H
           go_enter Tryd.func55, Tryd.ntmps55
           go_wp2
           go_ret
           exact ⟨by first | rfl | (simp; done) | (simp [*]; done), by repeat (first | exact Drawn0.refl _ | apply Drawn0.step)⟩
   · rw [if_neg c3] at H
     have c3b0 : decide (160 ≤ a0) = false := decide_eq_false c3
     clear c3
     by_cases c9 : a0 ≥ 57344
     · rw [if_pos c9] at H
       have c9b0 : decide (57344 ≤ a0) = true := decide_eq_true c9
       clear c9
       by_cases c10 : a0 ≤ 64975
       · rw [if_pos c10] at H
         have c10b0 : decide (a0 ≤ 64975) = true := decide_eq_true c10
         clear c10
         obtain rfl := Option.some.inj H
         go_enter Tryd.func55, Tryd.ntmps55
         go_wp2
         go_ret
         exact ⟨by first | rfl | (simp; done) | (simp [*]; done), by repeat (first | exact Drawn0.refl _ | apply Drawn0.step)⟩
       · rw [if_neg c10] at H
         have c10b0 : decide (a0 ≤ 64975) = false := decide_eq_false c10
         clear c10
         by_cases c11 : a0 ≥ 65008
         · rw [if_pos c11] at H
           have c11b0 : decide (65008 ≤ a0) = true := decide_eq_true c11
           clear c11
           obtain rfl := Option.some.inj H
           go_enter Tryd.func55, Tryd.ntmps55
           go_wp2
           go_ret
           exact ⟨by first | rfl | (simp; done) | (simp [*]; done), by repeat (first | exact Drawn0.refl _ | apply Drawn0.step)⟩
         · rw [if_neg c11] at H
           have c11b0 : decide (65008 ≤ a0) = false := decide_eq_false c11
           clear c11
           obtain rfl := Option.some.inj H
           go_enter Tryd.func55, Tryd.ntmps55
           go_wp2
           go_ret
           exact ⟨by first | rfl | (simp; done) | (simp [*]; done), by repeat (first | exact Drawn0.refl _ | apply Drawn0.step)⟩
     · rw [if_neg c9] at H
       have c9b0 : decide (57344 ≤ a0) = false := decide_eq_false c9
       clear c9
       by_cases c12 : a0 ≥ 65008
       · rw [if_pos c12] at H
         have c12b0 : decide (65008 ≤ a0) = true := decide_eq_true c12
         clear c12
         obtain rfl := Option.some.inj H
         go_enter Tryd.func55, Tryd.ntmps55
         go_wp2
         go_ret
         exact ⟨by first | rfl | (simp; done) | (simp [*]; done), by repeat (first | exact Drawn0.refl _ | apply Drawn0.step)⟩
       · rw [if_neg c12] at H
         have c12b0 : decide (65008 ≤ a0) = false := decide_eq_false c12
         clear c12
         obtain rfl := Option.some.inj H
         go_enter Tryd.func55, Tryd.ntmps55
         go_wp2
         go_ret
         exact ⟨by first | rfl | (simp; done) | (simp [*]; done), by repeat (first | exact Drawn0.refl _ | apply Drawn0.step)⟩
 · rw [if_neg c2] at H
   have c2b0 : decide (a0 < 65536) = false := decide_eq_false c2
   clear c2
   by_cases c13 : a0 ≥ 917504
   · rw [if_pos c13] at H
     have c13b0 : decide (917504 ≤ a0) = true := decide_eq_true c13
     clear c13
     by_cases c14 : a0 < 921600
     · rw [if_pos c14] at H
       have c14b0 : decide (a0 < 921600) = true := decide_eq_true c14
       clear c14
       obtain rfl := Option.some.inj H
       go_enter Tryd.func55, Tryd.ntmps55
       go_wp2
       go_ret
       exact ⟨by first | rfl | (simp; done) | (simp [*]; done), by repeat (first | exact Drawn0.refl _ | apply Drawn0.step)⟩
     · rw [if_neg c14] at H
       have c14b0 : decide (a0 < 921600) = false := decide_eq_false c14
       clear c14
       by_cases c15 : a0 ≤ 1114109
       · rw [if_pos c15] at H
         have c15b0 : decide (a0 ≤ 1114109) = true := decide_eq_true c15
         clear c15
         obtain rfl := Option.some.inj H
         go_enter Tryd.func55, Tryd.ntmps55
         go_wp2
         go_ret
         exact ⟨by first | rfl | (simp; done) | (simp [*]; done), by repeat (first | exact Drawn0.refl _ | apply Drawn0.step)⟩
       · rw [if_neg c15] at H
         have c15b0 : decide (a0 ≤ 1114109) = false := decide_eq_false c15
         clear c15
         obtain rfl := Option.some.inj H
         go_enter Tryd.func55, Tryd.ntmps55
         go_wp2
         go_ret
         exact ⟨by first | rfl | (simp; done) | (simp [*]; done), by repeat (first | exact Drawn0.refl _ | apply Drawn0.step)⟩
   · rw [if_neg c13] at H
     have c13b0 : decide (917504 ≤ a0) = false := decide_eq_false c13
     clear c13
     by_cases c16 : a0 ≤ 1114109
     · rw [if_pos c16] at H
       have c16b0 : decide (a0 ≤ 1114109) = true := decide_eq_true c16
       clear c16
       obtain rfl := Option.some.inj H
       go_enter Tryd.func55, Tryd.ntmps55
       go_wp2
       go_ret
       exact ⟨by first | rfl | (simp; done) | (simp [*]; done), by repeat (first | exact Drawn0.refl _ | apply Drawn0.step)⟩
     · rw [if_neg c16] at H
       have c16b0 : decide (a0 ≤ 1114109) = false := decide_eq_false c16
       clear c16
       obtain rfl := Option.some.inj H
       go_enter Tryd.func55, Tryd.ntmps55
       go_wp2
       go_ret
       exact ⟨by first | rfl | (simp; done) | (simp [*]; done), by repeat (first | exact Drawn0.refl _ | apply Drawn0.step)⟩
def rf04_Take.f (k : Nat) (a0 : ByteArray) : Option (Int × Int) := (rf01_First.f k a0).bind fun bt156 => (if bt156.2 = 0 then (some (0, 0)) else ((rf04_May.f bt156.1).bind fun t158 => (if t158 = true then (some (bt156.1, bt156.2)) else (some (0, 0)))))
set_option maxHeartbeats 8000000 in
set_option maxRecDepth 100000 in
theorem rf04_Take.calls (k : Nat) (a0 : ByteArray) (r1 : Int) (r2 : Int) (w : World) (h : rf04_Take.f k a0 = some (r1, r2)) :
 Calls Tryd.prog 38 #[.string a0] w fun e w' => e = .returned (.tuple #[.int .i64 r1, .int .i64 r2]) ∧ Below w.heap.size w w' := by
 have HB := Aside0.mk (Below.refl w.heap.size w)
 have H : ((rf01_First.f k a0).bind fun bt156 => (if bt156.2 = 0 then (some (0, 0)) else ((rf04_May.f bt156.1).bind fun t158 => (if t158 = true then (some (bt156.1, bt156.2)) else (some (0, 0)))))) = some (r1, r2) := h
 clear h
 replace H := Option.bind_eq_some_iff.mp H
 obtain ⟨⟨t156, t157⟩, A20, H⟩ := H
 replace H : (if t157 = 0 then (some (0, 0)) else ((rf04_May.f t156).bind fun t158 => (if t158 = true then (some (t156, t157)) else (some (0, 0))))) = some (r1, r2) := H
 have A2 := Aside0.mk A20
 clear A20
 by_cases c3 : t157 = 0
 · rw [if_pos c3] at H
   have c3b0 : (t157 == 0) = true := beq_iff_eq.mpr c3
   have c3b1 : (t157 != 0) = false := bne_eq_false_iff_eq.mpr c3
   clear c3
   simp only [Option.some.injEq, Prod.mk.injEq] at H
   obtain ⟨rfl, rfl⟩ := H
   go_enter Tryd.func38, Tryd.ntmps38
   go_wp2_with (first | ((with_reducible refine gate_callee (f := 54) rfl ?_); refine goesL_ (some 8) rfl rfl Tryd.func54 (by kernel_rfl) rfl #[.string a0] rfl (by (try simp only [List.map_toArray, List.map_cons, List.map_nil]); first | done | rfl | (simp only [List.length_drop, List.length_take]; rfl)) ?_; (with_reducible refine (rf01_First.calls k a0 t156 t157 _ A2.out).mono ?_); rintro e w4 ⟨rfl, hb⟩; refine ⟨_, rfl, ?_⟩; have n0_ := Aside0.mk (below_step (by repeat (first | (with_reducible first | exact HB.out | apply below_alloc | apply pw_below_drewN | apply below_drew1) | exact HB.out)) hb); clear HB; have HB := n0_; clear n0_; (try clear hb); (try clear hb2); (try clear hk); (try clear hi)))
   go_ret2
   exact ⟨by first | rfl | (simp [errW_none, errW_some] <;> rfl) | (simp [*, errW_none, errW_some] <;> rfl), by repeat (first | (with_reducible first | exact HB.out | apply below_alloc | apply pw_below_drewN | apply below_drew1) | exact HB.out)⟩
 · rw [if_neg c3] at H
   have c3b0 : (t157 == 0) = false := beq_eq_false_iff_ne.mpr c3
   have c3b1 : (t157 != 0) = true := bne_iff_ne.mpr c3
   replace H := Option.bind_eq_some_iff.mp H
   obtain ⟨t158, A50, H⟩ := H
   replace H : (if t158 = true then (some (t156, t157)) else (some (0, 0))) = some (r1, r2) := H
   have A5 := Aside0.mk A50
   clear A50
   by_cases c6 : t158 = true
   · subst c6
     have H1 : (some (t156, t157)) = some (r1, r2) := by rw [if_pos rfl] at H; exact H
     clear H
     have H := H1
     clear H1
     simp only [Option.some.injEq, Prod.mk.injEq] at H
     obtain ⟨rfl, rfl⟩ := H
     go_enter Tryd.func38, Tryd.ntmps38
     go_wp2_with (first | ((with_reducible refine gate_callee (f := 54) rfl ?_); refine goesL_ (some 8) rfl rfl Tryd.func54 (by kernel_rfl) rfl #[.string a0] rfl (by (try simp only [List.map_toArray, List.map_cons, List.map_nil]); first | done | rfl | (simp only [List.length_drop, List.length_take]; rfl)) ?_; (with_reducible refine (rf01_First.calls k a0 t156 t157 _ A2.out).mono ?_); rintro e w7 ⟨rfl, hb⟩; refine ⟨_, rfl, ?_⟩; have n0_ := Aside0.mk (below_step (by repeat (first | (with_reducible first | exact HB.out | apply below_alloc | apply pw_below_drewN | apply below_drew1) | exact HB.out)) hb); clear HB; have HB := n0_; clear n0_; (try clear hb); (try clear hb2); (try clear hk); (try clear hi)) | (go_at_call 55; (with_reducible refine (rf04_May.calls t156 true _ A5.out).mono ?_); rintro e w' ⟨rfl, ⟨nd, rfl⟩⟩))
     go_ret2
     exact ⟨by first | rfl | (simp [errW_none, errW_some] <;> rfl) | (simp [*, errW_none, errW_some] <;> rfl), by repeat (first | (with_reducible first | exact HB.out | apply below_alloc | apply pw_below_drewN | apply below_drew1) | exact HB.out)⟩
   · replace c6 := Bool.eq_false_iff.mpr c6
     subst c6
     have H1 : (some (0, 0)) = some (r1, r2) := by rw [if_neg (show ¬ (false = true) by decide)] at H; exact H
     clear H
     have H := H1
     clear H1
     simp only [Option.some.injEq, Prod.mk.injEq] at H
     obtain ⟨rfl, rfl⟩ := H
     go_enter Tryd.func38, Tryd.ntmps38
     go_wp2_with (first | ((with_reducible refine gate_callee (f := 54) rfl ?_); refine goesL_ (some 8) rfl rfl Tryd.func54 (by kernel_rfl) rfl #[.string a0] rfl (by (try simp only [List.map_toArray, List.map_cons, List.map_nil]); first | done | rfl | (simp only [List.length_drop, List.length_take]; rfl)) ?_; (with_reducible refine (rf01_First.calls k a0 t156 t157 _ A2.out).mono ?_); rintro e w8 ⟨rfl, hb⟩; refine ⟨_, rfl, ?_⟩; have n0_ := Aside0.mk (below_step (by repeat (first | (with_reducible first | exact HB.out | apply below_alloc | apply pw_below_drewN | apply below_drew1) | exact HB.out)) hb); clear HB; have HB := n0_; clear n0_; (try clear hb); (try clear hb2); (try clear hk); (try clear hi)) | (go_at_call 55; (with_reducible refine (rf04_May.calls t156 false _ A5.out).mono ?_); rintro e w' ⟨rfl, ⟨nd, rfl⟩⟩))
     go_ret2
     exact ⟨by first | rfl | (simp [errW_none, errW_some] <;> rfl) | (simp [*, errW_none, errW_some] <;> rfl), by repeat (first | (with_reducible first | exact HB.out | apply below_alloc | apply pw_below_drewN | apply below_drew1) | exact HB.out)⟩
def rf07_Piece.f (k : Nat) (a0 : ByteArray) : Option (Int) := if a0.toList = ([] : List UInt8) then (some 0) else (if 0 < (a0.size : Int) then ((rf02_Literal.f k (bt a0 0)).bind fun t159 => (if t159 = true then (some 1) else ((rf03_Triplet.f a0).bind fun t160 => (if t160 = true then (some 3) else ((rf04_Take.f k a0).bind fun bt161 => (some bt161.2)))))) else (none))
set_option maxHeartbeats 8000000 in
set_option maxRecDepth 100000 in
theorem rf07_Piece.calls (k : Nat) (a0 : ByteArray) (r : Int) (w : World) (h : rf07_Piece.f k a0 = some r) :
 Calls Tryd.prog 23 #[.string a0] w fun e w' => e = .returned (.int .i64 r) ∧ Below w.heap.size w w' := by
 have HB := Aside0.mk (Below.refl w.heap.size w)
 have H : (if a0.toList = ([] : List UInt8) then (some 0) else (if 0 < (a0.size : Int) then ((rf02_Literal.f k (bt a0 0)).bind fun t159 => (if t159 = true then (some 1) else ((rf03_Triplet.f a0).bind fun t160 => (if t160 = true then (some 3) else ((rf04_Take.f k a0).bind fun bt161 => (some bt161.2)))))) else (none))) = some r := h
 clear h
 by_cases c2 : a0.toList = ([] : List UInt8)
 · rw [if_pos c2] at H
   have c2b0 : (a0.toList == ([] : List UInt8)) = true := beq_iff_eq.mpr c2
   have c2b1 : (a0.toList != ([] : List UInt8)) = false := bne_eq_false_iff_eq.mpr c2
   clear c2
   obtain rfl := Option.some.inj H
   go_enter Tryd.func23, Tryd.ntmps23
   go_wp2
   go_ret
   exact ⟨by first | rfl | (simp [errW_none, errW_some] <;> rfl) | (simp [*, errW_none, errW_some] <;> rfl), by repeat (first | (with_reducible first | exact HB.out | apply below_alloc | apply pw_below_drewN | apply below_drew1) | exact HB.out)⟩
 · rw [if_neg c2] at H
   have c2b0 : (a0.toList == ([] : List UInt8)) = false := beq_eq_false_iff_ne.mpr c2
   have c2b1 : (a0.toList != ([] : List UInt8)) = true := bne_iff_ne.mpr c2
   by_cases c3 : 0 < (a0.size : Int)
   · rw [if_pos c3] at H
     have c3b0 : decide (0 < (a0.size : Int)) = true := decide_eq_true c3
     have c3b1 : decide (0 < a0.size) = true := decide_eq_true (by omega)
     clear c3
     replace H := Option.bind_eq_some_iff.mp H
     obtain ⟨t159, A50, H⟩ := H
     replace H : (if t159 = true then (some 1) else ((rf03_Triplet.f a0).bind fun t160 => (if t160 = true then (some 3) else ((rf04_Take.f k a0).bind fun bt161 => (some bt161.2))))) = some r := H
     have A5 := Aside0.mk A50
     clear A50
     by_cases c6 : t159 = true
     · subst c6
       have H1 : (some 1) = some r := by rw [if_pos rfl] at H; exact H
       clear H
       have H := H1
       clear H1
       obtain rfl := Option.some.inj H
       have p4 : 0 ≤ (0 : Int) := (by omega)
       have q4 : 0 < a0.size := (by have : (0 : Int) < (a0.size : Int) := of_decide_eq_true (by first | (with_reducible assumption) | assumption); omega)
       have hx4 : ∀ h : 0 < a0.size, ((a0[0]'h).toNat : Int) = bt a0 0 := bt_at a0 0
       clear p4
       have qi4 : (0 < (a0.size : Int)) = True := eq_true (of_decide_eq_true (by first | (with_reducible assumption) | assumption))
       replace q4 := eq_true q4
       go_enter Tryd.func23, Tryd.ntmps23
       go_wp2_with (first | ((with_reducible refine gate_callee (f := 36) rfl ?_); refine goesL_ (some 9) rfl rfl Tryd.func36 (by kernel_rfl) rfl #[.int .u8 (bt a0 0)] rfl (by (try simp only [List.map_toArray, List.map_cons, List.map_nil]); first | done | rfl | (simp only [List.length_drop, List.length_take]; rfl)) ?_; (with_reducible refine (rf02_Literal.calls k (bt a0 0) true _ A5.out).mono ?_); rintro e w' ⟨rfl, ⟨nd, rfl⟩⟩; refine ⟨_, rfl, ?_⟩))
       go_ret
       exact ⟨by first | rfl | (simp [errW_none, errW_some] <;> rfl) | (simp [*, errW_none, errW_some] <;> rfl), by repeat (first | (with_reducible first | exact HB.out | apply below_alloc | apply pw_below_drewN | apply below_drew1) | exact HB.out)⟩
     · replace c6 := Bool.eq_false_iff.mpr c6
       subst c6
       have H1 : ((rf03_Triplet.f a0).bind fun t160 => (if t160 = true then (some 3) else ((rf04_Take.f k a0).bind fun bt161 => (some bt161.2)))) = some r := by rw [if_neg (show ¬ (false = true) by decide)] at H; exact H
       clear H
       have H := H1
       clear H1
       replace H := Option.bind_eq_some_iff.mp H
       obtain ⟨t160, A70, H⟩ := H
       replace H : (if t160 = true then (some 3) else ((rf04_Take.f k a0).bind fun bt161 => (some bt161.2))) = some r := H
       have A7 := Aside0.mk A70
       clear A70
       by_cases c8 : t160 = true
       · subst c8
         have H1 : (some 3) = some r := by rw [if_pos rfl] at H; exact H
         clear H
         have H := H1
         clear H1
         obtain rfl := Option.some.inj H
         have p4 : 0 ≤ (0 : Int) := (by omega)
         have q4 : 0 < a0.size := (by have : (0 : Int) < (a0.size : Int) := of_decide_eq_true (by first | (with_reducible assumption) | assumption); omega)
         have hx4 : ∀ h : 0 < a0.size, ((a0[0]'h).toNat : Int) = bt a0 0 := bt_at a0 0
         clear p4
         have qi4 : (0 < (a0.size : Int)) = True := eq_true (of_decide_eq_true (by first | (with_reducible assumption) | assumption))
         replace q4 := eq_true q4
         go_enter Tryd.func23, Tryd.ntmps23
         go_wp2_with (first | ((with_reducible refine gate_callee (f := 36) rfl ?_); refine goesL_ (some 9) rfl rfl Tryd.func36 (by kernel_rfl) rfl #[.int .u8 (bt a0 0)] rfl (by (try simp only [List.map_toArray, List.map_cons, List.map_nil]); first | done | rfl | (simp only [List.length_drop, List.length_take]; rfl)) ?_; (with_reducible refine (rf02_Literal.calls k (bt a0 0) false _ A5.out).mono ?_); rintro e w' ⟨rfl, ⟨nd, rfl⟩⟩; refine ⟨_, rfl, ?_⟩) | ((with_reducible refine gate_callee (f := 37) rfl ?_); refine goesL_ (some 11) rfl rfl Tryd.func37 (by kernel_rfl) rfl #[.string a0] rfl (by (try simp only [List.map_toArray, List.map_cons, List.map_nil]); first | done | rfl | (simp only [List.length_drop, List.length_take]; rfl)) ?_; (with_reducible refine (rf03_Triplet.calls a0 true _ A7.out).mono ?_); rintro e w' ⟨rfl, ⟨nd, rfl⟩⟩; refine ⟨_, rfl, ?_⟩))
         go_ret
         exact ⟨by first | rfl | (simp [errW_none, errW_some] <;> rfl) | (simp [*, errW_none, errW_some] <;> rfl), by repeat (first | (with_reducible first | exact HB.out | apply below_alloc | apply pw_below_drewN | apply below_drew1) | exact HB.out)⟩
       · replace c8 := Bool.eq_false_iff.mpr c8
         subst c8
         have H1 : ((rf04_Take.f k a0).bind fun bt161 => (some bt161.2)) = some r := by rw [if_neg (show ¬ (false = true) by decide)] at H; exact H
         clear H
         have H := H1
         clear H1
         replace H := Option.bind_eq_some_iff.mp H
         obtain ⟨⟨t161, t162⟩, A90, H⟩ := H
         replace H : (some t162) = some r := H
         have A9 := Aside0.mk A90
         clear A90
         obtain rfl := Option.some.inj H
         have p4 : 0 ≤ (0 : Int) := (by omega)
         have q4 : 0 < a0.size := (by have : (0 : Int) < (a0.size : Int) := of_decide_eq_true (by first | (with_reducible assumption) | assumption); omega)
         have hx4 : ∀ h : 0 < a0.size, ((a0[0]'h).toNat : Int) = bt a0 0 := bt_at a0 0
         clear p4
         have qi4 : (0 < (a0.size : Int)) = True := eq_true (of_decide_eq_true (by first | (with_reducible assumption) | assumption))
         replace q4 := eq_true q4
         go_enter Tryd.func23, Tryd.ntmps23
         go_wp2_with (first | ((with_reducible refine gate_callee (f := 36) rfl ?_); refine goesL_ (some 9) rfl rfl Tryd.func36 (by kernel_rfl) rfl #[.int .u8 (bt a0 0)] rfl (by (try simp only [List.map_toArray, List.map_cons, List.map_nil]); first | done | rfl | (simp only [List.length_drop, List.length_take]; rfl)) ?_; (with_reducible refine (rf02_Literal.calls k (bt a0 0) false _ A5.out).mono ?_); rintro e w' ⟨rfl, ⟨nd, rfl⟩⟩; refine ⟨_, rfl, ?_⟩) | ((with_reducible refine gate_callee (f := 37) rfl ?_); refine goesL_ (some 11) rfl rfl Tryd.func37 (by kernel_rfl) rfl #[.string a0] rfl (by (try simp only [List.map_toArray, List.map_cons, List.map_nil]); first | done | rfl | (simp only [List.length_drop, List.length_take]; rfl)) ?_; (with_reducible refine (rf03_Triplet.calls a0 false _ A7.out).mono ?_); rintro e w' ⟨rfl, ⟨nd, rfl⟩⟩; refine ⟨_, rfl, ?_⟩) | ((with_reducible refine gate_callee (f := 38) rfl ?_); refine goesL_ (some 14) rfl rfl Tryd.func38 (by kernel_rfl) rfl #[.string a0] rfl (by (try simp only [List.map_toArray, List.map_cons, List.map_nil]); first | done | rfl | (simp only [List.length_drop, List.length_take]; rfl)) ?_; (with_reducible refine (rf04_Take.calls k a0 t161 t162 _ A9.out).mono ?_); rintro e w10 ⟨rfl, hb⟩; refine ⟨_, rfl, ?_⟩; have n0_ := Aside0.mk (below_step (by repeat (first | (with_reducible first | exact HB.out | apply below_alloc | apply pw_below_drewN | apply below_drew1) | exact HB.out)) hb); clear HB; have HB := n0_; clear n0_; (try clear hb); (try clear hb2); (try clear hk); (try clear hi)))
         go_ret
         exact ⟨by first | rfl | (simp [errW_none, errW_some] <;> rfl) | (simp [*, errW_none, errW_some] <;> rfl), by repeat (first | (with_reducible first | exact HB.out | apply below_alloc | apply pw_below_drewN | apply below_drew1) | exact HB.out)⟩
   · rw [if_neg c3] at H
     exact absurd H (by simp)
end Go.Proofs.YtkipkbggnfllkaaDoor.P
end
section
namespace Go.Proofs.YtkipkbggnfllkaaDoor.P
open Go.RowKit Go.Proofs.YtkipkbggnfllkaaDoorW.PrintWords Go.Proofs.YtkipkbggnfllkaaDoorW.PrintLast Go.Proofs.YtkipkbggnfllkaaDoorW.PrintMore
set_option linter.unusedVariables false
set_option linter.unusedSimpArgs false
theorem decide_is {p : Prop} [Decidable p] {b : Bool} (h : b = true ↔ p) : b = decide p := by
 cases b with
 | true => exact (decide_eq_true (h.1 rfl)).symm
 | false => exact (decide_eq_false fun g => by cases h.2 g).symm
theorem ref_may4 (c : Nat) : rf04_May.f (c : Int) = some (decide (MayC c)) := by
 unfold rf04_May.f
 have e : Int.tmod (c : Int) 65536 = ((c % 65536 : Nat) : Int) := rfl
 simp only [e]
 repeat' split
 all_goals
  refine congrArg some (decide_is ?_)
  unfold MayC
  simp only [decide_eq_true_eq, true_iff, Bool.false_eq_true, false_iff]
  omega
theorem ref_mayU (c : Nat) : rf01_May.f (c : Int) = some (decide (c ≤ 1114111 ∧ (c < 55296 ∨ 57343 < c))) := by
 unfold rf01_May.f
 repeat' split
 all_goals
  refine congrArg some (decide_is ?_)
  simp only [decide_eq_true_eq, true_iff, Bool.false_eq_true, false_iff]
  omega
theorem ref_tail : ∀ (n j c : Nat), n + j ≤ 5 → c ≤ 1114111 → Ev (fun k => rf01_tail.l0 k (c : Int) ((n + j : Nat) : Int) (j : Int)) ((128 + c / 64 ^ n % 64 : Nat) : Int)
 | 0, j, c, hn, hc => by
  refine Ev.step (f := fun _ => some _) (fun k => by simp only [rf01_tail.l0]; rw [if_neg (by omega)]) ?_
  have e : (wrap64 (128 + Int.tmod (c : Int) 64)) % 256 = ((128 + c / 64 ^ 0 % 64 : Nat) : Int) := by
   rw [show Int.tmod (c : Int) 64 = ((c % 64 : Nat) : Int) from rfl, w64 (by omega) (by omega)]
   simp
   omega
  rw [e]
  exact Ev.now _
 | n + 1, j, c, hn, hc => by
  have ih := ref_tail n (j + 1) (c / 64) (by omega) (by omega)
  have e : c / 64 / 64 ^ n = c / 64 ^ (n + 1) := by rw [Nat.div_div_eq_div_mul, Nat.pow_succ, Nat.mul_comm]
  rw [e] at ih
  refine Ev.step (f := fun k => rf01_tail.l0 k ((c / 64 : Nat) : Int) ((n + (j + 1) : Nat) : Int) ((j + 1 : Nat) : Int)) (fun k => ?_) ih
  simp only [rf01_tail.l0]
  rw [if_pos (by omega), show Int.tdiv (c : Int) 64 = ((c / 64 : Nat) : Int) from rfl, w64 (by omega) (by omega), w64 (by omega) (by omega)]
  have e1 : ((n + 1 + j : Nat) : Int) = ((n + (j + 1) : Nat) : Int) := by omega
  have e2 : (j : Int) + 1 = ((j + 1 : Nat) : Int) := by omega
  rw [e1, e2]
theorem ref_tail_at (n c : Nat) (hn : n ≤ 5) (hc : c ≤ 1114111) : Ev (fun k => rf01_tail.f k (c : Int) (n : Int)) ((128 + c / 64 ^ n % 64 : Nat) : Int) := ref_tail n 0 c hn hc
def oneN (c : Nat) : List Nat :=
 if c < 128 then [c] else if c < 2048 then [192 + c / 64, 128 + c % 64] else if c < 65536 then [224 + c / 4096, 128 + c / 64 % 64, 128 + c % 64]
 else [240 + c / 262144, 128 + c / 4096 % 64, 128 + c / 64 % 64, 128 + c % 64]
theorem bs_str2 (a b : Nat) (ha : a < 256) (hb : b < 256) : bs (strOfNums [(a : Int), (b : Int)]) = [a, b] := by
 rw [bs_strOfNums]
 · simp
 · intro x hx
   simp at hx
   omega
theorem bs_str3 (a b c : Nat) (ha : a < 256) (hb : b < 256) (hc : c < 256) : bs (strOfNums [(a : Int), (b : Int), (c : Int)]) = [a, b, c] := by
 rw [bs_strOfNums]
 · simp
 · intro x hx
   simp at hx
   omega
theorem bs_str4 (a b c d : Nat) (ha : a < 256) (hb : b < 256) (hc : c < 256) (hd : d < 256) : bs (strOfNums [(a : Int), (b : Int), (c : Int), (d : Int)]) = [a, b, c, d] := by
 rw [bs_strOfNums]
 · simp
 · intro x hx
   simp at hx
   omega
theorem ref_one (c : Nat) (hc : c ≤ 1114111) : ∃ t, Ev (fun k => rf01_One.f k (c : Int)) t ∧ bs t = oneN c := by
 have t0 : Ev (fun k => rf01_tail.f k (c : Int) 0) ((128 + c % 64 : Nat) : Int) := by
  have := ref_tail_at 0 c (by omega) hc
  simpa using this
 have t1 : Ev (fun k => rf01_tail.f k (c : Int) 1) ((128 + c / 64 % 64 : Nat) : Int) := ref_tail_at 1 c (by omega) hc
 have t2 : Ev (fun k => rf01_tail.f k (c : Int) 2) ((128 + c / 4096 % 64 : Nat) : Int) := ref_tail_at 2 c (by omega) hc
 unfold oneN
 by_cases h1 : c < 128
 · rw [if_pos h1]
   refine ⟨_, Ev.congr (f := fun _ => some (strOfNums [(c : Int) % 256])) (fun k => by simp only [rf01_One.f]; rw [if_pos (by omega)]) (Ev.now _), ?_⟩
   rw [show (c : Int) % 256 = (c : Int) by omega, bs_strOfNums]
   · simp
   · intro x hx
     simp at hx
     omega
 by_cases h2 : c < 2048
 · rw [if_neg h1, if_pos h2]
   refine ⟨_, Ev.congr (fun k => by simp only [rf01_One.f]; rw [if_neg (by omega), if_pos (by omega)]) (t0.bind (Ev.now _)), ?_⟩
   rw [show (wrap64 (192 + (wrap64 (Int.tdiv (c : Int) 64)))) % 256 = ((192 + c / 64 : Nat) : Int) by
    rw [show Int.tdiv (c : Int) 64 = ((c / 64 : Nat) : Int) from rfl, w64 (n := ((c / 64 : Nat) : Int)) (by omega) (by omega), w64 (by omega) (by omega)]; omega]
   exact bs_str2 _ _ (by omega) (by omega)
 by_cases h3 : c < 65536
 · rw [if_neg h1, if_neg h2, if_pos h3]
   refine ⟨strOfNums [(wrap64 (224 + (wrap64 (Int.tdiv (c : Int) 4096)))) % 256, ((128 + c / 64 % 64 : Nat) : Int), ((128 + c % 64 : Nat) : Int)], ?_, ?_⟩
   · refine Ev.congr (fun k => by simp only [rf01_One.f]; rw [if_neg (by omega), if_neg (by omega), if_pos (by omega)]) ?_
     refine t1.bind ?_
     refine t0.bind ?_
     exact Ev.now _
   rw [show (wrap64 (224 + (wrap64 (Int.tdiv (c : Int) 4096)))) % 256 = ((224 + c / 4096 : Nat) : Int) by
    rw [show Int.tdiv (c : Int) 4096 = ((c / 4096 : Nat) : Int) from rfl, w64 (n := ((c / 4096 : Nat) : Int)) (by omega) (by omega), w64 (by omega) (by omega)]; omega]
   exact bs_str3 _ _ _ (by omega) (by omega) (by omega)
 · rw [if_neg h1, if_neg h2, if_neg h3]
   refine ⟨strOfNums [(wrap64 (240 + (wrap64 (Int.tdiv (c : Int) 262144)))) % 256, ((128 + c / 4096 % 64 : Nat) : Int), ((128 + c / 64 % 64 : Nat) : Int), ((128 + c % 64 : Nat) : Int)], ?_, ?_⟩
   · refine Ev.congr (fun k => by simp only [rf01_One.f]; rw [if_neg (by omega), if_neg (by omega), if_neg (by omega)]) ?_
     refine t2.bind ?_
     refine t1.bind ?_
     refine t0.bind ?_
     exact Ev.now _
   rw [show (wrap64 (240 + (wrap64 (Int.tdiv (c : Int) 262144)))) % 256 = ((240 + c / 262144 : Nat) : Int) by
    rw [show Int.tdiv (c : Int) 262144 = ((c / 262144 : Nat) : Int) from rfl, w64 (n := ((c / 262144 : Nat) : Int)) (by omega) (by omega), w64 (by omega) (by omega)]; omega]
   exact bs_str4 _ _ _ _ (by omega) (by omega) (by omega) (by omega)
def nextC (i c b : Nat) : Nat := if i = 1 then (if b ≥ 240 then b - 240 else if b ≥ 224 then b - 224 else if b ≥ 192 then b - 192 else b) else 64 * c + b % 64
def firstL (l : List Nat) : Nat → Nat → Nat → Nat × Nat
 | 0, _, _ => (0, 0)
 | d + 1, i, c => match l[i - 1]? with
  | none => (0, 0)
  | some b => if (nextC i c b ≤ 1114111 ∧ (nextC i c b < 55296 ∨ 57343 < nextC i c b)) ∧ oneN (nextC i c b) = l.take i then (nextC i c b, i) else firstL l d (i + 1) (nextC i c b)
theorem ref_first_at (s : ByteArray) (c i : Nat) (hi : 1 ≤ i) (hi4 : i ≤ 4) (hs : i ≤ s.size) (R : Nat × Nat)
 (h : ¬ ((c ≤ 1114111 ∧ (c < 55296 ∨ 57343 < c)) ∧ oneN c = (bs s).take i) → Ev (fun k => rf01_First.l0 k s (c : Int) ((i + 1 : Nat) : Int)) ((R.1 : Int), (R.2 : Int))) :
 Ev (fun k => rf01_First.j3 k s (c : Int) (i : Int)) (if (c ≤ 1114111 ∧ (c < 55296 ∨ 57343 < c)) ∧ oneN c = (bs s).take i then ((c : Int), (i : Int)) else ((R.1 : Int), (R.2 : Int))) := by
 have ew : wrap64 ((i : Int) + 1) = ((i + 1 : Nat) : Int) := by rw [w64 (by omega) (by omega)]; omega
 refine Ev.step (f := _) (fun k => by simp only [rf01_First.j3]; rw [ref_mayU, ew]) ?_
 simp only [Option.bind_some]
 by_cases h1 : c ≤ 1114111 ∧ (c < 55296 ∨ 57343 < c)
 · rw [decide_eq_true h1]
   refine Ev.pos rfl ?_
   obtain ⟨t, ht, hb⟩ := ref_one c h1.1
   refine ht.bind (Ev.pos (by omega) (Ev.pos (by omega) ?_))
   have hu : bs (s.extract 0 (i : Int).toNat) = (bs s).take i := by rw [Int.toNat_natCast, bs_upto]
   by_cases h2 : oneN c = (bs s).take i
   · rw [if_pos ⟨h1, h2⟩]
     exact Ev.pos (by rw [toList_bs, hb, hu, h2]) (Ev.now _)
   · have h3 := h fun g => h2 g.2
     rw [if_neg fun g => h2 g.2]
     exact Ev.neg (by rw [toList_bs, hb, hu]; exact h2) h3
 · have h3 := h fun g => h1 g.1
   rw [decide_eq_false h1, if_neg fun g => h1 g.1]
   exact Ev.neg (by simp) h3
theorem ref_first_j2 (s : ByteArray) (b c : Nat) (hb : b < 256) (R : Int × Int) (h : Ev (fun k => rf01_First.j3 k s ((nextC 1 c b : Nat) : Int) ((1 : Nat) : Int)) R) :
 Ev (fun k => if (b : Int) ≥ 192 then (rf01_First.j2 k s (wrap64 ((b : Int) - 192)) ((1 : Nat) : Int) (b : Int)) else (rf01_First.j2 k s (b : Int) ((1 : Nat) : Int) (b : Int))) R := by
 have en : nextC 1 c b = if b ≥ 240 then b - 240 else if b ≥ 224 then b - 224 else if b ≥ 192 then b - 192 else b := by unfold nextC; rw [if_pos rfl]
 by_cases a2 : b ≥ 240
 · rw [if_pos a2] at en
   refine Ev.pos (by omega) (Ev.step (f := fun k => rf01_First.j3 k s ((nextC 1 c b : Nat) : Int) ((1 : Nat) : Int)) (fun k => ?_) h)
   simp only [rf01_First.j2]
   rw [if_pos (by omega), if_pos (by omega), w64 (n := (b : Int) - 240) (by omega) (by omega), en, show (b : Int) - 240 = ((b - 240 : Nat) : Int) by omega]
 rw [if_neg a2] at en
 by_cases a3 : b ≥ 224
 · rw [if_pos a3] at en
   refine Ev.pos (by omega) (Ev.step (f := fun k => rf01_First.j3 k s ((nextC 1 c b : Nat) : Int) ((1 : Nat) : Int)) (fun k => ?_) h)
   simp only [rf01_First.j2]
   rw [if_pos (by omega), if_neg (by omega), w64 (n := (b : Int) - 224) (by omega) (by omega), en, show (b : Int) - 224 = ((b - 224 : Nat) : Int) by omega]
 rw [if_neg a3] at en
 by_cases a1 : b ≥ 192
 · rw [if_pos a1] at en
   refine Ev.pos (by omega) (Ev.step (f := fun k => rf01_First.j3 k s ((nextC 1 c b : Nat) : Int) ((1 : Nat) : Int)) (fun k => ?_) h)
   simp only [rf01_First.j2]
   rw [if_neg (by omega), if_neg (by omega), w64 (n := (b : Int) - 192) (by omega) (by omega), en, show (b : Int) - 192 = ((b - 192 : Nat) : Int) by omega]
 rw [if_neg a1] at en
 refine Ev.neg (by omega) (Ev.step (f := fun k => rf01_First.j3 k s ((nextC 1 c b : Nat) : Int) ((1 : Nat) : Int)) (fun k => ?_) h)
 simp only [rf01_First.j2]
 rw [if_neg (by omega), if_neg (by omega), en]
theorem next_wrap {i b c : Nat} (hb : b < 256) (hc : c ≤ 6000000000) (g : ¬ i = 1) : wrap64 ((wrap64 (64 * (c : Int))) + (Int.tmod (b : Int) 64)) = ((nextC i c b : Nat) : Int) := by
 unfold nextC
 rw [if_neg g, show Int.tmod (b : Int) 64 = ((b % 64 : Nat) : Int) from rfl, w64 (n := 64 * (c : Int)) (by omega) (by omega), w64 (by omega) (by omega)]
 omega
theorem ref_first_from (s : ByteArray) (hs : s.size ≤ 1099511627776) : ∀ (d i c : Nat), i + d = 5 → 1 ≤ i → c + 1 ≤ 64 ^ i * 300 → Ev (fun k => rf01_First.l0 k s (c : Int) (i : Int)) (((firstL (bs s) d i c).1 : Int), ((firstL (bs s) d i c).2 : Int))
 | 0, i, c, hi, h1, hc => by
  obtain rfl : i = 5 := by omega
  refine Ev.step (f := fun k => rf01_First.j1 k s (c : Int) ((5 : Nat) : Int) false) (fun k => by simp only [rf01_First.l0]; rw [if_neg (by omega)]) ?_
  exact Ev.step (f := fun _ => some (0, 0)) (fun k => by simp only [rf01_First.j1]; rw [if_neg (by simp)]) (Ev.now _)
 | d + 1, i, c, hi, h1, hc => by
  by_cases h : i ≤ s.size
  · obtain ⟨b, hb, hbt, hd⟩ := bs_get s (i - 1) (by omega)
    have hget : (bs s)[i - 1]? = some b := by
     rw [← List.head?_drop, hd]
     rfl
    have hp : 64 ^ (i + 1) = 64 * 64 ^ i := by rw [Nat.pow_succ, Nat.mul_comm]
    have hp2 : 64 ^ i ≤ 16777216 := Nat.le_trans (Nat.pow_le_pow_right (by decide) (show i ≤ 4 by omega)) (by decide)
    have hp4 : 1 ≤ 64 ^ i := Nat.pos_of_ne_zero (by simp)
    have hn1 : nextC i c b + 1 ≤ 64 ^ (i + 1) * 300 := by
     unfold nextC
     rw [hp]
     generalize 64 ^ i = p at *
     repeat' split
     all_goals omega
    have hcb : c ≤ 6000000000 := by
     have h300 := Nat.mul_le_mul_right 300 hp2
     exact Nat.le_trans (Nat.le_of_succ_le hc) (Nat.le_trans h300 (by decide))
    clear hp hp2 hp4 hc
    have ih := ref_first_from s hs d (i + 1) (nextC i c b) (by omega) (by omega) hn1
    clear hn1
    have ew : wrap64 ((i : Int) - 1) = ((i - 1 : Nat) : Int) := by rw [w64 (by omega) (by omega)]; omega
    have ewb : wrap64 (b : Int) = (b : Int) := w64 (by omega) (by omega)
    have hres : firstL (bs s) (d + 1) i c = if (nextC i c b ≤ 1114111 ∧ (nextC i c b < 55296 ∨ 57343 < nextC i c b)) ∧ oneN (nextC i c b) = (bs s).take i then (nextC i c b, i) else firstL (bs s) d (i + 1) (nextC i c b) := by
     simp only [firstL]
     rw [hget]
    rw [hres]
    have hj := ref_first_at s (nextC i c b) i h1 (by omega) h (firstL (bs s) d (i + 1) (nextC i c b)) fun _ => ih
    refine Ev.step (f := fun k => rf01_First.j1 k s (c : Int) (i : Int) true) (fun k => ?_) (Ev.step (f := fun k => if (i : Int) = 1 then (if (b : Int) ≥ 192 then (rf01_First.j2 k s (wrap64 ((b : Int) - 192)) (i : Int) (b : Int)) else (rf01_First.j2 k s (b : Int) (i : Int) (b : Int))) else (rf01_First.j3 k s (wrap64 ((wrap64 (64 * (c : Int))) + (Int.tmod (b : Int) 64))) (i : Int))) (fun k => ?_) ?_)
    · simp only [rf01_First.l0]
      rw [if_pos (by omega), decide_eq_true (by omega)]
    · simp only [rf01_First.j1]
      rw [if_pos trivial, ew, if_pos (by omega), if_pos (by omega), hbt, ewb]
    · have e : (if (nextC i c b ≤ 1114111 ∧ (nextC i c b < 55296 ∨ 57343 < nextC i c b)) ∧ oneN (nextC i c b) = (bs s).take i then (((nextC i c b : Nat) : Int), (i : Int)) else (((firstL (bs s) d (i + 1) (nextC i c b)).1 : Int), ((firstL (bs s) d (i + 1) (nextC i c b)).2 : Int))) =
       (((if (nextC i c b ≤ 1114111 ∧ (nextC i c b < 55296 ∨ 57343 < nextC i c b)) ∧ oneN (nextC i c b) = (bs s).take i then (nextC i c b, i) else firstL (bs s) d (i + 1) (nextC i c b)).1 : Int), ((if (nextC i c b ≤ 1114111 ∧ (nextC i c b < 55296 ∨ 57343 < nextC i c b)) ∧ oneN (nextC i c b) = (bs s).take i then (nextC i c b, i) else firstL (bs s) d (i + 1) (nextC i c b)).2 : Int)) := by split <;> rfl
      rw [e] at hj
      by_cases g : i = 1
      · refine Ev.pos (by omega) ?_
        rw [g] at hj ⊢
        exact ref_first_j2 s b c hb _ hj
      · refine Ev.neg (by omega) ?_
        have e2 := next_wrap (i := i) hb hcb g
        rw [e2]
        exact hj
  · refine Ev.step (f := fun k => rf01_First.j1 k s (c : Int) (i : Int) false) (fun k => ?_) ?_
    · simp only [rf01_First.l0]
      rw [if_pos (by omega), decide_eq_false (by omega)]
    · have hget : (bs s)[i - 1]? = none := List.getElem?_eq_none (by rw [bs_length]; omega)
      have hres : firstL (bs s) (d + 1) i c = (0, 0) := by
       simp only [firstL]
       rw [hget]
      rw [hres]
      exact Ev.step (f := fun _ => some (0, 0)) (fun k => by simp only [rf01_First.j1]; rw [if_neg (by simp)]) (Ev.now _)
def adj (b : Nat) : Nat := if b ≥ 240 then b - 240 else if b ≥ 224 then b - 224 else if b ≥ 192 then b - 192 else b
def MayU (c : Nat) : Prop := c ≤ 1114111 ∧ (c < 55296 ∨ 57343 < c)
theorem oneN1 (c a : Nat) : oneN c = [a] ↔ c < 128 ∧ a = c := by
 unfold oneN
 repeat' split
 all_goals (simp only [List.cons.injEq, and_true, reduceCtorEq, and_false, false_iff]; omega)
theorem oneN2 (c a b : Nat) : oneN c = [a, b] ↔ 128 ≤ c ∧ c < 2048 ∧ a = 192 + c / 64 ∧ b = 128 + c % 64 := by
 unfold oneN
 repeat' split
 all_goals (simp only [List.cons.injEq, and_true, reduceCtorEq, and_false, false_iff]; omega)
theorem oneN3 (c a b d : Nat) : oneN c = [a, b, d] ↔ 2048 ≤ c ∧ c < 65536 ∧ a = 224 + c / 4096 ∧ b = 128 + c / 64 % 64 ∧ d = 128 + c % 64 := by
 unfold oneN
 repeat' split
 all_goals (simp only [List.cons.injEq, and_true, reduceCtorEq, and_false, false_iff]; omega)
theorem oneN4 (c a b d e : Nat) : oneN c = [a, b, d, e] ↔ 65536 ≤ c ∧ a = 240 + c / 262144 ∧ b = 128 + c / 4096 % 64 ∧ d = 128 + c / 64 % 64 ∧ e = 128 + c % 64 := by
 unfold oneN
 repeat' split
 all_goals (simp only [List.cons.injEq, and_true, reduceCtorEq, and_false, false_iff]; omega)
theorem adj_cases (b : Nat) : (240 ≤ b ∧ adj b = b - 240) ∨ (224 ≤ b ∧ b < 240 ∧ adj b = b - 224) ∨ (192 ≤ b ∧ b < 224 ∧ adj b = b - 192) ∨ (b < 192 ∧ adj b = b) := by
 unfold adj
 repeat' split
 all_goals omega
theorem one1 (b0 : Nat) (h0 : b0 < 256) : (MayU (adj b0) ∧ oneN (adj b0) = [b0]) ↔ b0 < 128 := by
 have ha := adj_cases b0
 unfold MayU
 rw [oneN1]
 omega
theorem one2 (b0 b1 : Nat) (h0 : b0 < 256) (h1 : b1 < 256) (hb : 128 ≤ b0) : (MayU (64 * adj b0 + b1 % 64) ∧ oneN (64 * adj b0 + b1 % 64) = [b0, b1]) ↔ (b0 / 32 = 6 ∧ b1 / 64 = 2 ∧ 128 ≤ b0 % 32 * 64 + b1 % 64) := by
 have ha := adj_cases b0
 unfold MayU
 rw [oneN2]
 rcases ha with ha | ha | ha | ha <;> omega
theorem one3 (b0 b1 b2 : Nat) (h0 : b0 < 256) (h1 : b1 < 256) (h2 : b2 < 256) (hb : 128 ≤ b0) : (MayU (64 * (64 * adj b0 + b1 % 64) + b2 % 64) ∧ oneN (64 * (64 * adj b0 + b1 % 64) + b2 % 64) = [b0, b1, b2]) ↔
 (b0 / 16 = 14 ∧ b1 / 64 = 2 ∧ b2 / 64 = 2 ∧ 2048 ≤ b0 % 16 * 4096 + b1 % 64 * 64 + b2 % 64 ∧ MayU (b0 % 16 * 4096 + b1 % 64 * 64 + b2 % 64)) := by
 have ha := adj_cases b0
 unfold MayU
 rw [oneN3]
 rcases ha with ha | ha | ha | ha
 · constructor
   · omega
   · omega
 · have e : 64 * (64 * adj b0 + b1 % 64) + b2 % 64 = b0 % 16 * 4096 + b1 % 64 * 64 + b2 % 64 := by omega
   rw [e]
   constructor
   · intro h
     refine ⟨by omega, by omega, by omega, h.2.1, h.1⟩
   · intro h
     refine ⟨h.2.2.2.2, h.2.2.2.1, by omega, by omega, by omega, by omega⟩
 · constructor
   · omega
   · omega
 · constructor
   · omega
   · omega
theorem one4 (b0 b1 b2 b3 : Nat) (h0 : b0 < 256) (h1 : b1 < 256) (h2 : b2 < 256) (h3 : b3 < 256) (hb : 128 ≤ b0) : (MayU (64 * (64 * (64 * adj b0 + b1 % 64) + b2 % 64) + b3 % 64) ∧ oneN (64 * (64 * (64 * adj b0 + b1 % 64) + b2 % 64) + b3 % 64) = [b0, b1, b2, b3]) ↔
 (b0 / 8 = 30 ∧ b1 / 64 = 2 ∧ b2 / 64 = 2 ∧ b3 / 64 = 2 ∧ 65536 ≤ b0 % 8 * 262144 + b1 % 64 * 4096 + b2 % 64 * 64 + b3 % 64 ∧ MayU (b0 % 8 * 262144 + b1 % 64 * 4096 + b2 % 64 * 64 + b3 % 64)) := by
 have ha := adj_cases b0
 unfold MayU
 rw [oneN4]
 rcases ha with ha | ha | ha | ha
 · by_cases h8 : b0 / 8 = 30
   · have e : 64 * (64 * (64 * adj b0 + b1 % 64) + b2 % 64) + b3 % 64 = b0 % 8 * 262144 + b1 % 64 * 4096 + b2 % 64 * 64 + b3 % 64 := by omega
     rw [e]
     constructor
     · intro h
       refine ⟨by omega, by omega, by omega, by omega, h.2.1, h.1⟩
     · intro h
       refine ⟨h.2.2.2.2.2, h.2.2.2.2.1, by omega, by omega, by omega, by omega⟩
   · constructor
     · intro h
       have a := h.1.1
       clear h
       omega
     · intro h
       exact absurd h.1 h8
 all_goals
  constructor
  · intro h
    have a := h.2.2.1
    clear h
    generalize (64 * (64 * (64 * adj b0 + b1 % 64) + b2 % 64) + b3 % 64) / 262144 = X at a
    omega
  · intro h
    have a := h.1
    clear h
    omega
theorem mayC_mayU {c : Nat} (h : MayC c) : MayU c := by
 unfold MayC at h
 unfold MayU
 omega
def ucsOf (p : Nat × Nat) : Nat := if p.2 = 0 then 0 else if MayC p.1 then p.2 else 0
theorem ucsOf_pos {c n : Nat} (hn : n ≠ 0) : ucsOf (c, n) = if MayC c then n else 0 := by simp only [ucsOf]; rw [if_neg hn]
theorem firstL_none {l : List Nat} {d i c : Nat} (h : l[i - 1]? = none) : firstL l d i c = (0, 0) := by
 cases d with
 | zero => rfl
 | succ d =>
  simp only [firstL]
  rw [h]
instance (c : Nat) : Decidable (MayU c) := by unfold MayU; exact inferInstance
theorem firstL_some {l : List Nat} {d i c b : Nat} (h : l[i - 1]? = some b) : firstL l (d + 1) i c = if MayU (nextC i c b) ∧ oneN (nextC i c b) = l.take i then (nextC i c b, i) else firstL l d (i + 1) (nextC i c b) := by
 simp only [firstL]
 rw [h]
 rfl
theorem firstL_ucs (l : List Nat) (hl : ∀ b ∈ l, b < 256) : ucsOf (firstL l 4 1 0) = ucsAt l := by
 match l, hl with
 | [], _ => rfl
 | b0 :: r, hl =>
  have h0 := hl b0 (by simp)
  have n1 : nextC 1 0 b0 = adj b0 := rfl
  rw [firstL_some (i := 1) (b := b0) rfl, n1, List.take_succ_cons, List.take_zero]
  by_cases c1 : b0 < 128
  · rw [if_pos ((one1 b0 h0).2 c1), ucsOf_pos (by omega), ucsAt_low _ _ (by omega), if_neg]
    unfold MayC adj
    rw [if_neg (by omega), if_neg (by omega), if_neg (by omega)]
    omega
  rw [if_neg fun g => c1 ((one1 b0 h0).1 g)]
  match r, hl with
  | [], _ =>
   rw [firstL_none rfl]
   rfl
  | b1 :: r, hl =>
   have h1 := hl b1 (by simp)
   have n2 : nextC 2 (adj b0) b1 = 64 * adj b0 + b1 % 64 := rfl
   rw [firstL_some (i := 2) (b := b1) rfl, n2, List.take_succ_cons, List.take_succ_cons, List.take_zero]
   by_cases c2 : b0 / 32 = 6 ∧ b1 / 64 = 2 ∧ 128 ≤ b0 % 32 * 64 + b1 % 64
   · rw [if_pos ((one2 b0 b1 h0 h1 (by omega)).2 c2), ucsOf_pos (by omega)]
     have e : 64 * adj b0 + b1 % 64 = b0 % 32 * 64 + b1 % 64 := by
      unfold adj
      rw [if_neg (by omega), if_neg (by omega), if_pos (by omega)]
      omega
     rw [e]
     simp only [ucsAt]
     rw [if_pos c2.1]
     by_cases hm : MayC (b0 % 32 * 64 + b1 % 64)
     · rw [if_pos hm, if_pos ⟨c2.2.1, c2.2.2, hm⟩]
     · rw [if_neg hm, if_neg fun g => hm g.2.2]
   rw [if_neg fun g => c2 ((one2 b0 b1 h0 h1 (by omega)).1 g)]
   match r, hl with
   | [], _ =>
    rw [firstL_none rfl]
    simp only [ucsAt]
    by_cases h6 : b0 / 32 = 6
    · rw [if_pos h6, if_neg fun g => c2 ⟨h6, g.1, g.2.1⟩]
      rfl
    · rw [if_neg h6]
      rfl
   | b2 :: r, hl =>
    have h2 := hl b2 (by simp)
    have n3 : nextC 3 (64 * adj b0 + b1 % 64) b2 = 64 * (64 * adj b0 + b1 % 64) + b2 % 64 := rfl
    rw [firstL_some (i := 3) (b := b2) rfl, n3, List.take_succ_cons, List.take_succ_cons, List.take_succ_cons, List.take_zero]
    have hu2 : b0 / 32 = 6 → ucsAt (b0 :: b1 :: b2 :: r) = 0 := by
     intro h6
     simp only [ucsAt]
     rw [if_pos h6, if_neg fun g => c2 ⟨h6, g.1, g.2.1⟩]
    by_cases c3 : b0 / 16 = 14 ∧ b1 / 64 = 2 ∧ b2 / 64 = 2 ∧ 2048 ≤ b0 % 16 * 4096 + b1 % 64 * 64 + b2 % 64 ∧ MayU (b0 % 16 * 4096 + b1 % 64 * 64 + b2 % 64)
    · have c31 := c3.1
      rw [if_pos ((one3 b0 b1 b2 h0 h1 h2 (by omega)).2 c3), ucsOf_pos (by omega)]
      have e : 64 * (64 * adj b0 + b1 % 64) + b2 % 64 = b0 % 16 * 4096 + b1 % 64 * 64 + b2 % 64 := by
       unfold adj
       rw [if_neg (by omega), if_pos (by omega)]
       omega
      rw [e]
      by_cases hm : MayC (b0 % 16 * 4096 + b1 % 64 * 64 + b2 % 64)
      · rw [if_pos hm]
        simp only [ucsAt]
        rw [if_neg (by omega), if_pos c3.1, if_pos ⟨c3.2.1, c3.2.2.1, c3.2.2.2.1, hm⟩]
      · rw [if_neg hm]
        simp only [ucsAt]
        rw [if_neg (by omega), if_pos c3.1, if_neg fun g => hm g.2.2.2]
    rw [if_neg fun g => c3 ((one3 b0 b1 b2 h0 h1 h2 (by omega)).1 g)]
    have hu3 : b0 / 16 = 14 → ucsAt (b0 :: b1 :: b2 :: r) = 0 := by
     intro h6
     simp only [ucsAt]
     rw [if_neg (by omega), if_pos h6, if_neg fun g => c3 ⟨h6, g.1, g.2.1, g.2.2.1, mayC_mayU g.2.2.2⟩]
    match r, hl, hu2, hu3 with
    | [], _, hu2, hu3 =>
     rw [firstL_none rfl]
     by_cases h6 : b0 / 32 = 6
     · rw [hu2 h6]
       rfl
     by_cases h7 : b0 / 16 = 14
     · rw [hu3 h7]
       rfl
     · simp only [ucsAt]
       rw [if_neg h6, if_neg h7]
       rfl
    | b3 :: r, hl, hu2, hu3 =>
     have h3 := hl b3 (by simp)
     have n4 : nextC 4 (64 * (64 * adj b0 + b1 % 64) + b2 % 64) b3 = 64 * (64 * (64 * adj b0 + b1 % 64) + b2 % 64) + b3 % 64 := rfl
     rw [firstL_some (i := 4) (b := b3) rfl, n4, List.take_succ_cons, List.take_succ_cons, List.take_succ_cons, List.take_succ_cons, List.take_zero]
     by_cases c4 : b0 / 8 = 30 ∧ b1 / 64 = 2 ∧ b2 / 64 = 2 ∧ b3 / 64 = 2 ∧ 65536 ≤ b0 % 8 * 262144 + b1 % 64 * 4096 + b2 % 64 * 64 + b3 % 64 ∧ MayU (b0 % 8 * 262144 + b1 % 64 * 4096 + b2 % 64 * 64 + b3 % 64)
     · have c41 := c4.1
       rw [if_pos ((one4 b0 b1 b2 b3 h0 h1 h2 h3 (by omega)).2 c4), ucsOf_pos (by omega)]
       have e : 64 * (64 * (64 * adj b0 + b1 % 64) + b2 % 64) + b3 % 64 = b0 % 8 * 262144 + b1 % 64 * 4096 + b2 % 64 * 64 + b3 % 64 := by
        unfold adj
        rw [if_pos (by omega)]
        omega
       rw [e]
       by_cases hm : MayC (b0 % 8 * 262144 + b1 % 64 * 4096 + b2 % 64 * 64 + b3 % 64)
       · rw [if_pos hm]
         simp only [ucsAt]
         rw [if_neg (by omega), if_neg (by omega), if_pos c4.1, if_pos ⟨c4.2.1, c4.2.2.1, c4.2.2.2.1, c4.2.2.2.2.1, hm⟩]
       · rw [if_neg hm]
         simp only [ucsAt]
         rw [if_neg (by omega), if_neg (by omega), if_pos c4.1, if_neg fun g => hm g.2.2.2.2]
     · rw [if_neg fun g => c4 ((one4 b0 b1 b2 b3 h0 h1 h2 h3 (by omega)).1 g)]
       by_cases h6 : b0 / 32 = 6
       · rw [hu2 h6]
         rfl
       by_cases h7 : b0 / 16 = 14
       · rw [hu3 h7]
         rfl
       · simp only [ucsAt]
         rw [if_neg h6, if_neg h7]
         by_cases h8 : b0 / 8 = 30
         · rw [if_pos h8, if_neg fun g => c4 ⟨h8, g.1, g.2.1, g.2.2.1, g.2.2.2.1, mayC_mayU g.2.2.2.2⟩]
           rfl
         · rw [if_neg h8]
           rfl
theorem ref_take (s : ByteArray) (hs : s.size ≤ 1099511627776) : ∃ c : Int, Ev (fun k => rf04_Take.f k s) (c, (ucsAt (bs s) : Int)) := by
 have h1 := ref_first_from s hs 4 1 0 (by omega) (by omega) (by omega)
 have h2 := firstL_ucs (bs s) (bs_lt s)
 unfold ucsOf at h2
 by_cases h : (firstL (bs s) 4 1 0).2 = 0
 · rw [if_pos h] at h2
   rw [← h2]
   exact ⟨0, h1.bind (Ev.pos (by omega) (Ev.now _))⟩
 · rw [if_neg h] at h2
   by_cases h3 : MayC (firstL (bs s) 4 1 0).1
   · rw [if_pos h3] at h2
     rw [← h2]
     refine ⟨((firstL (bs s) 4 1 0).1 : Int), h1.bind (Ev.neg (by omega) ?_)⟩
     simp only [ref_may4, decide_eq_true h3, Option.bind_some, if_true]
     exact Ev.now _
   · rw [if_neg h3] at h2
     rw [← h2]
     refine ⟨0, h1.bind (Ev.neg (by omega) ?_)⟩
     simp only [ref_may4, decide_eq_false h3, Option.bind_some, Bool.false_eq_true, if_false]
     exact Ev.now _
theorem ref_piece (s : ByteArray) (hs : s.size ≤ 1099511627776) : Ev (fun k => rf07_Piece.f k s) (pieceN (bs s) : Int) := by
 unfold rf07_Piece.f
 rcases bs_cases s with ⟨-, h2, h3⟩ | ⟨b, r, hb, h2, h3, h4, h5, h6, h7⟩
 · rw [h2]
   exact Ev.pos h3 (Ev.now _)
 · have hp : pieceN (bs s) = if isLit b = true then 1 else if trip (bs s) = true then 3 else ucsAt (bs s) := by rw [h2]; rfl
   refine Ev.neg h6 (Ev.pos (by omega) ?_)
   rw [h3, hp]
   refine (ref_lit hb).bind ?_
   by_cases hl : isLit b = true
   · rw [if_pos hl]
     exact Ev.pos hl (Ev.now _)
   rw [if_neg hl]
   refine Ev.neg hl ?_
   rw [ref_trip]
   simp only [Option.bind_some]
   by_cases ht : trip (bs s) = true
   · rw [if_pos ht]
     exact Ev.pos ht (Ev.now _)
   rw [if_neg ht]
   refine Ev.neg ht ?_
   obtain ⟨c, hc⟩ := ref_take s hs
   exact hc.bind (Ev.now _)
end Go.Proofs.YtkipkbggnfllkaaDoor.P
end
section
namespace Go.Proofs.YtkipkbggnfllkaaDoor.P
open Go.RowKit Go.Proofs.YtkipkbggnfllkaaDoorW.PrintWords Go.Proofs.YtkipkbggnfllkaaDoorW.PrintLast Go.Proofs.YtkipkbggnfllkaaDoorW.PrintMore
attribute [local go_sem] max2_int min2_int max_two min_two max_three min_three max_four min_four
set_option linter.unusedVariables false
set_option linter.unusedSimpArgs false
theorem eqA43 (d : Nat) (w : World) (x0 y0 : ByteArray) (x1 y1 : Int) (x2 y2 : Bool) :
 (Op.equalIn (d + 2) 43 (.agg #[.string x0, .int .i64 x1, .bool x2]) (.agg #[.string y0, .int .i64 y1, .bool y2])).run Tryd.prog w = .ok (x0.toList == y0.toList && (x1 == y1 && (x2 == y2))) w := by
 refine eqA_of Tryd.underlying43 (by kernel_rfl) ?_
 refine eqf_cons (by rfl) (by go_simp; rfl) (by go_simp; rfl) (by go_simp) ?_
 refine eqf_cons (by rfl) (by go_simp; rfl) (by go_simp; rfl) (by go_simp) ?_
 exact eqf_last (by rfl) (by go_simp; rfl) (by go_simp; rfl) (by go_simp)
def rf07_Literal.l0 : Nat → ByteArray → Option (Bool)
 | 0, _ => none
 | k + 1, x0 => if x0.toList = ([] : List UInt8) then (some true) else ((rf07_Piece.f k x0).bind fun t163 => (if t163 = 0 then (some false) else (if 0 ≤ t163 then (if t163 ≤ (x0.size : Int) then (rf07_Literal.l0 k (x0.extract (t163 : Int).toNat x0.size)) else (none)) else (none))))
def rf07_Literal.f (k : Nat) (a0 : ByteArray) : Option (Bool) := if a0.toList = ([] : List UInt8) then (some false) else (rf07_Literal.l0 k a0)
set_option maxHeartbeats 8000000 in
set_option maxRecDepth 100000 in
theorem rf07_Literal.calls (k : Nat) (a0 : ByteArray) (r : Bool) (w : World) (h : rf07_Literal.f k a0 = some r) :
 Calls Tryd.prog 9 #[.string a0] w fun e w' => e = .returned (.bool r) ∧ Below w.heap.size w w' := by
 have HB := Aside0.mk (Below.refl w.heap.size w)
 have H : (if a0.toList = ([] : List UInt8) then (some false) else (rf07_Literal.l0 k a0)) = some r := h
 clear h
 by_cases c2 : a0.toList = ([] : List UInt8)
 · rw [if_pos c2] at H
   have c2b0 : (a0.toList == ([] : List UInt8)) = true := beq_iff_eq.mpr c2
   have c2b1 : (a0.toList != ([] : List UInt8)) = false := bne_eq_false_iff_eq.mpr c2
   clear c2
   obtain rfl := Option.some.inj H
   go_enter Tryd.func9, Tryd.ntmps9
   go_wp2
   go_ret
   exact ⟨by first | rfl | (simp [errW_none, errW_some] <;> rfl) | (simp [*, errW_none, errW_some] <;> rfl), by repeat (first | (with_reducible first | exact HB.out | apply below_alloc | apply pw_below_drewN | apply below_drew1) | exact HB.out)⟩
 · rw [if_neg c2] at H
   have c2b0 : (a0.toList == ([] : List UInt8)) = false := beq_eq_false_iff_ne.mpr c2
   have c2b1 : (a0.toList != ([] : List UInt8)) = true := bne_iff_ne.mpr c2
   have H' := Aside0.mk H
   clear H
   go_enter Tryd.func9, Tryd.ntmps9
   go_wp2
   go_loopg [0] k (fun kq v0 w' => ∃ (x0_1 : ByteArray), v0 = .string x0_1 ∧ Aside0 (rf07_Literal.l0 kq x0_1 = some r) ∧ Aside0 (kq ≤ k) ∧ Aside0 (Below w.heap.size w w'))
   case atStart => exact ⟨(a0), (by first | rfl | (simp; done) | (simp [*]; done)), H', ⟨Nat.le_refl _⟩, ⟨by repeat (first | (with_reducible first | exact HB.out | apply below_alloc | apply pw_below_drewN | apply below_drew1) | exact HB.out)⟩⟩
   case round =>
    clear H'
    try clear c2
    try clear c2b0
    try clear c2b1
    try clear p2
    obtain ⟨x0_1, rfl, HA, HK1, HB⟩ := hrel
    cases gk with
    | zero => exact absurd HA.out (by simp [rf07_Literal.l0])
    | succ k1 =>
     have H := HA.out
     clear HA
     simp only [rf07_Literal.l0] at H
     by_cases c3 : x0_1.toList = ([] : List UInt8)
     · rw [if_pos c3] at H
       have c3b0 : (x0_1.toList == ([] : List UInt8)) = true := beq_iff_eq.mpr c3
       have c3b1 : (x0_1.toList != ([] : List UInt8)) = false := bne_eq_false_iff_eq.mpr c3
       clear c3
       obtain rfl := Option.some.inj H
       go_wp2
       go_ret
       exact ⟨by first | rfl | (simp [errW_none, errW_some] <;> rfl) | (simp [*, errW_none, errW_some] <;> rfl), by repeat (first | (with_reducible first | exact HB.out | apply below_alloc | apply pw_below_drewN | apply below_drew1) | exact HB.out)⟩
     · rw [if_neg c3] at H
       have c3b0 : (x0_1.toList == ([] : List UInt8)) = false := beq_eq_false_iff_ne.mpr c3
       have c3b1 : (x0_1.toList != ([] : List UInt8)) = true := bne_iff_ne.mpr c3
       replace H := Option.bind_eq_some_iff.mp H
       obtain ⟨t163, A40, H⟩ := H
       replace H : (if t163 = 0 then (some false) else (if 0 ≤ t163 then (if t163 ≤ (x0_1.size : Int) then (rf07_Literal.l0 k1 (x0_1.extract (t163 : Int).toNat x0_1.size)) else (none)) else (none))) = some r := H
       have A4 := Aside0.mk A40
       clear A40
       by_cases c5 : t163 = 0
       · rw [if_pos c5] at H
         have c5b0 : (t163 == 0) = true := beq_iff_eq.mpr c5
         have c5b1 : (t163 != 0) = false := bne_eq_false_iff_eq.mpr c5
         clear c5
         obtain rfl := Option.some.inj H
         go_wp2_with (first | ((with_reducible refine gate_callee (f := 23) rfl ?_); refine goesL_ (some 9) rfl rfl Tryd.func23 (by kernel_rfl) rfl #[.string x0_1] rfl (by (try simp only [List.map_toArray, List.map_cons, List.map_nil]); first | done | rfl | (simp only [List.length_drop, List.length_take]; rfl)) ?_; (with_reducible refine (rf07_Piece.calls k1 x0_1 t163 _ A4.out).mono ?_); rintro e w6 ⟨rfl, hb⟩; refine ⟨_, rfl, ?_⟩; have n0_ := Aside0.mk (below_step (by repeat (first | (with_reducible first | exact HB.out | apply below_alloc | apply pw_below_drewN | apply below_drew1) | exact HB.out)) hb); clear HB; have HB := n0_; clear n0_; (try clear hb); (try clear hb2); (try clear hk); (try clear hi)))
         go_ret
         exact ⟨by first | rfl | (simp [errW_none, errW_some] <;> rfl) | (simp [*, errW_none, errW_some] <;> rfl), by repeat (first | (with_reducible first | exact HB.out | apply below_alloc | apply pw_below_drewN | apply below_drew1) | exact HB.out)⟩
       · rw [if_neg c5] at H
         have c5b0 : (t163 == 0) = false := beq_eq_false_iff_ne.mpr c5
         have c5b1 : (t163 != 0) = true := bne_iff_ne.mpr c5
         by_cases c7 : 0 ≤ t163
         · rw [if_pos c7] at H
           have c7b0 := eq_true c7
           have c7b1 : decide (0 ≤ t163) = true := decide_eq_true c7
           clear c7
           by_cases c8 : t163 ≤ (x0_1.size : Int)
           · rw [if_pos c8] at H
             have c8b0 := eq_true c8
             have c8b1 : decide (t163 ≤ (x0_1.size : Int)) = true := decide_eq_true c8
             clear c8
             have H' := Aside0.mk H
             clear H
             go_wp2_with (first | ((with_reducible refine gate_callee (f := 23) rfl ?_); refine goesL_ (some 9) rfl rfl Tryd.func23 (by kernel_rfl) rfl #[.string x0_1] rfl (by (try simp only [List.map_toArray, List.map_cons, List.map_nil]); first | done | rfl | (simp only [List.length_drop, List.length_take]; rfl)) ?_; (with_reducible refine (rf07_Piece.calls k1 x0_1 t163 _ A4.out).mono ?_); rintro e w9 ⟨rfl, hb⟩; refine ⟨_, rfl, ?_⟩; have n0_ := Aside0.mk (below_step (by repeat (first | (with_reducible first | exact HB.out | apply below_alloc | apply pw_below_drewN | apply below_drew1) | exact HB.out)) hb); clear HB; have HB := n0_; clear n0_; (try clear hb); (try clear hb2); (try clear hk); (try clear hi)))
             go_roundg k1
             case measure => have := HK1.out; omega
             case rel => exact ⟨(x0_1.extract (t163 : Int).toNat x0_1.size), (by first | rfl | (simp; done) | (simp [*]; done)), H', ⟨by have := HK1.out; omega⟩, ⟨by repeat (first | (with_reducible first | exact HB.out | apply below_alloc | apply pw_below_drewN | apply below_drew1) | exact HB.out)⟩⟩
           · rw [if_neg c8] at H
             exact absurd H (by simp)
         · rw [if_neg c7] at H
           exact absurd H (by simp)
end Go.Proofs.YtkipkbggnfllkaaDoor.P
end
