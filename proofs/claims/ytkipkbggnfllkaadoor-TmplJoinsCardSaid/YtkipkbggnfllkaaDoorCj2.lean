/- What is proved here is used by the law's card: FucsMay, FucsTake, PctOne, Ftmplpiece, Ftmplpieces, Figs, FslicesIndexstringstring, FslicesContainsstringstring, Ftmplnames, FtmplOnce, FtmplNames, Fphalaroperef07Has, Fphalaroperef07Names, Fphalarope. -/
import Derived.Test.YtkipkbggnfllkaaDoorCj1
import Derived.RegionTactic
import Derived.ChangeAlike
import Derived.BigRegion
import Derived.Lib.Hide
section
namespace Go.Proofs.YtkipkbggnfllkaaDoor.P
open Go.RowKit Go.Proofs.YtkipkbggnfllkaaDoorW.PrintWords Go.Proofs.YtkipkbggnfllkaaDoorW.PrintLast Go.Proofs.YtkipkbggnfllkaaDoorW.PrintMore
attribute [local go_sem] max2_int min2_int max_two min_two max_three min_three max_four min_four
set_option linter.unusedVariables false
set_option linter.unusedSimpArgs false
def ucs_May.f (a0 : Int) : Option (Bool) := (ucs_meets.f a0 a0).bind fun t298 => (some t298)
set_option maxHeartbeats 8000000 in
set_option maxRecDepth 100000 in
theorem ucs_May.calls (a0 : Int) (r : Bool) (w : World) (h : ucs_May.f a0 = some r) :
 Calls Tryd.prog 83 #[.int .i64 a0] w fun e w' => e = .returned (.bool r) ∧ Below w.heap.size w w' := by
 have HB := Aside0.mk (Below.refl w.heap.size w)
 have H : ((ucs_meets.f a0 a0).bind fun t298 => (some t298)) = some r := h
 clear h
 replace H := Option.bind_eq_some_iff.mp H
 obtain ⟨t298, A20, H⟩ := H
 replace H : (some t298) = some r := H
 have A2 := Aside0.mk A20
 clear A20
 obtain rfl := Option.some.inj H
 go_enter Tryd.func83, Tryd.ntmps83
 go_wp2_with (first | ((with_reducible refine gate_callee (f := 74) rfl ?_); refine goesL_ (some 5) rfl rfl Tryd.func74 (by kernel_rfl) rfl #[.int .i64 a0, .int .i64 a0] rfl (by (try simp only [List.map_toArray, List.map_cons, List.map_nil]); first | done | rfl | (simp only [List.length_drop, List.length_take]; rfl)) ?_; (with_reducible refine (ucs_meets.calls a0 a0 t298 _ A2.out).mono ?_); rintro e w3 ⟨rfl, hb⟩; refine ⟨_, rfl, ?_⟩; have n0_ := Aside0.mk (below_step (by repeat (first | (with_reducible first | exact HB.out | apply below_alloc | apply pw_below_drewN | apply below_drew1) | exact HB.out)) hb); clear HB; have HB := n0_; clear n0_; (try clear hb); (try clear hb2); (try clear hk); (try clear hi)))
 go_ret
 exact ⟨by first | rfl | (simp [errW_none, errW_some] <;> rfl) | (simp [*, errW_none, errW_some] <;> rfl), by repeat (first | (with_reducible first | exact HB.out | apply below_alloc | apply pw_below_drewN | apply below_drew1) | exact HB.out)⟩
def ucs_Take.l0 : Nat → ByteArray → List Int → Int → Int → Option (Int × Int)
 | 0, _, _, _, _ => none
 | k + 1, x4, x16, x17, x18 => if x18 < x17 then (if 0 ≤ x18 then (if x18 < (x16.length : Int) then ((ucs_May.f (rd x16 x18)).bind fun t305 => (if t305 = true then (some (rd x16 x18, (x4.size : Int))) else (ucs_Take.l0 k x4 x16 x17 (wrap64 (x18 + 1))))) else (none)) else (none)) else (some (0, 0))
def ucs_Take.f (k : Nat) (a0 : ByteArray) : Option (Int × Int) := (utf_Prefix.f a0 1).bind fun t299 => ((utf_Chars.f t299).bind fun bt300 => (ucs_Take.l0 k t299 bt300.1 (bt300.1.length : Int) 0))
theorem ucs_Take.mono_l : ∀ k, (∀ y0 y1 y2 y3, LeO (ucs_Take.l0 k y0 y1 y2 y3) (ucs_Take.l0 (k + 1) y0 y1 y2 y3))
 | 0 => fun _ _ _ _ r h => by simp [ucs_Take.l0] at h
 | k + 1 => by
  have ih0 := ucs_Take.mono_l k
  · intro y0 y1 y2 y3
    unfold ucs_Take.l0
    repeat' first
    | (with_reducible exact ih0 _ _ _ _)
    | (with_reducible exact LeO.refl _)
    | (with_reducible exact LeO.none _)
    | (with_reducible refine LeO.ite ?_ ?_)
    | (with_reducible refine LeO.bind ?_ (fun _ => ?_))
    | exact ih0 _ _ _ _
    | exact LeO.none _
    | refine LeO.ite ?_ ?_
    | refine LeO.bind ?_ (fun _ => ?_)
theorem ucs_Take.mono : ∀ a0 k, LeO (ucs_Take.f k a0) (ucs_Take.f (k + 1) a0) := by
 intro a0 k
 have ih0 := ucs_Take.mono_l k
 unfold ucs_Take.f
 repeat' first
  | (with_reducible exact ih0 _ _ _ _)
  | (with_reducible exact LeO.refl _)
  | (with_reducible exact LeO.none _)
  | (with_reducible refine LeO.ite ?_ ?_)
  | (with_reducible refine LeO.bind ?_ (fun _ => ?_))
  | exact ih0 _ _ _ _
  | exact LeO.none _
  | refine LeO.ite ?_ ?_
  | refine LeO.bind ?_ (fun _ => ?_)
set_option maxHeartbeats 8000000 in
set_option maxRecDepth 100000 in
theorem ucs_Take.calls (k : Nat) (a0 : ByteArray) (r1 : Int) (r2 : Int) (w : World) (h : ucs_Take.f k a0 = some (r1, r2)) :
 Calls Tryd.prog 66 #[.string a0] w fun e w' => e = .returned (.tuple #[.int .i64 r1, .int .i64 r2]) ∧ Below w.heap.size w w' := by
 have HB := Aside0.mk (Below.refl w.heap.size w)
 have H : ((utf_Prefix.f a0 1).bind fun t299 => ((utf_Chars.f t299).bind fun bt300 => (ucs_Take.l0 k t299 bt300.1 (bt300.1.length : Int) 0))) = some (r1, r2) := h
 clear h
 replace H := Option.bind_eq_some_iff.mp H
 obtain ⟨t299, A20, H⟩ := H
 replace H : ((utf_Chars.f t299).bind fun bt300 => (ucs_Take.l0 k t299 bt300.1 (bt300.1.length : Int) 0)) = some (r1, r2) := H
 have A2 := Aside0.mk A20
 clear A20
 replace H := Option.bind_eq_some_iff.mp H
 obtain ⟨⟨t300, t301⟩, A30, H⟩ := H
 replace H : (ucs_Take.l0 k t299 t300 (t300.length : Int) 0) = some (r1, r2) := H
 have A3 := Aside0.mk A30
 clear A30
 have H' := Aside0.mk H
 clear H
 go_enter Tryd.func66, Tryd.ntmps66
 go_wp2_with (first | ((with_reducible refine gate_callee (f := 81) rfl ?_); refine goesL_ (some 10) rfl rfl Tryd.func81 (by kernel_rfl) rfl #[.string a0, .int .i64 1] rfl (by (try simp only [List.map_toArray, List.map_cons, List.map_nil]); first | done | rfl | (simp only [List.length_drop, List.length_take]; rfl)) ?_; (with_reducible refine (utf_Prefix.calls a0 1 t299 _ A2.out).mono ?_); rintro e w4 ⟨rfl, hb⟩; refine ⟨_, rfl, ?_⟩; have n0_ := Aside0.mk (below_step (by repeat (first | (with_reducible first | exact HB.out | apply below_alloc | apply pw_below_drewN | apply below_drew1) | exact HB.out)) hb); clear HB; have HB := n0_; clear n0_; (try clear hb); (try clear hb2); (try clear hk); (try clear hi)) | ((with_reducible refine gate_callee (f := 82) rfl ?_); refine goesL_ (some 13) rfl rfl Tryd.func82 (by kernel_rfl) rfl #[.string t299] rfl (by (try simp only [List.map_toArray, List.map_cons, List.map_nil]); first | done | rfl | (simp only [List.length_drop, List.length_take]; rfl)) ?_; (with_reducible refine (utf_Chars.calls t299 t300 t301 _ A3.out).mono ?_); rintro e w5 ⟨v302, rfl, ho0, hb⟩; refine ⟨_, rfl, ?_⟩; have n0_ := Aside0.mk (Kd.R_lower ho0 (below_size (by repeat (first | (with_reducible first | exact HB.out | apply below_alloc | apply pw_below_drewN | apply below_drew1) | exact HB.out)))); have n1_ := Aside0.mk (below_step (by repeat (first | (with_reducible first | exact HB.out | apply below_alloc | apply pw_below_drewN | apply below_drew1) | exact HB.out)) hb); clear HB; have HO303 := n0_; have HB := n1_; clear n0_ n1_; (try clear hb); (try clear hb2); (try clear hk); (try clear hi); (try clear ho0); obtain ⟨Ao6, co6, eo6⟩ := Kd.R_slice HO303.out; subst eo6))
 go_loopg [18] k (fun kq v18 w' => ∃ (x18_1 : Int), v18 = .int .i64 x18_1 ∧ Aside0 (ucs_Take.l0 kq t299 t300 (t300.length : Int) x18_1 = some (r1, r2)) ∧ Aside0 (kq ≤ k) ∧ Aside0 (Kd.R (Kd.int .i64) 3 w' w.heap.size (fun _ => True) (.slice Ao6 t300.length co6) t300) ∧ Aside0 (Below w.heap.size w w'))
 case atStart => exact ⟨(0), (by first | rfl | (simp; done) | (simp [*]; done)), H', ⟨Nat.le_refl _⟩, ⟨by (with_reducible repeat (first | apply Kd.R_alloc | apply Kd.R_drewN | apply Kd.R_drew)); exact HO303.out⟩, ⟨by repeat (first | (with_reducible first | exact HB.out | apply below_alloc | apply pw_below_drewN | apply below_drew1) | exact HB.out)⟩⟩
 case round =>
  clear H'
  try clear p2
  try clear c6
  obtain ⟨x18_1, rfl, HA, HK1, HO_16, HB⟩ := hrel
  cases gk with
  | zero => exact absurd HA.out (by simp [ucs_Take.l0])
  | succ k1 =>
   have H := HA.out
   clear HA
   simp only [ucs_Take.l0] at H
   by_cases c7 : x18_1 < (t300.length : Int)
   · rw [if_pos c7] at H
     have c7b0 : decide (x18_1 < (t300.length : Int)) = true := decide_eq_true c7
     clear c7
     by_cases c8 : 0 ≤ x18_1
     · rw [if_pos c8] at H
       have c8b0 : decide (0 ≤ x18_1) = true := decide_eq_true c8
       clear c8
       by_cases c9 : x18_1 < (t300.length : Int)
       · rw [if_pos c9] at H
         have c9b0 : decide (x18_1 < (t300.length : Int)) = true := decide_eq_true c9
         clear c9
         replace H := Option.bind_eq_some_iff.mp H
         obtain ⟨t305, A100, H⟩ := H
         replace H : (if t305 = true then (some (rd t300 x18_1, (t299.size : Int))) else (ucs_Take.l0 k1 t299 t300 (t300.length : Int) (wrap64 (x18_1 + 1)))) = some (r1, r2) := H
         have A10 := Aside0.mk A100
         clear A100
         by_cases c11 : t305 = true
         · subst c11
           have H1 : (some (rd t300 x18_1, (t299.size : Int))) = some (r1, r2) := by rw [if_pos rfl] at H; exact H
           clear H
           have H := H1
           clear H1
           simp only [Option.some.injEq, Prod.mk.injEq] at H
           obtain ⟨rfl, rfl⟩ := H
           have p304 : 0 ≤ (x18_1 : Int) := of_decide_eq_true (by first | (with_reducible assumption) | assumption)
           have q304 : x18_1 < (t300.length : Int) := of_decide_eq_true (by first | (with_reducible assumption) | assumption)
           obtain ⟨ad304, e304, hx304_0⟩ := Kd.at_int (Kd.R_reads' HO_16.out).2.2 x18_1 p304 q304
           cases e304
           replace p304 := eq_true p304
           replace q304 := eq_true q304
           go_wp2_with (first | ((with_reducible refine gate_callee (f := 83) rfl ?_); refine goesL_ (some 23) rfl rfl Tryd.func83 (by kernel_rfl) rfl #[.int .i64 (rd t300 x18_1)] rfl (by (try simp only [List.map_toArray, List.map_cons, List.map_nil]); first | done | rfl | (simp only [List.length_drop, List.length_take]; rfl)) ?_; (with_reducible refine (ucs_May.calls (rd t300 x18_1) true _ A10.out).mono ?_); rintro e w12 ⟨rfl, hb⟩; refine ⟨_, rfl, ?_⟩; have n0_ := Aside0.mk (Kd.R_below (by (with_reducible repeat (first | apply Kd.R_alloc | apply Kd.R_drewN | apply Kd.R_drew)); exact HO_16.out) hb); have n1_ := Aside0.mk (below_step (by repeat (first | (with_reducible first | exact HB.out | apply below_alloc | apply pw_below_drewN | apply below_drew1) | exact HB.out)) hb); clear HO_16; clear HB; have HO_16 := n0_; have HB := n1_; clear n0_ n1_; (try clear hb); (try clear hb2); (try clear hk); (try clear hi)))
           go_ret2
           exact ⟨by first | rfl | (simp [errW_none, errW_some] <;> rfl) | (simp [*, errW_none, errW_some] <;> rfl), by repeat (first | (with_reducible first | exact HB.out | apply below_alloc | apply pw_below_drewN | apply below_drew1) | exact HB.out)⟩
         · replace c11 := Bool.eq_false_iff.mpr c11
           subst c11
           have H1 : (ucs_Take.l0 k1 t299 t300 (t300.length : Int) (wrap64 (x18_1 + 1))) = some (r1, r2) := by rw [if_neg (show ¬ (false = true) by decide)] at H; exact H
           clear H
           have H := H1
           clear H1
           have H' := Aside0.mk H
           clear H
           have p304 : 0 ≤ (x18_1 : Int) := of_decide_eq_true (by first | (with_reducible assumption) | assumption)
           have q304 : x18_1 < (t300.length : Int) := of_decide_eq_true (by first | (with_reducible assumption) | assumption)
           obtain ⟨ad304, e304, hx304_0⟩ := Kd.at_int (Kd.R_reads' HO_16.out).2.2 x18_1 p304 q304
           cases e304
           replace p304 := eq_true p304
           replace q304 := eq_true q304
           go_wp2_with (first | ((with_reducible refine gate_callee (f := 83) rfl ?_); refine goesL_ (some 23) rfl rfl Tryd.func83 (by kernel_rfl) rfl #[.int .i64 (rd t300 x18_1)] rfl (by (try simp only [List.map_toArray, List.map_cons, List.map_nil]); first | done | rfl | (simp only [List.length_drop, List.length_take]; rfl)) ?_; (with_reducible refine (ucs_May.calls (rd t300 x18_1) false _ A10.out).mono ?_); rintro e w13 ⟨rfl, hb⟩; refine ⟨_, rfl, ?_⟩; have n0_ := Aside0.mk (Kd.R_below (by (with_reducible repeat (first | apply Kd.R_alloc | apply Kd.R_drewN | apply Kd.R_drew)); exact HO_16.out) hb); have n1_ := Aside0.mk (below_step (by repeat (first | (with_reducible first | exact HB.out | apply below_alloc | apply pw_below_drewN | apply below_drew1) | exact HB.out)) hb); clear HO_16; clear HB; have HO_16 := n0_; have HB := n1_; clear n0_ n1_; (try clear hb); (try clear hb2); (try clear hk); (try clear hi)))
           go_roundg k1
           case measure => have := HK1.out; omega
           case rel => exact ⟨(wrap64 (x18_1 + 1)), (by first | rfl | (simp; done) | (simp [*]; done)), H', ⟨by have := HK1.out; omega⟩, ⟨by (with_reducible repeat (first | apply Kd.R_alloc | apply Kd.R_drewN | apply Kd.R_drew)); exact HO_16.out⟩, ⟨by repeat (first | (with_reducible first | exact HB.out | apply below_alloc | apply pw_below_drewN | apply below_drew1) | exact HB.out)⟩⟩
       · rw [if_neg c9] at H
         exact absurd H (by simp)
     · rw [if_neg c8] at H
       exact absurd H (by simp)
   · rw [if_neg c7] at H
     have c7b0 : decide (x18_1 < (t300.length : Int)) = false := decide_eq_false c7
     clear c7
     simp only [Option.some.injEq, Prod.mk.injEq] at H
     obtain ⟨rfl, rfl⟩ := H
     go_wp2
     go_ret2
     exact ⟨by first | rfl | (simp [errW_none, errW_some] <;> rfl) | (simp [*, errW_none, errW_some] <;> rfl), by repeat (first | (with_reducible first | exact HB.out | apply below_alloc | apply pw_below_drewN | apply below_drew1) | exact HB.out)⟩
end Go.Proofs.YtkipkbggnfllkaaDoor.P
end
section
namespace Go.Proofs.YtkipkbggnfllkaaDoor.P
open Go.RowKit Go.Proofs.YtkipkbggnfllkaaDoorW.PrintWords Go.Proofs.YtkipkbggnfllkaaDoorW.PrintLast Go.Proofs.YtkipkbggnfllkaaDoorW.PrintMore
def figure (n : Int) : Int := bt ⟨#[48, 49, 50, 51, 52, 53, 54, 55, 56, 57, 65, 66, 67, 68, 69, 70]⟩ n
def pct_One.f (c : Int) : Option ByteArray := if 0 ≤ c ∧ c ≤ 255 then some (strOfNums [37, figure (c / 16), figure (c % 16)]) else none
theorem reads_three (w : World) (a b : Int) : ReadsInt (w.alloc (.cells #[.int .u8 37, .int .u8 a, .int .u8 b] 5)).drew .u8 (some ⟨w.heap.size, 0, none⟩) 3 [37, a, b] := by
 refine ⟨rfl, by omega, fun _ => ⟨_, rfl, fun j hj => ?_⟩⟩
 have hadd : (⟨w.heap.size, 0, none⟩ : Addr).add j = ⟨w.heap.size, j, none⟩ := by unfold Addr.add; split <;> simp_all
 rw [hadd]
 show (w.alloc _).cell? _ = _
 have : j = 0 ∨ j = 1 ∨ j = 2 := by omega
 rcases this with rfl | rfl | rfl <;> simp
set_option maxHeartbeats 800000 in
theorem pct_One.calls (c : Int) (r : ByteArray) (w : World) (h : pct_One.f c = some r) :
 Calls Tryd.prog 69 #[.int .u8 c] w fun e w' => e = .returned (.string r) ∧ Below w.heap.size w w' := by
 unfold pct_One.f at h
 split at h
 · rename_i hc
   obtain ⟨h0, h1⟩ := hc
   injection h with h
   have i1 := bt_at ⟨#[48, 49, 50, 51, 52, 53, 54, 55, 56, 57, 65, 66, 67, 68, 69, 70]⟩ (c / 16)
   have i2 := bt_at ⟨#[48, 49, 50, 51, 52, 53, 54, 55, 56, 57, 65, 66, 67, 68, 69, 70]⟩ (c % 16)
   obtain ⟨a, ha⟩ : ∃ a, a = figure (c / 16) := ⟨_, rfl⟩
   obtain ⟨b, hb⟩ : ∃ b, b = figure (c % 16) := ⟨_, rfl⟩
   rw [← ha, ← hb] at h
   rw [show bt _ _ = a from ha.symm] at i1
   rw [show bt _ _ = b from hb.symm] at i2
   have HR := Lib.hid h
   clear h ha hb
   have h2 : 0 ≤ c / 16 := by omega
   have h3 : c / 16 < 16 := by omega
   have h4 : 0 ≤ c % 16 := by omega
   have h5 : c % 16 < 16 := by omega
   go_enter Tryd.func69, Tryd.ntmps69
   go_wp2_with fail
   have hcv := string_of_reads (P := Tryd.prog) (src := 29) (dst := 9) (c := 3) Tryd.underlying29 Tryd.underlying5 Tryd.underlying9 (reads_three w a b)
   go_region
   go_wp2
   go_ret
   exact ⟨by show Ending.returned (.string (strOfNums [37, a, b])) = _; rw [HR.out], ((Below.refl _ _).alloc (Nat.le_refl _) _).drew⟩
 · cases h
end Go.Proofs.YtkipkbggnfllkaaDoor.P
end
section
namespace Go.Proofs.YtkipkbggnfllkaaDoor.P
open Go.RowKit Go.Proofs.YtkipkbggnfllkaaDoorW.PrintWords Go.Proofs.YtkipkbggnfllkaaDoorW.PrintLast Go.Proofs.YtkipkbggnfllkaaDoorW.PrintMore
attribute [local go_sem] max2_int min2_int max_two min_two max_three min_three max_four min_four
set_option linter.unusedVariables false
set_option linter.unusedSimpArgs false
def tmpl_piece.f (k : Nat) (a0 : ByteArray) : Option (Int) := (ucs_Take.f k a0).bind fun bt312 => (if a0.toList = ([] : List UInt8) then (some 0) else ((chars_Literal.f).bind fun t314 => (if 0 < (a0.size : Int) then ((chars_Set_Has.f t314 (bt a0 0)).bind fun t315 => (if t315 = true then (some 1) else ((pct_Triplet.f k a0).bind fun t316 => (if t316 = true then ((pct_One.f 0).bind fun t317 => (some (t317.size : Int))) else (some bt312.2))))) else (none))))
theorem tmpl_piece.mono : ∀ a0 k, LeO (tmpl_piece.f k a0) (tmpl_piece.f (k + 1) a0) := by
 intro a0 k
 unfold tmpl_piece.f
 repeat' first
  | (with_reducible exact pct_Triplet.mono _ _)
  | (with_reducible exact ucs_Take.mono _ _)
  | (with_reducible exact LeO.refl _)
  | (with_reducible exact LeO.none _)
  | (with_reducible refine LeO.ite ?_ ?_)
  | (with_reducible refine LeO.bind ?_ (fun _ => ?_))
  | exact pct_Triplet.mono _ _
  | exact ucs_Take.mono _ _
  | exact LeO.none _
  | refine LeO.ite ?_ ?_
  | refine LeO.bind ?_ (fun _ => ?_)
set_option maxHeartbeats 8000000 in
set_option maxRecDepth 100000 in
theorem tmpl_piece.calls (k : Nat) (a0 : ByteArray) (r : Int) (w : World) (h : tmpl_piece.f k a0 = some r) :
 Calls Tryd.prog 48 #[.string a0] w fun e w' => e = .returned (.int .i64 r) ∧ Below w.heap.size w w' := by
 have HB := Aside0.mk (Below.refl w.heap.size w)
 have H : ((ucs_Take.f k a0).bind fun bt312 => (if a0.toList = ([] : List UInt8) then (some 0) else ((chars_Literal.f).bind fun t314 => (if 0 < (a0.size : Int) then ((chars_Set_Has.f t314 (bt a0 0)).bind fun t315 => (if t315 = true then (some 1) else ((pct_Triplet.f k a0).bind fun t316 => (if t316 = true then ((pct_One.f 0).bind fun t317 => (some (t317.size : Int))) else (some bt312.2))))) else (none))))) = some r := h
 clear h
 replace H := Option.bind_eq_some_iff.mp H
 obtain ⟨⟨t312, t313⟩, A20, H⟩ := H
 replace H : (if a0.toList = ([] : List UInt8) then (some 0) else ((chars_Literal.f).bind fun t314 => (if 0 < (a0.size : Int) then ((chars_Set_Has.f t314 (bt a0 0)).bind fun t315 => (if t315 = true then (some 1) else ((pct_Triplet.f k a0).bind fun t316 => (if t316 = true then ((pct_One.f 0).bind fun t317 => (some (t317.size : Int))) else (some t313))))) else (none)))) = some r := H
 have A2 := Aside0.mk A20
 clear A20
 by_cases c3 : a0.toList = ([] : List UInt8)
 · rw [if_pos c3] at H
   have c3b0 : (a0.toList == ([] : List UInt8)) = true := beq_iff_eq.mpr c3
   have c3b1 : (a0.toList != ([] : List UInt8)) = false := bne_eq_false_iff_eq.mpr c3
   clear c3
   obtain rfl := Option.some.inj H
   go_enter Tryd.func48, Tryd.ntmps48
   go_wp2_with (first | ((with_reducible refine gate_callee (f := 66) rfl ?_); refine goesL_ (some 7) rfl rfl Tryd.func66 (by kernel_rfl) rfl #[.string a0] rfl (by (try simp only [List.map_toArray, List.map_cons, List.map_nil]); first | done | rfl | (simp only [List.length_drop, List.length_take]; rfl)) ?_; (with_reducible refine (ucs_Take.calls k a0 t312 t313 _ A2.out).mono ?_); rintro e w4 ⟨rfl, hb⟩; refine ⟨_, rfl, ?_⟩; have n0_ := Aside0.mk (below_step (by repeat (first | (with_reducible first | exact HB.out | apply below_alloc | apply pw_below_drewN | apply below_drew1) | exact HB.out)) hb); clear HB; have HB := n0_; clear n0_; (try clear hb); (try clear hb2); (try clear hk); (try clear hi)))
   go_ret
   exact ⟨by first | rfl | (simp [errW_none, errW_some] <;> rfl) | (simp [*, errW_none, errW_some] <;> rfl), by repeat (first | (with_reducible first | exact HB.out | apply below_alloc | apply pw_below_drewN | apply below_drew1) | exact HB.out)⟩
 · rw [if_neg c3] at H
   have c3b0 : (a0.toList == ([] : List UInt8)) = false := beq_eq_false_iff_ne.mpr c3
   have c3b1 : (a0.toList != ([] : List UInt8)) = true := bne_iff_ne.mpr c3
   replace H := Option.bind_eq_some_iff.mp H
   obtain ⟨t314, A50, H⟩ := H
   replace H : (if 0 < (a0.size : Int) then ((chars_Set_Has.f t314 (bt a0 0)).bind fun t315 => (if t315 = true then (some 1) else ((pct_Triplet.f k a0).bind fun t316 => (if t316 = true then ((pct_One.f 0).bind fun t317 => (some (t317.size : Int))) else (some t313))))) else (none)) = some r := H
   have A5 := Aside0.mk A50
   clear A50
   by_cases c6 : 0 < (a0.size : Int)
   · rw [if_pos c6] at H
     have c6b0 : decide (0 < (a0.size : Int)) = true := decide_eq_true c6
     have c6b1 : decide (0 < a0.size) = true := decide_eq_true (by omega)
     clear c6
     replace H := Option.bind_eq_some_iff.mp H
     obtain ⟨t315, A80, H⟩ := H
     replace H : (if t315 = true then (some 1) else ((pct_Triplet.f k a0).bind fun t316 => (if t316 = true then ((pct_One.f 0).bind fun t317 => (some (t317.size : Int))) else (some t313)))) = some r := H
     have A8 := Aside0.mk A80
     clear A80
     by_cases c9 : t315 = true
     · subst c9
       have H1 : (some 1) = some r := by rw [if_pos rfl] at H; exact H
       clear H
       have H := H1
       clear H1
       obtain rfl := Option.some.inj H
       go_enter Tryd.func48, Tryd.ntmps48
       try go_wp2_with (first | ((with_reducible refine gate_callee (f := 66) rfl ?_); refine goesL_ (some 7) rfl rfl Tryd.func66 (by kernel_rfl) rfl #[.string a0] rfl (by (try simp only [List.map_toArray, List.map_cons, List.map_nil]); first | done | rfl | (simp only [List.length_drop, List.length_take]; rfl)) ?_; (with_reducible refine (ucs_Take.calls k a0 t312 t313 _ A2.out).mono ?_); rintro e w10 ⟨rfl, hb⟩; refine ⟨_, rfl, ?_⟩; have n0_ := Aside0.mk (below_step (by repeat (first | (with_reducible first | exact HB.out | apply below_alloc | apply pw_below_drewN | apply below_drew1) | exact HB.out)) hb); clear HB; have HB := n0_; clear n0_; (try clear hb); (try clear hb2); (try clear hk); (try clear hi)))
       have n0_ := Aside0.mk (below_drew1 HB.out)
       clear HB
       have HB := n0_
       clear n0_
       have p7 : 0 ≤ (0 : Int) := (by omega)
       have q7 : 0 < a0.size := (by have : (0 : Int) < (a0.size : Int) := of_decide_eq_true (by first | (with_reducible assumption) | assumption); omega)
       have hx7 : ∀ h : 0 < a0.size, ((a0[0]'h).toNat : Int) = bt a0 0 := bt_at a0 0
       clear p7
       have qi7 : (0 < (a0.size : Int)) = True := eq_true (of_decide_eq_true (by first | (with_reducible assumption) | assumption))
       replace q7 := eq_true q7
       refine start_ (n := 5) (S := fun w' => True) (ds := []) #[false, false, false, false, false] (by kernel_rfl) rfl rfl trivial (fun hHeld => ?_)
       generalize w10.drew = w11 at HB hHeld ⊢
       refine pure_ (i := 1) (N := some 15) (v := ?_) (a' := ?_) #[false, true, false, false, false] rfl rfl (by kernel_rfl) (fun _ _ _ h => h) (Or.inl ⟨by rfl, ?_⟩) ?_ ?_
       rotate_left
       · intro w'
         go_simp
         with_reducible rfl
       rotate_left
       · simp only [Act.put, List.setIfInBounds_toArray, List.set_cons_zero, List.set_cons_succ, i64_w, i32_w]
         rfl
       refine take_ (i := 2) (N := some 16) (v := ?_) (a' := ?_) #[false, true, true, false, false] rfl rfl (by kernel_rfl) (fun _ _ _ h => h) (Or.inl ⟨by rfl, ?_⟩) hHeld ?_ ?_
       rotate_left
       · intro w' _
         go_simp
         with_reducible rfl
       rotate_left
       · simp only [Act.put, List.setIfInBounds_toArray, List.set_cons_zero, List.set_cons_succ, i64_w, i32_w]
         rfl
       refine one_ (i := 0) (N := some 14) #[true, true, true, false, false] rfl rfl (by kernel_rfl) (by decide) (fun K hK => ?_)
       refine goes_ Tryd.func67 (by kernel_rfl) rfl #[] (by rfl) rfl rfl (by (try simp only [List.map_toArray, List.map_cons, List.map_nil]); first | done | rfl | (simp only [List.length_drop, List.length_take]; rfl)) ?_
       with_reducible refine (chars_Literal.calls  t314 _ A5.out).mono ?_
       rintro e w12 ⟨rfl, hb⟩
       refine ⟨_, rfl, ?_⟩
       have n0_ := Aside0.mk (below_step (by repeat (first | (with_reducible first | exact HB.out | apply below_alloc | apply pw_below_drewN | apply below_drew1) | exact HB.out)) hb)
       clear HB
       have HB := n0_
       clear n0_
       (try clear hb)
       (try clear hb2)
       (try clear hk)
       (try clear hi)
       refine hK.out _ _ trivial (fun hHeld => ?_)
       clear hK K
       refine norm_ (a' := ?_) ?_ ?_
       rotate_left
       · show Act.put _ (some 14) _ = _
         simp only [Act.put, List.setIfInBounds_toArray, List.set_cons_zero, List.set_cons_succ, i64_w, i32_w]
         rfl
       refine one_ (i := 3) (N := some 17) #[true, true, true, true, false] rfl rfl (by kernel_rfl) (by decide) (fun K hK => ?_)
       refine goes_ Tryd.func50 (by kernel_rfl) rfl #[setV t314, .int .u8 (bt a0 0)] (by rfl) rfl rfl (by (try simp only [List.map_toArray, List.map_cons, List.map_nil]); first | done | rfl | (simp only [List.length_drop, List.length_take]; rfl)) ?_
       with_reducible refine (chars_Set_Has.calls t314 (bt a0 0) true _ A8.out).mono ?_
       rintro e w13 ⟨rfl, hb⟩
       refine ⟨_, rfl, ?_⟩
       have n0_ := Aside0.mk (below_step (by repeat (first | (with_reducible first | exact HB.out | apply below_alloc | apply pw_below_drewN | apply below_drew1) | exact HB.out)) hb)
       clear HB
       have HB := n0_
       clear n0_
       (try clear hb)
       (try clear hb2)
       (try clear hk)
       (try clear hi)
       refine hK.out _ _ trivial (fun hHeld => ?_)
       clear hK K
       refine norm_ (a' := ?_) ?_ ?_
       rotate_left
       · show Act.put _ (some 17) _ = _
         simp only [Act.put, List.setIfInBounds_toArray, List.set_cons_zero, List.set_cons_succ, i64_w, i32_w]
         rfl
       refine pure_ (i := 4) (N := some 13) (v := ?_) (a' := ?_) #[true, true, true, true, true] rfl rfl (by kernel_rfl) (fun _ _ _ h => h) (Or.inl ⟨by rfl, ?_⟩) ?_ ?_
       rotate_left
       · intro w'
         go_simp
         with_reducible rfl
       rotate_left
       · simp only [Act.put, List.setIfInBounds_toArray, List.set_cons_zero, List.set_cons_succ, i64_w, i32_w]
         rfl
       refine done_ (by kernel_rfl) ?_
       try go_wp2
       go_ret
       exact ⟨by first | rfl | (simp [errW_none, errW_some] <;> rfl) | (simp [*, errW_none, errW_some] <;> rfl), by repeat (first | (with_reducible first | exact HB.out | apply below_alloc | apply pw_below_drewN | apply below_drew1) | exact HB.out)⟩
     · replace c9 := Bool.eq_false_iff.mpr c9
       subst c9
       have H1 : ((pct_Triplet.f k a0).bind fun t316 => (if t316 = true then ((pct_One.f 0).bind fun t317 => (some (t317.size : Int))) else (some t313))) = some r := by rw [if_neg (show ¬ (false = true) by decide)] at H; exact H
       clear H
       have H := H1
       clear H1
       replace H := Option.bind_eq_some_iff.mp H
       obtain ⟨t316, A140, H⟩ := H
       replace H : (if t316 = true then ((pct_One.f 0).bind fun t317 => (some (t317.size : Int))) else (some t313)) = some r := H
       have A14 := Aside0.mk A140
       clear A140
       by_cases c15 : t316 = true
       · subst c15
         have H1 : ((pct_One.f 0).bind fun t317 => (some (t317.size : Int))) = some r := by rw [if_pos rfl] at H; exact H
         clear H
         have H := H1
         clear H1
         replace H := Option.bind_eq_some_iff.mp H
         obtain ⟨t317, A160, H⟩ := H
         replace H : (some (t317.size : Int)) = some r := H
         have A16 := Aside0.mk A160
         clear A160
         obtain rfl := Option.some.inj H
         go_enter Tryd.func48, Tryd.ntmps48
         try go_wp2_with (first | ((with_reducible refine gate_callee (f := 66) rfl ?_); refine goesL_ (some 7) rfl rfl Tryd.func66 (by kernel_rfl) rfl #[.string a0] rfl (by (try simp only [List.map_toArray, List.map_cons, List.map_nil]); first | done | rfl | (simp only [List.length_drop, List.length_take]; rfl)) ?_; (with_reducible refine (ucs_Take.calls k a0 t312 t313 _ A2.out).mono ?_); rintro e w17 ⟨rfl, hb⟩; refine ⟨_, rfl, ?_⟩; have n0_ := Aside0.mk (below_step (by repeat (first | (with_reducible first | exact HB.out | apply below_alloc | apply pw_below_drewN | apply below_drew1) | exact HB.out)) hb); clear HB; have HB := n0_; clear n0_; (try clear hb); (try clear hb2); (try clear hk); (try clear hi)))
         have n0_ := Aside0.mk (below_drew1 HB.out)
         clear HB
         have HB := n0_
         clear n0_
         have p7 : 0 ≤ (0 : Int) := (by omega)
         have q7 : 0 < a0.size := (by have : (0 : Int) < (a0.size : Int) := of_decide_eq_true (by first | (with_reducible assumption) | assumption); omega)
         have hx7 : ∀ h : 0 < a0.size, ((a0[0]'h).toNat : Int) = bt a0 0 := bt_at a0 0
         clear p7
         have qi7 : (0 < (a0.size : Int)) = True := eq_true (of_decide_eq_true (by first | (with_reducible assumption) | assumption))
         replace q7 := eq_true q7
         refine start_ (n := 5) (S := fun w' => True) (ds := []) #[false, false, false, false, false] (by kernel_rfl) rfl rfl trivial (fun hHeld => ?_)
         generalize w17.drew = w18 at HB hHeld ⊢
         refine pure_ (i := 1) (N := some 15) (v := ?_) (a' := ?_) #[false, true, false, false, false] rfl rfl (by kernel_rfl) (fun _ _ _ h => h) (Or.inl ⟨by rfl, ?_⟩) ?_ ?_
         rotate_left
         · intro w'
           go_simp
           with_reducible rfl
         rotate_left
         · simp only [Act.put, List.setIfInBounds_toArray, List.set_cons_zero, List.set_cons_succ, i64_w, i32_w]
           rfl
         refine take_ (i := 2) (N := some 16) (v := ?_) (a' := ?_) #[false, true, true, false, false] rfl rfl (by kernel_rfl) (fun _ _ _ h => h) (Or.inl ⟨by rfl, ?_⟩) hHeld ?_ ?_
         rotate_left
         · intro w' _
           go_simp
           with_reducible rfl
         rotate_left
         · simp only [Act.put, List.setIfInBounds_toArray, List.set_cons_zero, List.set_cons_succ, i64_w, i32_w]
           rfl
         refine one_ (i := 0) (N := some 14) #[true, true, true, false, false] rfl rfl (by kernel_rfl) (by decide) (fun K hK => ?_)
         refine goes_ Tryd.func67 (by kernel_rfl) rfl #[] (by rfl) rfl rfl (by (try simp only [List.map_toArray, List.map_cons, List.map_nil]); first | done | rfl | (simp only [List.length_drop, List.length_take]; rfl)) ?_
         with_reducible refine (chars_Literal.calls  t314 _ A5.out).mono ?_
         rintro e w19 ⟨rfl, hb⟩
         refine ⟨_, rfl, ?_⟩
         have n0_ := Aside0.mk (below_step (by repeat (first | (with_reducible first | exact HB.out | apply below_alloc | apply pw_below_drewN | apply below_drew1) | exact HB.out)) hb)
         clear HB
         have HB := n0_
         clear n0_
         (try clear hb)
         (try clear hb2)
         (try clear hk)
         (try clear hi)
         refine hK.out _ _ trivial (fun hHeld => ?_)
         clear hK K
         refine norm_ (a' := ?_) ?_ ?_
         rotate_left
         · show Act.put _ (some 14) _ = _
           simp only [Act.put, List.setIfInBounds_toArray, List.set_cons_zero, List.set_cons_succ, i64_w, i32_w]
           rfl
         refine one_ (i := 3) (N := some 17) #[true, true, true, true, false] rfl rfl (by kernel_rfl) (by decide) (fun K hK => ?_)
         refine goes_ Tryd.func50 (by kernel_rfl) rfl #[setV t314, .int .u8 (bt a0 0)] (by rfl) rfl rfl (by (try simp only [List.map_toArray, List.map_cons, List.map_nil]); first | done | rfl | (simp only [List.length_drop, List.length_take]; rfl)) ?_
         with_reducible refine (chars_Set_Has.calls t314 (bt a0 0) false _ A8.out).mono ?_
         rintro e w20 ⟨rfl, hb⟩
         refine ⟨_, rfl, ?_⟩
         have n0_ := Aside0.mk (below_step (by repeat (first | (with_reducible first | exact HB.out | apply below_alloc | apply pw_below_drewN | apply below_drew1) | exact HB.out)) hb)
         clear HB
         have HB := n0_
         clear n0_
         (try clear hb)
         (try clear hb2)
         (try clear hk)
         (try clear hi)
         refine hK.out _ _ trivial (fun hHeld => ?_)
         clear hK K
         refine norm_ (a' := ?_) ?_ ?_
         rotate_left
         · show Act.put _ (some 17) _ = _
           simp only [Act.put, List.setIfInBounds_toArray, List.set_cons_zero, List.set_cons_succ, i64_w, i32_w]
           rfl
         refine pure_ (i := 4) (N := some 13) (v := ?_) (a' := ?_) #[true, true, true, true, true] rfl rfl (by kernel_rfl) (fun _ _ _ h => h) (Or.inl ⟨by rfl, ?_⟩) ?_ ?_
         rotate_left
         · intro w'
           go_simp
           with_reducible rfl
         rotate_left
         · simp only [Act.put, List.setIfInBounds_toArray, List.set_cons_zero, List.set_cons_succ, i64_w, i32_w]
           rfl
         refine done_ (by kernel_rfl) ?_
         try go_wp2_with (first | ((with_reducible refine gate_callee (f := 68) rfl ?_); refine goesL_ (some 20) rfl rfl Tryd.func68 (by kernel_rfl) rfl #[.string a0] rfl (by (try simp only [List.map_toArray, List.map_cons, List.map_nil]); first | done | rfl | (simp only [List.length_drop, List.length_take]; rfl)) ?_; (with_reducible refine (pct_Triplet.calls k a0 true _ A14.out).mono ?_); rintro e w' ⟨rfl, ⟨nd, rfl⟩⟩; refine ⟨_, rfl, ?_⟩) | ((with_reducible refine gate_callee (f := 69) rfl ?_); refine goesL_ (some 21) rfl rfl Tryd.func69 (by kernel_rfl) rfl #[.int .u8 0] rfl (by (try simp only [List.map_toArray, List.map_cons, List.map_nil]); first | done | rfl | (simp only [List.length_drop, List.length_take]; rfl)) ?_; (with_reducible refine (pct_One.calls 0 t317 _ A16.out).mono ?_); rintro e w21 ⟨rfl, hb⟩; refine ⟨_, rfl, ?_⟩; have n0_ := Aside0.mk (below_step (by repeat (first | (with_reducible first | exact HB.out | apply below_alloc | apply pw_below_drewN | apply below_drew1) | exact HB.out)) hb); clear HB; have HB := n0_; clear n0_; (try clear hb); (try clear hb2); (try clear hk); (try clear hi)))
         go_ret
         exact ⟨by first | rfl | (simp [errW_none, errW_some] <;> rfl) | (simp [*, errW_none, errW_some] <;> rfl), by repeat (first | (with_reducible first | exact HB.out | apply below_alloc | apply pw_below_drewN | apply below_drew1) | exact HB.out)⟩
       · replace c15 := Bool.eq_false_iff.mpr c15
         subst c15
         have H1 : (some t313) = some r := by rw [if_neg (show ¬ (false = true) by decide)] at H; exact H
         clear H
         have H := H1
         clear H1
         obtain rfl := Option.some.inj H
         go_enter Tryd.func48, Tryd.ntmps48
         try go_wp2_with (first | ((with_reducible refine gate_callee (f := 66) rfl ?_); refine goesL_ (some 7) rfl rfl Tryd.func66 (by kernel_rfl) rfl #[.string a0] rfl (by (try simp only [List.map_toArray, List.map_cons, List.map_nil]); first | done | rfl | (simp only [List.length_drop, List.length_take]; rfl)) ?_; (with_reducible refine (ucs_Take.calls k a0 t312 t313 _ A2.out).mono ?_); rintro e w22 ⟨rfl, hb⟩; refine ⟨_, rfl, ?_⟩; have n0_ := Aside0.mk (below_step (by repeat (first | (with_reducible first | exact HB.out | apply below_alloc | apply pw_below_drewN | apply below_drew1) | exact HB.out)) hb); clear HB; have HB := n0_; clear n0_; (try clear hb); (try clear hb2); (try clear hk); (try clear hi)))
         have n0_ := Aside0.mk (below_drew1 HB.out)
         clear HB
         have HB := n0_
         clear n0_
         have p7 : 0 ≤ (0 : Int) := (by omega)
         have q7 : 0 < a0.size := (by have : (0 : Int) < (a0.size : Int) := of_decide_eq_true (by first | (with_reducible assumption) | assumption); omega)
         have hx7 : ∀ h : 0 < a0.size, ((a0[0]'h).toNat : Int) = bt a0 0 := bt_at a0 0
         clear p7
         have qi7 : (0 < (a0.size : Int)) = True := eq_true (of_decide_eq_true (by first | (with_reducible assumption) | assumption))
         replace q7 := eq_true q7
         refine start_ (n := 5) (S := fun w' => True) (ds := []) #[false, false, false, false, false] (by kernel_rfl) rfl rfl trivial (fun hHeld => ?_)
         generalize w22.drew = w23 at HB hHeld ⊢
         refine pure_ (i := 1) (N := some 15) (v := ?_) (a' := ?_) #[false, true, false, false, false] rfl rfl (by kernel_rfl) (fun _ _ _ h => h) (Or.inl ⟨by rfl, ?_⟩) ?_ ?_
         rotate_left
         · intro w'
           go_simp
           with_reducible rfl
         rotate_left
         · simp only [Act.put, List.setIfInBounds_toArray, List.set_cons_zero, List.set_cons_succ, i64_w, i32_w]
           rfl
         refine take_ (i := 2) (N := some 16) (v := ?_) (a' := ?_) #[false, true, true, false, false] rfl rfl (by kernel_rfl) (fun _ _ _ h => h) (Or.inl ⟨by rfl, ?_⟩) hHeld ?_ ?_
         rotate_left
         · intro w' _
           go_simp
           with_reducible rfl
         rotate_left
         · simp only [Act.put, List.setIfInBounds_toArray, List.set_cons_zero, List.set_cons_succ, i64_w, i32_w]
           rfl
         refine one_ (i := 0) (N := some 14) #[true, true, true, false, false] rfl rfl (by kernel_rfl) (by decide) (fun K hK => ?_)
         refine goes_ Tryd.func67 (by kernel_rfl) rfl #[] (by rfl) rfl rfl (by (try simp only [List.map_toArray, List.map_cons, List.map_nil]); first | done | rfl | (simp only [List.length_drop, List.length_take]; rfl)) ?_
         with_reducible refine (chars_Literal.calls  t314 _ A5.out).mono ?_
         rintro e w24 ⟨rfl, hb⟩
         refine ⟨_, rfl, ?_⟩
         have n0_ := Aside0.mk (below_step (by repeat (first | (with_reducible first | exact HB.out | apply below_alloc | apply pw_below_drewN | apply below_drew1) | exact HB.out)) hb)
         clear HB
         have HB := n0_
         clear n0_
         (try clear hb)
         (try clear hb2)
         (try clear hk)
         (try clear hi)
         refine hK.out _ _ trivial (fun hHeld => ?_)
         clear hK K
         refine norm_ (a' := ?_) ?_ ?_
         rotate_left
         · show Act.put _ (some 14) _ = _
           simp only [Act.put, List.setIfInBounds_toArray, List.set_cons_zero, List.set_cons_succ, i64_w, i32_w]
           rfl
         refine one_ (i := 3) (N := some 17) #[true, true, true, true, false] rfl rfl (by kernel_rfl) (by decide) (fun K hK => ?_)
         refine goes_ Tryd.func50 (by kernel_rfl) rfl #[setV t314, .int .u8 (bt a0 0)] (by rfl) rfl rfl (by (try simp only [List.map_toArray, List.map_cons, List.map_nil]); first | done | rfl | (simp only [List.length_drop, List.length_take]; rfl)) ?_
         with_reducible refine (chars_Set_Has.calls t314 (bt a0 0) false _ A8.out).mono ?_
         rintro e w25 ⟨rfl, hb⟩
         refine ⟨_, rfl, ?_⟩
         have n0_ := Aside0.mk (below_step (by repeat (first | (with_reducible first | exact HB.out | apply below_alloc | apply pw_below_drewN | apply below_drew1) | exact HB.out)) hb)
         clear HB
         have HB := n0_
         clear n0_
         (try clear hb)
         (try clear hb2)
         (try clear hk)
         (try clear hi)
         refine hK.out _ _ trivial (fun hHeld => ?_)
         clear hK K
         refine norm_ (a' := ?_) ?_ ?_
         rotate_left
         · show Act.put _ (some 17) _ = _
           simp only [Act.put, List.setIfInBounds_toArray, List.set_cons_zero, List.set_cons_succ, i64_w, i32_w]
           rfl
         refine pure_ (i := 4) (N := some 13) (v := ?_) (a' := ?_) #[true, true, true, true, true] rfl rfl (by kernel_rfl) (fun _ _ _ h => h) (Or.inl ⟨by rfl, ?_⟩) ?_ ?_
         rotate_left
         · intro w'
           go_simp
           with_reducible rfl
         rotate_left
         · simp only [Act.put, List.setIfInBounds_toArray, List.set_cons_zero, List.set_cons_succ, i64_w, i32_w]
           rfl
         refine done_ (by kernel_rfl) ?_
         try go_wp2_with (first | ((with_reducible refine gate_callee (f := 68) rfl ?_); refine goesL_ (some 20) rfl rfl Tryd.func68 (by kernel_rfl) rfl #[.string a0] rfl (by (try simp only [List.map_toArray, List.map_cons, List.map_nil]); first | done | rfl | (simp only [List.length_drop, List.length_take]; rfl)) ?_; (with_reducible refine (pct_Triplet.calls k a0 false _ A14.out).mono ?_); rintro e w' ⟨rfl, ⟨nd, rfl⟩⟩; refine ⟨_, rfl, ?_⟩))
         go_ret
         exact ⟨by first | rfl | (simp [errW_none, errW_some] <;> rfl) | (simp [*, errW_none, errW_some] <;> rfl), by repeat (first | (with_reducible first | exact HB.out | apply below_alloc | apply pw_below_drewN | apply below_drew1) | exact HB.out)⟩
   · rw [if_neg c6] at H
     exact absurd H (by simp)
def tmpl_pieces.l0 : Nat → ByteArray → Int → Int → Option (Int)
 | 0, _, _, _ => none
 | k + 1, x0, x3, x4 => if x4 > 0 then (if 0 ≤ (wrap64 (x3 + x4)) then (if (wrap64 (x3 + x4)) ≤ (x0.size : Int) then ((tmpl_piece.f k (x0.extract ((wrap64 (x3 + x4)) : Int).toNat x0.size)).bind fun t319 => (tmpl_pieces.l0 k x0 (wrap64 (x3 + x4)) t319)) else (none)) else (none)) else (some x3)
def tmpl_pieces.f (k : Nat) (a0 : ByteArray) : Option (Int) := (tmpl_piece.f k a0).bind fun t318 => (tmpl_pieces.l0 k a0 0 t318)
theorem tmpl_pieces.mono_l : ∀ k, (∀ y0 y1 y2, LeO (tmpl_pieces.l0 k y0 y1 y2) (tmpl_pieces.l0 (k + 1) y0 y1 y2))
 | 0 => fun _ _ _ r h => by simp [tmpl_pieces.l0] at h
 | k + 1 => by
  have ih0 := tmpl_pieces.mono_l k
  · intro y0 y1 y2
    unfold tmpl_pieces.l0
    repeat' first
    | (with_reducible exact ih0 _ _ _)
    | (with_reducible exact tmpl_piece.mono _ _)
    | (with_reducible exact LeO.refl _)
    | (with_reducible exact LeO.none _)
    | (with_reducible refine LeO.ite ?_ ?_)
    | (with_reducible refine LeO.bind ?_ (fun _ => ?_))
    | exact ih0 _ _ _
    | exact tmpl_piece.mono _ _
    | exact LeO.none _
    | refine LeO.ite ?_ ?_
    | refine LeO.bind ?_ (fun _ => ?_)
theorem tmpl_pieces.mono : ∀ a0 k, LeO (tmpl_pieces.f k a0) (tmpl_pieces.f (k + 1) a0) := by
 intro a0 k
 have ih0 := tmpl_pieces.mono_l k
 unfold tmpl_pieces.f
 repeat' first
  | (with_reducible exact ih0 _ _ _)
  | (with_reducible exact tmpl_piece.mono _ _)
  | (with_reducible exact LeO.refl _)
  | (with_reducible exact LeO.none _)
  | (with_reducible refine LeO.ite ?_ ?_)
  | (with_reducible refine LeO.bind ?_ (fun _ => ?_))
  | exact ih0 _ _ _
  | exact tmpl_piece.mono _ _
  | exact LeO.none _
  | refine LeO.ite ?_ ?_
  | refine LeO.bind ?_ (fun _ => ?_)
set_option maxHeartbeats 8000000 in
set_option maxRecDepth 100000 in
theorem tmpl_pieces.calls (k : Nat) (a0 : ByteArray) (r : Int) (w : World) (h : tmpl_pieces.f k a0 = some r) :
 Calls Tryd.prog 34 #[.string a0] w fun e w' => e = .returned (.int .i64 r) ∧ Below w.heap.size w w' := by
 have HB := Aside0.mk (Below.refl w.heap.size w)
 have H : ((tmpl_piece.f k a0).bind fun t318 => (tmpl_pieces.l0 k a0 0 t318)) = some r := h
 clear h
 replace H := Option.bind_eq_some_iff.mp H
 obtain ⟨t318, A20, H⟩ := H
 replace H : (tmpl_pieces.l0 k a0 0 t318) = some r := H
 have A2 := Aside0.mk A20
 clear A20
 have H' := Aside0.mk H
 clear H
 go_enter Tryd.func34, Tryd.ntmps34
 go_wp2_with (first | ((with_reducible refine gate_callee (f := 48) rfl ?_); refine goesL_ (some 6) rfl rfl Tryd.func48 (by kernel_rfl) rfl #[.string a0] rfl (by (try simp only [List.map_toArray, List.map_cons, List.map_nil]); first | done | rfl | (simp only [List.length_drop, List.length_take]; rfl)) ?_; (with_reducible refine (tmpl_piece.calls k a0 t318 _ A2.out).mono ?_); rintro e w3 ⟨rfl, hb⟩; refine ⟨_, rfl, ?_⟩; have n0_ := Aside0.mk (below_step (by repeat (first | (with_reducible first | exact HB.out | apply below_alloc | apply pw_below_drewN | apply below_drew1) | exact HB.out)) hb); clear HB; have HB := n0_; clear n0_; (try clear hb); (try clear hb2); (try clear hk); (try clear hi)))
 go_loopg [3, 4] k (fun kq v3 v4 w' => ∃ (x3_1 : Int) (x4_1 : Int), v3 = .int .i64 x3_1 ∧ v4 = .int .i64 x4_1 ∧ Aside0 (tmpl_pieces.l0 kq a0 x3_1 x4_1 = some r) ∧ Aside0 (kq ≤ k) ∧ Aside0 (Below w.heap.size w w'))
 case atStart => exact ⟨(0), (t318), (by first | rfl | (simp; done) | (simp [*]; done)), (by first | rfl | (simp; done) | (simp [*]; done)), H', ⟨Nat.le_refl _⟩, ⟨by repeat (first | (with_reducible first | exact HB.out | apply below_alloc | apply pw_below_drewN | apply below_drew1) | exact HB.out)⟩⟩
 case round =>
  clear H'
  try clear p2
  try clear c3
  obtain ⟨x3_1, x4_1, rfl, rfl, HA, HK1, HB⟩ := hrel
  cases gk with
  | zero => exact absurd HA.out (by simp [tmpl_pieces.l0])
  | succ k1 =>
   have H := HA.out
   clear HA
   simp only [tmpl_pieces.l0] at H
   by_cases c4 : x4_1 > 0
   · rw [if_pos c4] at H
     have c4b0 : decide (0 < x4_1) = true := decide_eq_true c4
     clear c4
     obtain ⟨ji5, hji5⟩ : ∃ j_ : Int, (wrap64 (x3_1 + x4_1)) = j_ := ⟨_, rfl⟩
     replace H : (if 0 ≤ (ji5) then (if (ji5) ≤ (a0.size : Int) then ((tmpl_piece.f k1 (a0.extract ((ji5) : Int).toNat a0.size)).bind fun t319 => (tmpl_pieces.l0 k1 a0 ji5 t319)) else (none)) else (none)) = some r := by first | (rw [hji5] at H; exact H) | (simp only [hji5] at H ⊢; exact H)
     have hji5w : (IntKind.i64.wrap (x3_1 + x4_1)) = ji5 := (i64_w _).trans hji5
     by_cases c6 : 0 ≤ (ji5)
     · rw [if_pos c6] at H
       have c6b0 := eq_true c6
       have c6b1 : decide (0 ≤ (ji5)) = true := decide_eq_true c6
       clear c6
       by_cases c7 : (ji5) ≤ (a0.size : Int)
       · rw [if_pos c7] at H
         have c7b0 := eq_true c7
         have c7b1 : decide ((ji5) ≤ (a0.size : Int)) = true := decide_eq_true c7
         clear c7
         replace H := Option.bind_eq_some_iff.mp H
         obtain ⟨t319, A80, H⟩ := H
         replace H : (tmpl_pieces.l0 k1 a0 ji5 t319) = some r := H
         have A8 := Aside0.mk A80
         clear A80
         have H' := Aside0.mk H
         clear H
         go_wp2_with (first | ((with_reducible refine gate_callee (f := 48) rfl ?_); refine goesL_ (some 12) rfl rfl Tryd.func48 (by kernel_rfl) rfl #[.string (a0.extract ((ji5) : Int).toNat a0.size)] rfl (by (try simp only [List.map_toArray, List.map_cons, List.map_nil]); first | done | (simp only [hji5]; rfl) | rfl | (simp only [List.length_drop, List.length_take]; rfl)) ?_; (with_reducible refine (tmpl_piece.calls k1 (a0.extract ((ji5) : Int).toNat a0.size) t319 _ A8.out).mono ?_); rintro e w9 ⟨rfl, hb⟩; refine ⟨_, rfl, ?_⟩; have n0_ := Aside0.mk (below_step (by repeat (first | (with_reducible first | exact HB.out | apply below_alloc | apply pw_below_drewN | apply below_drew1) | exact HB.out)) hb); clear HB; have HB := n0_; clear n0_; (try clear hb); (try clear hb2); (try clear hk); (try clear hi)))
         go_roundg k1
         case measure => have := HK1.out; omega
         case rel => exact ⟨(ji5), (t319), (by first | rfl | (simp; done) | (simp only [← hji5] <;> (first | rfl | simp)) | (simp [*]; done)), (by first | rfl | (simp; done) | (simp [*]; done)), H', ⟨by have := HK1.out; omega⟩, ⟨by repeat (first | (with_reducible first | exact HB.out | apply below_alloc | apply pw_below_drewN | apply below_drew1) | exact HB.out)⟩⟩
       · rw [if_neg c7] at H
         exact absurd H (by simp)
     · rw [if_neg c6] at H
       exact absurd H (by simp)
   · rw [if_neg c4] at H
     have c4b0 : decide (0 < x4_1) = false := decide_eq_false c4
     clear c4
     obtain rfl := Option.some.inj H
     go_wp2
     go_ret
     exact ⟨by first | rfl | (simp [errW_none, errW_some] <;> rfl) | (simp [*, errW_none, errW_some] <;> rfl), by repeat (first | (with_reducible first | exact HB.out | apply below_alloc | apply pw_below_drewN | apply below_drew1) | exact HB.out)⟩
end Go.Proofs.YtkipkbggnfllkaaDoor.P
end
section
namespace Go.Proofs.YtkipkbggnfllkaaDoor.P
set_option linter.unusedVariables false
set_option linter.unusedSimpArgs false
theorem digit_iff (b : Nat) : isDigit b = true ↔ 48 ≤ b ∧ b ≤ 57 := by
 simp only [isDigit, Bool.and_eq_true, decide_eq_true_eq]
 omega
theorem c_digits : ∀ (r : List Nat) (k : Nat), NoSep r → (far step (.c k) r = r.length ↔ (∀ b ∈ r, 48 ≤ b ∧ b ≤ 57) ∧ (r = [] ∨ k + r.length ≤ 4) ∧ (k = 0 → r.head? ≠ some 48))
 | [], k, _ => by simp [far]
 | b :: r, k, hs => by
  have hf := fin_other (hs b (by simp)).1 (hs b (by simp)).2
  by_cases h : isDigit b = true ∧ k < 4 ∧ ¬ (k = 0 ∧ b = 48)
  · have s : step (.c k) b = some (.c (k + 1)) := by simp only [step]; rw [if_pos h]
    rw [far_some s, List.length_cons, Nat.add_right_cancel_iff, c_digits r (k + 1) hs.tail]
    have hb := (digit_iff b).1 h.1
    constructor
    · rintro ⟨a, c, -⟩
      refine ⟨fun x hx => ?_, .inr ?_, fun hk => ?_⟩
      · rcases List.mem_cons.1 hx with rfl | hx
        · exact hb
        · exact a x hx
      · rcases c with rfl | c
        · simp
          omega
        · omega
      · intro g
        exact h.2.2 ⟨hk, Option.some.inj g⟩
    · rintro ⟨a, c, -⟩
      refine ⟨fun x hx => a x (List.mem_cons_of_mem _ hx), .inr ?_, fun hk => by omega⟩
      rcases c with c | c
      · cases c
      · omega
  · have s : step (.c k) b = none := by
     simp only [step]
     rw [if_neg h, hf]
     split <;> rfl
    rw [far_none s, List.length_cons]
    constructor
    · intro g
      omega
    · rintro ⟨a, c, e⟩
      refine absurd ⟨(digit_iff b).2 (a b (by simp)), ?_, fun g => ?_⟩ h
      · rcases c with c | c
        · cases c
        · omega
      · exact e g.1 (by rw [g.2]; rfl)
end Go.Proofs.YtkipkbggnfllkaaDoor.P
end
section
namespace Go.Proofs.YtkipkbggnfllkaaDoor.P
open Go.RowKit Go.Proofs.YtkipkbggnfllkaaDoorW.PrintWords Go.Proofs.YtkipkbggnfllkaaDoorW.PrintLast Go.Proofs.YtkipkbggnfllkaaDoorW.PrintMore
attribute [local go_sem] max2_int min2_int max_two min_two max_three min_three max_four min_four
set_option linter.unusedVariables false
set_option linter.unusedSimpArgs false
def slices_Index_string_string.l0 : Nat → List ByteArray → ByteArray → Int → Int → Option (Int)
 | 0, _, _, _, _ => none
 | k + 1, x0, x1, x7, x8 => if x8 < x7 then (if 0 ≤ x8 then (if x8 < (x0.length : Int) then (if x1.toList = (rdOf ByteArray.empty x0 x8).toList then (some x8) else (slices_Index_string_string.l0 k x0 x1 x7 (wrap64 (x8 + 1)))) else (none)) else (none)) else (some (-1))
def slices_Index_string_string.f (k : Nat) (l0 : List ByteArray) (a1 : ByteArray) : Option (Int) := slices_Index_string_string.l0 k l0 a1 (l0.length : Int) 0
set_option maxHeartbeats 8000000 in
set_option maxRecDepth 100000 in
theorem slices_Index_string_string.calls (k : Nat) (A0 : Option Addr) (c0 : Nat) (l0 : List ByteArray) (a1 : ByteArray) (r : Int) (w : World) (hr0 : Kd.C Kd.string w A0 l0.length l0) (hc0 : l0.length ≤ c0) (h : slices_Index_string_string.f k l0 a1 = some r) :
 Calls Tryd.prog 59 #[.slice A0 l0.length c0, .string a1] w fun e w' => e = .returned (.int .i64 r) ∧ Drawn0 w w' := by
 have HR0 := Aside0.mk hr0
 have HC0 := Aside0.mk hc0
 clear hr0 hc0
 have H : (slices_Index_string_string.l0 k l0 a1 (l0.length : Int) 0) = some r := h
 clear h
 have H' := Aside0.mk H
 clear H
 go_enter Tryd.func59, Tryd.ntmps59
 go_wp2
 go_loopg [8] k (fun kq v8 w' => ∃ (x8_1 : Int), v8 = .int .i64 x8_1 ∧ Aside0 (slices_Index_string_string.l0 kq l0 a1 (l0.length : Int) x8_1 = some r) ∧ Aside0 (kq ≤ k) ∧ Drawn0 w w')
 case atStart => exact ⟨(0), (by first | rfl | (simp; done) | (simp [*]; done)), H', ⟨Nat.le_refl _⟩, by repeat (first | exact Drawn0.refl _ | apply Drawn0.step)⟩
 case round =>
  clear H'
  try clear p2
  obtain ⟨x8_1, rfl, HA, HK1, ⟨m1, rfl⟩⟩ := hrel
  cases gk with
  | zero => exact absurd HA.out (by simp [slices_Index_string_string.l0])
  | succ k1 =>
   have H := HA.out
   clear HA
   simp only [slices_Index_string_string.l0] at H
   by_cases c3 : x8_1 < (l0.length : Int)
   · rw [if_pos c3] at H
     have c3b0 : decide (x8_1 < (l0.length : Int)) = true := decide_eq_true c3
     clear c3
     by_cases c4 : 0 ≤ x8_1
     · rw [if_pos c4] at H
       have c4b0 : decide (0 ≤ x8_1) = true := decide_eq_true c4
       clear c4
       by_cases c5 : x8_1 < (l0.length : Int)
       · rw [if_pos c5] at H
         have c5b0 : decide (x8_1 < (l0.length : Int)) = true := decide_eq_true c5
         clear c5
         by_cases c6 : a1.toList = (rdOf ByteArray.empty l0 x8_1).toList
         · rw [if_pos c6] at H
           have c6b0 : (a1.toList == (rdOf ByteArray.empty l0 x8_1).toList) = true := beq_iff_eq.mpr c6
           have c6b1 : (a1.toList != (rdOf ByteArray.empty l0 x8_1).toList) = false := bne_eq_false_iff_eq.mpr c6
           clear c6
           obtain rfl := Option.some.inj H
           have p199 : 0 ≤ (x8_1 : Int) := of_decide_eq_true (by first | (with_reducible assumption) | assumption)
           have q199 : x8_1 < (l0.length : Int) := of_decide_eq_true (by first | (with_reducible assumption) | assumption)
           obtain ⟨ad199, e199, hx199_0⟩ := Kd.at_string HR0.out x8_1 p199 q199
           cases e199
           replace p199 := eq_true p199
           replace q199 := eq_true q199
           go_wp2
           go_ret
           exact ⟨by first | rfl | (simp; done) | (simp [*]; done), by repeat (first | exact Drawn0.refl _ | apply Drawn0.step)⟩
         · rw [if_neg c6] at H
           have c6b0 : (a1.toList == (rdOf ByteArray.empty l0 x8_1).toList) = false := beq_eq_false_iff_ne.mpr c6
           have c6b1 : (a1.toList != (rdOf ByteArray.empty l0 x8_1).toList) = true := bne_iff_ne.mpr c6
           have H' := Aside0.mk H
           clear H
           have p199 : 0 ≤ (x8_1 : Int) := of_decide_eq_true (by first | (with_reducible assumption) | assumption)
           have q199 : x8_1 < (l0.length : Int) := of_decide_eq_true (by first | (with_reducible assumption) | assumption)
           obtain ⟨ad199, e199, hx199_0⟩ := Kd.at_string HR0.out x8_1 p199 q199
           cases e199
           replace p199 := eq_true p199
           replace q199 := eq_true q199
           go_wp2
           go_roundg k1
           case measure => have := HK1.out; omega
           case rel => exact ⟨(wrap64 (x8_1 + 1)), (by first | rfl | (simp; done) | (simp [*]; done)), H', ⟨by have := HK1.out; omega⟩, by repeat (first | exact Drawn0.refl _ | apply Drawn0.step)⟩
       · rw [if_neg c5] at H
         exact absurd H (by simp)
     · rw [if_neg c4] at H
       exact absurd H (by simp)
   · rw [if_neg c3] at H
     have c3b0 : decide (x8_1 < (l0.length : Int)) = false := decide_eq_false c3
     clear c3
     obtain rfl := Option.some.inj H
     go_wp2
     go_ret
     exact ⟨by first | rfl | (simp; done) | (simp [*]; done), by repeat (first | exact Drawn0.refl _ | apply Drawn0.step)⟩
def slices_Contains_string_string.f (k : Nat) (l0 : List ByteArray) (a1 : ByteArray) : Option (Bool) := (slices_Index_string_string.f k l0 a1).bind fun t200 => (some (decide (t200 ≥ 0)))
set_option maxHeartbeats 8000000 in
set_option maxRecDepth 100000 in
theorem slices_Contains_string_string.calls (k : Nat) (A0 : Option Addr) (c0 : Nat) (l0 : List ByteArray) (a1 : ByteArray) (r : Bool) (w : World) (hr0 : Kd.C Kd.string w A0 l0.length l0) (hc0 : l0.length ≤ c0) (h : slices_Contains_string_string.f k l0 a1 = some r) :
 Calls Tryd.prog 41 #[.slice A0 l0.length c0, .string a1] w fun e w' => e = .returned (.bool r) ∧ Drawn0 w w' := by
 have HR0 := Aside0.mk hr0
 have HC0 := Aside0.mk hc0
 clear hr0 hc0
 have H : ((slices_Index_string_string.f k l0 a1).bind fun t200 => (some (decide (t200 ≥ 0)))) = some r := h
 clear h
 replace H := Option.bind_eq_some_iff.mp H
 obtain ⟨t200, A30, H⟩ := H
 replace H : (some (decide (t200 ≥ 0))) = some r := H
 have A3 := Aside0.mk A30
 clear A30
 obtain rfl := Option.some.inj H
 go_enter Tryd.func41, Tryd.ntmps41
 go_wp2_with (first | ((with_reducible refine gate_callee (f := 59) rfl ?_); refine goesL_ (some 7) rfl rfl Tryd.func59 (by kernel_rfl) rfl #[.slice A0 l0.length c0, .string a1] rfl (by (try simp only [List.map_toArray, List.map_cons, List.map_nil]); first | done | rfl | (simp only [List.length_drop, List.length_take]; rfl)) ?_; (with_reducible refine (slices_Index_string_string.calls k _ _ l0 a1 t200 _ ?side1 ?side2 A3.out).mono ?_); (case side1 => repeat (first | exact HR0.out | (with_reducible refine Kd.C_alloc ?_ _) | (with_reducible refine Kd.C_drewN ?_ _) | (with_reducible refine Kd.C_drew ?_))); (case side2 => exact HC0.out); rintro e w' ⟨rfl, ⟨nd, rfl⟩⟩; refine ⟨_, rfl, ?_⟩))
 go_ret
 exact ⟨by first | rfl | (simp; done) | (simp [*]; done), by repeat (first | exact Drawn0.refl _ | apply Drawn0.step)⟩
mutual
def tmpl_names.l0 : Nat → List ByteArray → Int → List (S41) → Int → Int → Option (List ByteArray × Int)
 | 0, _, _, _, _, _ => none
 | k + 1, x4, x5, x10, x11, x12 => if x12 < x11 then (if 0 ≤ x12 then (if x12 < (x10.length : Int) then (tmpl_names.l1 k x4 x5 x10 x11 x12 ((rd_T41 x10 x12).f2) (((rd_T41 x10 x12).f2).length : Int) 0) else (none)) else (none)) else (some (x4, x5))
def tmpl_names.l1 : Nat → List ByteArray → Int → List (S41) → Int → Int → List (S43) → Int → Int → Option (List ByteArray × Int)
 | 0, _, _, _, _, _, _, _, _ => none
 | k + 1, x4, x5, x10, x11, x12, x17, x18, x19 => if x19 < x18 then (if 0 ≤ x19 then (if x19 < (x17.length : Int) then ((slices_Contains_string_string.f k x4 ((rd_T43 x17 x19).f0)).bind fun t205 => (if t205 = true then (tmpl_names.l1 k x4 (wrap64 (x5 + 1)) x10 x11 x12 x17 x18 (wrap64 (x19 + 1))) else (if x4.length < 8796093022208 then (tmpl_names.l1 k (x4 ++ [(rd_T43 x17 x19).f0]) (wrap64 (x5 + 1)) x10 x11 x12 x17 x18 (wrap64 (x19 + 1))) else (none)))) else (none)) else (none)) else (tmpl_names.l0 k x4 x5 x10 x11 (wrap64 (x12 + 1)))
end
def tmpl_names.f (k : Nat) (l0 : List (S41)) : Option (List ByteArray × Int) := tmpl_names.l0 k ([] : List ByteArray) 0 l0 (l0.length : Int) 0
set_option maxHeartbeats 8000000 in
set_option maxRecDepth 100000 in
theorem tmpl_names.calls (k : Nat) (A0 : Option Addr) (c0 : Nat) (l0 : List (S41)) (r1 : List ByteArray) (r2 : Int) (w : World) (hr0 : Kd.C k41 w A0 l0.length l0) (hc0 : l0.length ≤ c0) (h : tmpl_names.f k l0 = some (r1, r2)) :
 Calls Tryd.prog 26 #[.slice A0 l0.length c0] w fun e w' => ∃ v0_ : Value, e = .returned (.tuple #[v0_, .int .i64 r2]) ∧ Kd.R Kd.string 9 w' w.heap.size (fun _ => True) v0_ r1 ∧ Below w.heap.size w w' := by
 have hu41 := Tryd.underlying41
 have hu43 := Tryd.underlying43
 have HR0 := Aside0.mk hr0
 have HC0 := Aside0.mk hc0
 clear hr0 hc0
 have HB := Aside0.mk (Below.refl w.heap.size w)
 have H : (tmpl_names.l0 k ([] : List ByteArray) 0 l0 (l0.length : Int) 0) = some (r1, r2) := h
 clear h
 have H' := Aside0.mk H
 clear H
 go_enter Tryd.func26, Tryd.ntmps26
 go_wp2
 go_loopg [4, 5, 12] k (fun kq v4 v5 v12 w' => ∃ (x4_1 : List ByteArray) (x5_1 : Int) (x12_1 : Int), v5 = .int .i64 x5_1 ∧ v12 = .int .i64 x12_1 ∧ Aside0 (tmpl_names.l0 kq x4_1 x5_1 l0 (l0.length : Int) x12_1 = some (r1, r2)) ∧ Aside0 (kq ≤ k) ∧ Aside0 (Kd.R Kd.string 9 w' w.heap.size (fun _ => True) v4 x4_1) ∧ Aside0 (Below w.heap.size w w'))
 case atStart => exact ⟨(([] : List ByteArray)), (0), (0), (by first | rfl | (simp; done) | (simp [*]; done)), (by first | rfl | (simp; done) | (simp [*]; done)), H', ⟨Nat.le_refl _⟩, ⟨by first | exact Kd.R_nil _ _ _ _ _ | exact Kd.N_nil _ _ _ _ _ | exact Kd.V_nil _ _ _ _ _ | exact Kd.Q_nil _ _ _ _ _ | exact Kd.S_nil _ _ _ _ _⟩, ⟨by repeat (first | (with_reducible first | exact HB.out | apply below_alloc | apply pw_below_drewN | apply below_drew1) | exact HB.out)⟩⟩
 case round =>
  clear H'
  obtain ⟨x4_1, x5_1, x12_1, rfl, rfl, HA, HK1, HO_4, HB⟩ := hrel
  cases gk with
  | zero => exact absurd HA.out (by simp [tmpl_names.l0])
  | succ k1 =>
   have H := HA.out
   clear HA
   simp only [tmpl_names.l0] at H
   by_cases c2 : x12_1 < (l0.length : Int)
   · rw [if_pos c2] at H
     have c2b0 : decide (x12_1 < (l0.length : Int)) = true := decide_eq_true c2
     clear c2
     by_cases c3 : 0 ≤ x12_1
     · rw [if_pos c3] at H
       have c3b0 : decide (0 ≤ x12_1) = true := decide_eq_true c3
       clear c3
       by_cases c4 : x12_1 < (l0.length : Int)
       · rw [if_pos c4] at H
         have c4b0 : decide (x12_1 < (l0.length : Int)) = true := decide_eq_true c4
         clear c4
         have H' := Aside0.mk H
         clear H
         have p201 : 0 ≤ (x12_1 : Int) := of_decide_eq_true (by first | (with_reducible assumption) | assumption)
         have q201 : x12_1 < (l0.length : Int) := of_decide_eq_true (by first | (with_reducible assumption) | assumption)
         obtain ⟨ad201, A201_2, c201_2, e201, hx201_0, hx201_1, hx201_2, hl201_2, hi201_2⟩ := at_T41 HR0.out x12_1 p201 q201
         cases e201
         replace hx201_0 := (HB.out.cell (World.block_lt_of_cell? w _ hx201_0)).trans hx201_0
         replace hx201_1 := (HB.out.cell (World.block_lt_of_cell? w _ hx201_1)).trans hx201_1
         replace hx201_2 := (HB.out.cell (World.block_lt_of_cell? w _ hx201_2)).trans hx201_2
         have HR201_2 := Aside0.mk hi201_2
         have HC201_2 := Aside0.mk hl201_2
         clear hi201_2 hl201_2
         replace p201 := eq_true p201
         replace q201 := eq_true q201
         go_wp2_with (first | ((with_reducible refine gate_dst (N := 7) rfl ?_); refine box_event ?hg (N := 7) ?hd (cs := #[.string (⟨#[]⟩ : ByteArray), .int .u8 0, .slice none 0 0]) (t := 41) ?hr ?_; (case hd => rfl); (case hg => rfl); (case hr => first | (go_simp; done) | (go_simp; rfl)); intro gb202 hg w5 hbox hb; have n0_ := Aside0.mk (Kd.R_below (by (with_reducible repeat (first | apply Kd.R_alloc | apply Kd.R_drewN | apply Kd.R_drew)); exact HO_4.out) hb); have n1_ := Aside0.mk (below_step (by repeat (first | (with_reducible first | exact HB.out | apply below_alloc | apply pw_below_drewN | apply below_drew1) | exact HB.out)) hb); have n2_ := Aside0.mk (hbox); have n3_ := Aside0.mk ((by rw [hg]; exact (below_size (by repeat (first | (with_reducible first | exact HB.out | apply below_alloc | apply pw_below_drewN | apply below_drew1) | exact HB.out))) : w.heap.size ≤ gb202)); have n4_ := Aside0.mk ((by rw [hg]; exact (below_size (by repeat (first | (with_reducible first | exact HB.out | apply below_alloc | apply pw_below_drewN | apply below_drew1) | exact HB.out))) : w.heap.size ≤ gb202)); clear HO_4; clear HB; have HO_4 := n0_; have HB := n1_; have BK202 := n2_; have GW202 := n3_; have GE202 := n4_; clear n0_ n1_ n2_ n3_ n4_; clear hb hbox hg; have hcz6_0 : w5.cell? ⟨gb202, 0, none⟩ = some (.string (⟨#[]⟩ : ByteArray)) := (blk_cell BK202.out 0).trans rfl; have hcz6_1 : w5.cell? ⟨gb202, 1, none⟩ = some (.int .u8 0) := (blk_cell BK202.out 1).trans rfl; have hcz6_2 : w5.cell? ⟨gb202, 2, none⟩ = some (.slice none 0 0) := (blk_cell BK202.out 2).trans rfl; have hfz6_0 := blk_frozen BK202.out 0; have hfz6_1 := blk_frozen BK202.out 1; have hfz6_2 := blk_frozen BK202.out 2))
         go_loopg [4, 5, 19] k1 (fun kq v4 v5 v19 w' => ∃ (x4_2 : List ByteArray) (x5_2 : Int) (x19_2 : Int), v5 = .int .i64 x5_2 ∧ v19 = .int .i64 x19_2 ∧ Aside0 (tmpl_names.l1 kq x4_2 x5_2 l0 (l0.length : Int) x12_1 ((rd_T41 l0 x12_1).f2) (((rd_T41 l0 x12_1).f2).length : Int) x19_2 = some (r1, r2)) ∧ Aside0 (kq ≤ k1) ∧ Aside0 (Kd.R Kd.string 9 w' w.heap.size (fun _ => True) v4 x4_2) ∧ Aside0 (w'.heap[gb202]? = some (.cells #[.string ((rd_T41 l0 x12_1).f0), .int .u8 ((rd_T41 l0 x12_1).f1), (.slice A201_2 ((rd_T41 l0 x12_1).f2).length c201_2)] 41 (0, 0))) ∧ Aside0 (Below w.heap.size w w'))
         case atStart => exact ⟨(x4_1), (x5_1), (0), (by first | rfl | (simp; done) | (simp [*]; done)), (by first | rfl | (simp; done) | (simp [*]; done)), H', ⟨Nat.le_refl _⟩, ⟨by (with_reducible repeat (first | apply Kd.R_alloc | apply Kd.R_drewN | apply Kd.R_drew)); exact Kd.R_mono (Kd.R_far (p := ⟨gb202, 2, none⟩) (Kd.R_far (p := ⟨gb202, 1, none⟩) (Kd.R_far (p := ⟨gb202, 0, none⟩) (Kd.R_types HO_4.out BK202.out (by decide)) (fun _ hk => hk.2) (.string ((rd_T41 l0 x12_1).f0))) (fun _ hk => hk.2) (.int .u8 ((rd_T41 l0 x12_1).f1))) (fun _ hk => hk.2) (.slice A201_2 ((rd_T41 l0 x12_1).f2).length c201_2)) (fun _ hk => trivial)⟩, ⟨by (with_reducible repeat (first | refine blk_drewN ?_ _ | refine blk_drew ?_ | refine blk_alloc ?_ _)); refine blk_put (cs := #[.string ((rd_T41 l0 x12_1).f0), .int .u8 ((rd_T41 l0 x12_1).f1), .slice none 0 0]) ?_ 2 _ rfl; (with_reducible repeat (first | refine blk_drewN ?_ _ | refine blk_drew ?_ | refine blk_alloc ?_ _)); refine blk_put (cs := #[.string ((rd_T41 l0 x12_1).f0), .int .u8 0, .slice none 0 0]) ?_ 1 _ rfl; (with_reducible repeat (first | refine blk_drewN ?_ _ | refine blk_drew ?_ | refine blk_alloc ?_ _)); refine blk_put (cs := #[.string (⟨#[]⟩ : ByteArray), .int .u8 0, .slice none 0 0]) ?_ 0 _ rfl; (with_reducible repeat (first | refine blk_drewN ?_ _ | refine blk_drew ?_ | refine blk_alloc ?_ _)); exact BK202.out⟩, ⟨by repeat (first | (with_reducible first | exact HB.out | apply below_alloc | apply pw_below_drewN | apply below_drew1 | refine below_set ?_ GE202.out) | exact HB.out)⟩⟩
         case round =>
          clear H'
          try clear c2
          try clear c2b0
          try clear p2
          try clear q2
          try clear hx2
          try clear c3
          try clear c3b0
          try clear c4
          try clear c4b0
          try clear hcz6_0
          try clear hcz6_1
          try clear hcz6_2
          try clear hfz6_0
          try clear hfz6_1
          try clear hfz6_2
          try clear hx201_0
          try clear hx201_1
          try clear hx201_2
          try clear p201
          try clear q201
          obtain ⟨x4_2, x5_2, x19_2, rfl, rfl, HA, HK2, HO_4, BK202, HB⟩ := hrel
          cases gk with
          | zero => exact absurd HA.out (by simp [tmpl_names.l1])
          | succ k2 =>
           have H := HA.out
           clear HA
           simp only [tmpl_names.l1] at H
           by_cases c7 : x19_2 < (((rd_T41 l0 x12_1).f2).length : Int)
           · rw [if_pos c7] at H
             have c7b0 : decide (x19_2 < (((rd_T41 l0 x12_1).f2).length : Int)) = true := decide_eq_true c7
             clear c7
             by_cases c8 : 0 ≤ x19_2
             · rw [if_pos c8] at H
               have c8b0 : decide (0 ≤ x19_2) = true := decide_eq_true c8
               clear c8
               by_cases c9 : x19_2 < (((rd_T41 l0 x12_1).f2).length : Int)
               · rw [if_pos c9] at H
                 have c9b0 : decide (x19_2 < (((rd_T41 l0 x12_1).f2).length : Int)) = true := decide_eq_true c9
                 clear c9
                 replace H := Option.bind_eq_some_iff.mp H
                 obtain ⟨t205, A100, H⟩ := H
                 replace H : (if t205 = true then (tmpl_names.l1 k2 x4_2 (wrap64 (x5_2 + 1)) l0 (l0.length : Int) x12_1 ((rd_T41 l0 x12_1).f2) (((rd_T41 l0 x12_1).f2).length : Int) (wrap64 (x19_2 + 1))) else (if x4_2.length < 8796093022208 then (tmpl_names.l1 k2 (x4_2 ++ [(rd_T43 ((rd_T41 l0 x12_1).f2) x19_2).f0]) (wrap64 (x5_2 + 1)) l0 (l0.length : Int) x12_1 ((rd_T41 l0 x12_1).f2) (((rd_T41 l0 x12_1).f2).length : Int) (wrap64 (x19_2 + 1))) else (none))) = some (r1, r2) := H
                 have A10 := Aside0.mk A100
                 clear A100
                 by_cases c11 : t205 = true
                 · subst c11
                   have H1 : (tmpl_names.l1 k2 x4_2 (wrap64 (x5_2 + 1)) l0 (l0.length : Int) x12_1 ((rd_T41 l0 x12_1).f2) (((rd_T41 l0 x12_1).f2).length : Int) (wrap64 (x19_2 + 1))) = some (r1, r2) := by rw [if_pos rfl] at H; exact H
                   clear H
                   have H := H1
                   clear H1
                   have H' := Aside0.mk H
                   clear H
                   have p203 : 0 ≤ (x19_2 : Int) := of_decide_eq_true (by first | (with_reducible assumption) | assumption)
                   have q203 : x19_2 < (((rd_T41 l0 x12_1).f2).length : Int) := of_decide_eq_true (by first | (with_reducible assumption) | assumption)
                   obtain ⟨ad203, e203, hx203_0, hx203_1, hx203_2⟩ := at_T43 HR201_2.out x19_2 p203 q203
                   cases e203
                   replace hx203_0 := (HB.out.cell (World.block_lt_of_cell? w _ hx203_0)).trans hx203_0
                   replace hx203_1 := (HB.out.cell (World.block_lt_of_cell? w _ hx203_1)).trans hx203_1
                   replace hx203_2 := (HB.out.cell (World.block_lt_of_cell? w _ hx203_2)).trans hx203_2
                   replace p203 := eq_true p203
                   replace q203 := eq_true q203
                   go_wp2_with (first | ((with_reducible refine gate_dst (N := 9) rfl ?_); refine box_event ?hg (N := 9) ?hd (cs := #[.string (⟨#[]⟩ : ByteArray), .int .i64 0, .bool false]) (t := 43) ?hr ?_; (case hd => rfl); (case hg => rfl); (case hr => first | (go_simp; done) | (go_simp; rfl)); intro gb204 hg w12 hbox hb; have n0_ := Aside0.mk (Kd.R_below (by (with_reducible repeat (first | apply Kd.R_alloc | apply Kd.R_drewN | apply Kd.R_drew)); exact HO_4.out) hb); have n1_ := Aside0.mk (blk_below (g := gb202) (o := .cells #[.string ((rd_T41 l0 x12_1).f0), .int .u8 ((rd_T41 l0 x12_1).f1), .slice (some ad203) ((rd_T41 l0 x12_1).f2).length c201_2] 41 (0, 0)) (by (with_reducible repeat (first | refine blk_drewN ?_ _ | refine blk_drew ?_ | refine blk_alloc ?_ _)); exact BK202.out) hb); have n2_ := Aside0.mk (below_step (by repeat (first | (with_reducible first | exact HB.out | apply below_alloc | apply pw_below_drewN | apply below_drew1 | refine below_set ?_ GE202.out) | exact HB.out)) hb); have n3_ := Aside0.mk (hbox); have n4_ := Aside0.mk ((by rw [hg]; exact (below_size (by repeat (first | (with_reducible first | exact HB.out | apply below_alloc | apply pw_below_drewN | apply below_drew1 | refine below_set ?_ GE202.out) | exact HB.out))) : w.heap.size ≤ gb204)); have n5_ := Aside0.mk ((by rw [hg]; exact (below_size (by repeat (first | (with_reducible first | exact HB.out | apply below_alloc | apply pw_below_drewN | apply below_drew1 | refine below_set ?_ GE202.out) | exact HB.out))) : w.heap.size ≤ gb204)); have n6_ := Aside0.mk ((by rw [hg]; exact Nat.ne_of_lt (blk_lt (g := gb202) (o := .cells #[.string ((rd_T41 l0 x12_1).f0), .int .u8 ((rd_T41 l0 x12_1).f1), .slice (some ad203) ((rd_T41 l0 x12_1).f2).length c201_2] 41 (0, 0)) (by (with_reducible repeat (first | refine blk_drewN ?_ _ | refine blk_drew ?_ | refine blk_alloc ?_ _)); exact BK202.out)) : gb202 ≠ gb204)); have n7_ := Aside0.mk ((by rw [hg]; exact Nat.ne_of_gt (blk_lt (g := gb202) (o := .cells #[.string ((rd_T41 l0 x12_1).f0), .int .u8 ((rd_T41 l0 x12_1).f1), .slice (some ad203) ((rd_T41 l0 x12_1).f2).length c201_2] 41 (0, 0)) (by (with_reducible repeat (first | refine blk_drewN ?_ _ | refine blk_drew ?_ | refine blk_alloc ?_ _)); exact BK202.out)) : gb204 ≠ gb202)); clear HO_4; clear BK202; clear HB; have HO_4 := n0_; have BK202 := n1_; have HB := n2_; have BK204 := n3_; have GW204 := n4_; have GE204 := n5_; have NB202_204 := n6_; have NB204_202 := n7_; clear n0_ n1_ n2_ n3_ n4_ n5_ n6_ n7_; clear hb hbox hg; have hnb13 := NB204_202.out; have hnc13 := NB202_204.out; have hcz14_0 : w12.cell? ⟨gb204, 0, none⟩ = some (.string (⟨#[]⟩ : ByteArray)) := (blk_cell BK204.out 0).trans rfl; have hcz14_1 : w12.cell? ⟨gb204, 1, none⟩ = some (.int .i64 0) := (blk_cell BK204.out 1).trans rfl; have hcz14_2 : w12.cell? ⟨gb204, 2, none⟩ = some (.bool false) := (blk_cell BK204.out 2).trans rfl; have hfz14_0 := blk_frozen BK204.out 0; have hfz14_1 := blk_frozen BK204.out 1; have hfz14_2 := blk_frozen BK204.out 2; obtain ⟨Ao15, co15, eo15⟩ := Kd.R_slice HO_4.out; subst eo15) | ((with_reducible refine gate_callee (f := 41) rfl ?_); refine goesL_ (some 28) rfl rfl Tryd.func41 (by kernel_rfl) rfl #[.slice Ao15 x4_2.length co15, .string ((rd_T43 ((rd_T41 l0 x12_1).f2) x19_2).f0)] rfl (by (try simp only [List.map_toArray, List.map_cons, List.map_nil]); first | done | rfl | (simp only [List.length_drop, List.length_take]; rfl)) ?_; (with_reducible refine (slices_Contains_string_string.calls k2 _ _ x4_2 ((rd_T43 ((rd_T41 l0 x12_1).f2) x19_2).f0) true _ ?side1 ?side2 A10.out).mono ?_); (case side1 => refine (Kd.R_reads' (e := 9) (base := w.heap.size) (ok := fun k_ => True) (n := x4_2.length) (c := co15) ?_).2.2; exact (by (with_reducible repeat (first | apply Kd.R_alloc | apply Kd.R_drewN | apply Kd.R_drew)); exact (Kd.R_mono (Kd.R_far (p := ⟨gb204, 2, none⟩) (Kd.R_far (p := ⟨gb204, 1, none⟩) (Kd.R_far (p := ⟨gb204, 0, none⟩) (Kd.R_types HO_4.out BK204.out (by decide)) (fun _ hk => hk.2) (.string ((rd_T43 ((rd_T41 l0 x12_1).f2) x19_2).f0))) (fun _ hk => hk.2) (.int .i64 ((rd_T43 ((rd_T41 l0 x12_1).f2) x19_2).f1))) (fun _ hk => hk.2) (.bool ((rd_T43 ((rd_T41 l0 x12_1).f2) x19_2).f2))) (fun _ h_ => h_.1)))); (case side2 => exact (Kd.R_reads' HO_4.out).2.1); rintro e w' ⟨rfl, ⟨nd, rfl⟩⟩; refine ⟨_, rfl, ?_⟩))
                   go_roundg k2
                   case measure => have := HK1.out; have := HK2.out; omega
                   case rel => exact ⟨(x4_2), (wrap64 (x5_2 + 1)), (wrap64 (x19_2 + 1)), (by first | rfl | (simp; done) | (simp [*]; done)), (by first | rfl | (simp; done) | (simp [*]; done)), H', ⟨by have := HK1.out; have := HK2.out; omega⟩, ⟨by (with_reducible repeat (first | apply Kd.R_alloc | apply Kd.R_drewN | apply Kd.R_drew)); exact Kd.R_mono (Kd.R_far (p := ⟨gb204, 2, none⟩) (Kd.R_far (p := ⟨gb204, 1, none⟩) (Kd.R_far (p := ⟨gb204, 0, none⟩) (Kd.R_types HO_4.out BK204.out (by decide)) (fun _ hk => hk.2) (.string ((rd_T43 ((rd_T41 l0 x12_1).f2) x19_2).f0))) (fun _ hk => hk.2) (.int .i64 ((rd_T43 ((rd_T41 l0 x12_1).f2) x19_2).f1))) (fun _ hk => hk.2) (.bool ((rd_T43 ((rd_T41 l0 x12_1).f2) x19_2).f2))) (fun _ hk => trivial)⟩, ⟨by (with_reducible repeat (first | refine blk_drewN ?_ _ | refine blk_drew ?_ | refine blk_alloc ?_ _)); refine blk_far ?_ NB202_204.out _; (with_reducible repeat (first | refine blk_drewN ?_ _ | refine blk_drew ?_ | refine blk_alloc ?_ _)); refine blk_far ?_ NB202_204.out _; (with_reducible repeat (first | refine blk_drewN ?_ _ | refine blk_drew ?_ | refine blk_alloc ?_ _)); refine blk_far ?_ NB202_204.out _; (with_reducible repeat (first | refine blk_drewN ?_ _ | refine blk_drew ?_ | refine blk_alloc ?_ _)); exact BK202.out⟩, ⟨by repeat (first | (with_reducible first | exact HB.out | apply below_alloc | apply pw_below_drewN | apply below_drew1 | refine below_set ?_ GE202.out | refine below_set ?_ GE204.out) | exact HB.out)⟩⟩
                 · replace c11 := Bool.eq_false_iff.mpr c11
                   subst c11
                   have H1 : (if x4_2.length < 8796093022208 then (tmpl_names.l1 k2 (x4_2 ++ [(rd_T43 ((rd_T41 l0 x12_1).f2) x19_2).f0]) (wrap64 (x5_2 + 1)) l0 (l0.length : Int) x12_1 ((rd_T41 l0 x12_1).f2) (((rd_T41 l0 x12_1).f2).length : Int) (wrap64 (x19_2 + 1))) else (none)) = some (r1, r2) := by rw [if_neg (show ¬ (false = true) by decide)] at H; exact H
                   clear H
                   have H := H1
                   clear H1
                   by_cases c16 : x4_2.length < 8796093022208
                   · rw [if_pos c16] at H
                     have LMc16 := Aside0.mk c16
                     clear c16
                     obtain ⟨y206, hy206⟩ : ∃ y_ : List ByteArray, y_ = (x4_2 ++ [(rd_T43 ((rd_T41 l0 x12_1).f2) x19_2).f0]) := ⟨_, rfl⟩
                     replace H : (tmpl_names.l1 k2 y206 (wrap64 (x5_2 + 1)) l0 (l0.length : Int) x12_1 ((rd_T41 l0 x12_1).f2) (((rd_T41 l0 x12_1).f2).length : Int) (wrap64 (x19_2 + 1))) = some (r1, r2) := by first | (rw [hy206]; with_reducible exact H) | (have H2_ := (Option.bind_some _ _).symm.trans H; rw [hy206]; with_reducible exact H2_) | (have H2_ := (Option.bind_some _ _).symm.trans H; with_reducible exact H2_) | with_reducible exact H | (rw [hy206]; exact H) | exact H
                     have Ny206 := Aside0.mk hy206
                     clear hy206
                     have H' := Aside0.mk H
                     clear H
                     have p203 : 0 ≤ (x19_2 : Int) := of_decide_eq_true (by first | (with_reducible assumption) | assumption)
                     have q203 : x19_2 < (((rd_T41 l0 x12_1).f2).length : Int) := of_decide_eq_true (by first | (with_reducible assumption) | assumption)
                     obtain ⟨ad203, e203, hx203_0, hx203_1, hx203_2⟩ := at_T43 HR201_2.out x19_2 p203 q203
                     cases e203
                     replace hx203_0 := (HB.out.cell (World.block_lt_of_cell? w _ hx203_0)).trans hx203_0
                     replace hx203_1 := (HB.out.cell (World.block_lt_of_cell? w _ hx203_1)).trans hx203_1
                     replace hx203_2 := (HB.out.cell (World.block_lt_of_cell? w _ hx203_2)).trans hx203_2
                     replace p203 := eq_true p203
                     replace q203 := eq_true q203
                     go_wp2_with (first | ((with_reducible refine gate_dst (N := 9) rfl ?_); refine box_event ?hg (N := 9) ?hd (cs := #[.string (⟨#[]⟩ : ByteArray), .int .i64 0, .bool false]) (t := 43) ?hr ?_; (case hd => rfl); (case hg => rfl); (case hr => first | (go_simp; done) | (go_simp; rfl)); intro gb204 hg w17 hbox hb; have n0_ := Aside0.mk (Kd.R_below (by (with_reducible repeat (first | apply Kd.R_alloc | apply Kd.R_drewN | apply Kd.R_drew)); exact HO_4.out) hb); have n1_ := Aside0.mk (blk_below (g := gb202) (o := .cells #[.string ((rd_T41 l0 x12_1).f0), .int .u8 ((rd_T41 l0 x12_1).f1), .slice (some ad203) ((rd_T41 l0 x12_1).f2).length c201_2] 41 (0, 0)) (by (with_reducible repeat (first | refine blk_drewN ?_ _ | refine blk_drew ?_ | refine blk_alloc ?_ _)); exact BK202.out) hb); have n2_ := Aside0.mk (below_step (by repeat (first | (with_reducible first | exact HB.out | apply below_alloc | apply pw_below_drewN | apply below_drew1 | refine below_set ?_ GE202.out) | exact HB.out)) hb); have n3_ := Aside0.mk (hbox); have n4_ := Aside0.mk ((by rw [hg]; exact (below_size (by repeat (first | (with_reducible first | exact HB.out | apply below_alloc | apply pw_below_drewN | apply below_drew1 | refine below_set ?_ GE202.out) | exact HB.out))) : w.heap.size ≤ gb204)); have n5_ := Aside0.mk ((by rw [hg]; exact (below_size (by repeat (first | (with_reducible first | exact HB.out | apply below_alloc | apply pw_below_drewN | apply below_drew1 | refine below_set ?_ GE202.out) | exact HB.out))) : w.heap.size ≤ gb204)); have n6_ := Aside0.mk ((by rw [hg]; exact Nat.ne_of_lt (blk_lt (g := gb202) (o := .cells #[.string ((rd_T41 l0 x12_1).f0), .int .u8 ((rd_T41 l0 x12_1).f1), .slice (some ad203) ((rd_T41 l0 x12_1).f2).length c201_2] 41 (0, 0)) (by (with_reducible repeat (first | refine blk_drewN ?_ _ | refine blk_drew ?_ | refine blk_alloc ?_ _)); exact BK202.out)) : gb202 ≠ gb204)); have n7_ := Aside0.mk ((by rw [hg]; exact Nat.ne_of_gt (blk_lt (g := gb202) (o := .cells #[.string ((rd_T41 l0 x12_1).f0), .int .u8 ((rd_T41 l0 x12_1).f1), .slice (some ad203) ((rd_T41 l0 x12_1).f2).length c201_2] 41 (0, 0)) (by (with_reducible repeat (first | refine blk_drewN ?_ _ | refine blk_drew ?_ | refine blk_alloc ?_ _)); exact BK202.out)) : gb204 ≠ gb202)); clear HO_4; clear BK202; clear HB; have HO_4 := n0_; have BK202 := n1_; have HB := n2_; have BK204 := n3_; have GW204 := n4_; have GE204 := n5_; have NB202_204 := n6_; have NB204_202 := n7_; clear n0_ n1_ n2_ n3_ n4_ n5_ n6_ n7_; clear hb hbox hg; have hnb18 := NB204_202.out; have hnc18 := NB202_204.out; have hcz19_0 : w17.cell? ⟨gb204, 0, none⟩ = some (.string (⟨#[]⟩ : ByteArray)) := (blk_cell BK204.out 0).trans rfl; have hcz19_1 : w17.cell? ⟨gb204, 1, none⟩ = some (.int .i64 0) := (blk_cell BK204.out 1).trans rfl; have hcz19_2 : w17.cell? ⟨gb204, 2, none⟩ = some (.bool false) := (blk_cell BK204.out 2).trans rfl; have hfz19_0 := blk_frozen BK204.out 0; have hfz19_1 := blk_frozen BK204.out 1; have hfz19_2 := blk_frozen BK204.out 2; obtain ⟨Ao20, co20, eo20⟩ := Kd.R_slice HO_4.out; subst eo20) | ((with_reducible refine gate_callee (f := 41) rfl ?_); refine goesL_ (some 28) rfl rfl Tryd.func41 (by kernel_rfl) rfl #[.slice Ao20 x4_2.length co20, .string ((rd_T43 ((rd_T41 l0 x12_1).f2) x19_2).f0)] rfl (by (try simp only [List.map_toArray, List.map_cons, List.map_nil]); first | done | rfl | (simp only [List.length_drop, List.length_take]; rfl)) ?_; (with_reducible refine (slices_Contains_string_string.calls k2 _ _ x4_2 ((rd_T43 ((rd_T41 l0 x12_1).f2) x19_2).f0) false _ ?side1 ?side2 A10.out).mono ?_); (case side1 => refine (Kd.R_reads' (e := 9) (base := w.heap.size) (ok := fun k_ => True) (n := x4_2.length) (c := co20) ?_).2.2; exact (by (with_reducible repeat (first | apply Kd.R_alloc | apply Kd.R_drewN | apply Kd.R_drew)); exact (Kd.R_mono (Kd.R_far (p := ⟨gb204, 2, none⟩) (Kd.R_far (p := ⟨gb204, 1, none⟩) (Kd.R_far (p := ⟨gb204, 0, none⟩) (Kd.R_types HO_4.out BK204.out (by decide)) (fun _ hk => hk.2) (.string ((rd_T43 ((rd_T41 l0 x12_1).f2) x19_2).f0))) (fun _ hk => hk.2) (.int .i64 ((rd_T43 ((rd_T41 l0 x12_1).f2) x19_2).f1))) (fun _ hk => hk.2) (.bool ((rd_T43 ((rd_T41 l0 x12_1).f2) x19_2).f2))) (fun _ h_ => h_.1)))); (case side2 => exact (Kd.R_reads' HO_4.out).2.1); rintro e w' ⟨rfl, ⟨nd, rfl⟩⟩; refine ⟨_, rfl, ?_⟩) | ((with_reducible refine gate_builtin (b := .append) (xs := #[.tmp 30, .tmp 33]) rfl ?_); at_builtin; refine Kd.R_append Kd.string (w0 := w) w.heap.size rfl (.tmp 30) (.tmp 33) 33 9 (.string ⟨#[]⟩) 16 rfl Tryd.underlying33 info9 rfl (by decide) (by omega) (.slice Ao20 x4_2.length co20) x4_2 ((rd_T43 ((rd_T41 l0 x12_1).f2) x19_2).f0) [.string ((rd_T43 ((rd_T41 l0 x12_1).f2) x19_2).f0)] (fun _ => True) (fun _ => False) rfl (by first | (go_simp; done) | (go_simp; rfl)) ?aP (fun _ hk => hk.elim) ?aF ?aO ?aB ?aS ?aL ?_; (case aP => exact rfl); (case aB => exact (by repeat (first | (with_reducible first | exact HB.out | apply below_alloc | apply pw_below_drewN | apply below_drew1 | refine below_set ?_ GE202.out | refine below_set ?_ GE204.out) | exact HB.out))); (case aF => exact (fun _ _ => trivial)); (case aO => exact (by (with_reducible repeat (first | apply Kd.R_alloc | apply Kd.R_drewN | apply Kd.R_drew)); exact Kd.R_mono (Kd.R_far (p := ⟨gb204, 2, none⟩) (Kd.R_far (p := ⟨gb204, 1, none⟩) (Kd.R_far (p := ⟨gb204, 0, none⟩) (Kd.R_types HO_4.out BK204.out (by decide)) (fun _ hk => hk.2) (.string ((rd_T43 ((rd_T41 l0 x12_1).f2) x19_2).f0))) (fun _ hk => hk.2) (.int .i64 ((rd_T43 ((rd_T41 l0 x12_1).f2) x19_2).f1))) (fun _ hk => hk.2) (.bool ((rd_T43 ((rd_T41 l0 x12_1).f2) x19_2).f2))) (fun _ hk => trivial))); (case aS => exact (below_size (by repeat (first | (with_reducible first | exact HB.out | apply below_alloc | apply pw_below_drewN | apply below_drew1 | refine below_set ?_ GE202.out | refine below_set ?_ GE204.out) | exact HB.out)))); (case aL => have := LMc16.out; omega); intro v207 w21 ho hb hg hat; rw [← Ny206.out] at ho; have n0_ := Aside0.mk (blk_grown (g := gb202) (o := .cells #[.string ((rd_T41 l0 x12_1).f0), .int .u8 ((rd_T41 l0 x12_1).f1), .slice (some ad203) ((rd_T41 l0 x12_1).f2).length c201_2] 41 (0, 0)) (by (with_reducible repeat (first | refine blk_drewN ?_ _ | refine blk_drew ?_ | refine blk_alloc ?_ _)); refine blk_far ?_ NB202_204.out _; (with_reducible repeat (first | refine blk_drewN ?_ _ | refine blk_drew ?_ | refine blk_alloc ?_ _)); refine blk_far ?_ NB202_204.out _; (with_reducible repeat (first | refine blk_drewN ?_ _ | refine blk_drew ?_ | refine blk_alloc ?_ _)); refine blk_far ?_ NB202_204.out _; (with_reducible repeat (first | refine blk_drewN ?_ _ | refine blk_drew ?_ | refine blk_alloc ?_ _)); exact BK202.out) hg (Kd.R_ne HO_4.out BK202.out (by decide))); have n1_ := Aside0.mk (blk_grown (g := gb204) (o := .cells #[.string ((rd_T43 ((rd_T41 l0 x12_1).f2) x19_2).f0), .int .i64 ((rd_T43 ((rd_T41 l0 x12_1).f2) x19_2).f1), .bool ((rd_T43 ((rd_T41 l0 x12_1).f2) x19_2).f2)] 43 (0, 0)) (by (with_reducible repeat (first | refine blk_drewN ?_ _ | refine blk_drew ?_ | refine blk_alloc ?_ _)); refine blk_put (cs := #[.string ((rd_T43 ((rd_T41 l0 x12_1).f2) x19_2).f0), .int .i64 ((rd_T43 ((rd_T41 l0 x12_1).f2) x19_2).f1), .bool false]) ?_ 2 _ rfl; (with_reducible repeat (first | refine blk_drewN ?_ _ | refine blk_drew ?_ | refine blk_alloc ?_ _)); refine blk_put (cs := #[.string ((rd_T43 ((rd_T41 l0 x12_1).f2) x19_2).f0), .int .i64 0, .bool false]) ?_ 1 _ rfl; (with_reducible repeat (first | refine blk_drewN ?_ _ | refine blk_drew ?_ | refine blk_alloc ?_ _)); refine blk_put (cs := #[.string (⟨#[]⟩ : ByteArray), .int .i64 0, .bool false]) ?_ 0 _ rfl; (with_reducible repeat (first | refine blk_drewN ?_ _ | refine blk_drew ?_ | refine blk_alloc ?_ _)); exact BK204.out) hg (Kd.R_ne HO_4.out BK204.out (by decide))); have n2_ := Aside0.mk (hb); have n3_ := Aside0.mk (ho); clear BK202; clear BK204; clear HB; clear HO_4; have BK202 := n0_; have BK204 := n1_; have HB := n2_; have HO208 := n3_; clear n0_ n1_ n2_ n3_; clear ho hb hg hat))
                     go_roundg k2
                     case measure => have := HK1.out; have := HK2.out; omega
                     case rel => exact ⟨(y206), (wrap64 (x5_2 + 1)), (wrap64 (x19_2 + 1)), (by first | rfl | (simp; done) | (simp [*]; done)), (by first | rfl | (simp; done) | (simp [*]; done)), H', ⟨by have := HK1.out; have := HK2.out; omega⟩, ⟨by (with_reducible repeat (first | apply Kd.R_alloc | apply Kd.R_drewN | apply Kd.R_drew)); exact HO208.out⟩, ⟨by (with_reducible repeat (first | refine blk_drewN ?_ _ | refine blk_drew ?_ | refine blk_alloc ?_ _)); exact BK202.out⟩, ⟨by repeat (first | (with_reducible first | exact HB.out | apply below_alloc | apply pw_below_drewN | apply below_drew1 | refine below_set ?_ GE202.out | refine below_set ?_ GE204.out) | exact HB.out)⟩⟩
                   · rw [if_neg c16] at H
                     exact absurd H (by simp)
               · rw [if_neg c9] at H
                 exact absurd H (by simp)
             · rw [if_neg c8] at H
               exact absurd H (by simp)
           · rw [if_neg c7] at H
             have c7b0 : decide (x19_2 < (((rd_T41 l0 x12_1).f2).length : Int)) = false := decide_eq_false c7
             clear c7
             have H' := Aside0.mk H
             clear H
             go_wp2
             go_roundg k2
             case measure => have := HK1.out; have := HK2.out; omega
             case rel => exact ⟨(x4_2), (x5_2), (wrap64 (x12_1 + 1)), (by first | rfl | (simp; done) | (simp [*]; done)), (by first | rfl | (simp; done) | (simp [*]; done)), H', ⟨by have := HK1.out; have := HK2.out; omega⟩, ⟨by (with_reducible repeat (first | apply Kd.R_alloc | apply Kd.R_drewN | apply Kd.R_drew)); exact HO_4.out⟩, ⟨by repeat (first | (with_reducible first | exact HB.out | apply below_alloc | apply pw_below_drewN | apply below_drew1 | refine below_set ?_ GE202.out) | exact HB.out)⟩⟩
       · rw [if_neg c4] at H
         exact absurd H (by simp)
     · rw [if_neg c3] at H
       exact absurd H (by simp)
   · rw [if_neg c2] at H
     have c2b0 : decide (x12_1 < (l0.length : Int)) = false := decide_eq_false c2
     clear c2
     simp only [Option.some.injEq, Prod.mk.injEq] at H
     obtain ⟨rfl, rfl⟩ := H
     go_wp2
     go_ret2
     exact ⟨_, by first | rfl | (simp [errW_none, errW_some] <;> rfl) | (simp [*, errW_none, errW_some] <;> rfl), by (with_reducible repeat (first | apply Kd.R_alloc | apply Kd.R_drewN | apply Kd.R_drew)); exact HO_4.out, by repeat (first | (with_reducible first | exact HB.out | apply below_alloc | apply pw_below_drewN | apply below_drew1) | exact HB.out)⟩
def tmpl_Once.f (k : Nat) (l0 : List (S41)) : Option (Bool) := (tmpl_names.f k l0).bind fun bt223 => (some ((bt223.1.length : Int) == bt223.2))
set_option maxHeartbeats 8000000 in
set_option maxRecDepth 100000 in
theorem tmpl_Once.calls (k : Nat) (A0 : Option Addr) (c0 : Nat) (l0 : List (S41)) (r : Bool) (w : World) (hr0 : Kd.C k41 w A0 l0.length l0) (hc0 : l0.length ≤ c0) (h : tmpl_Once.f k l0 = some r) :
 Calls Tryd.prog 15 #[.slice A0 l0.length c0] w fun e w' => e = .returned (.bool r) ∧ Below w.heap.size w w' := by
 have HR0 := Aside0.mk hr0
 have HC0 := Aside0.mk hc0
 clear hr0 hc0
 have HB := Aside0.mk (Below.refl w.heap.size w)
 have H : ((tmpl_names.f k l0).bind fun bt223 => (some ((bt223.1.length : Int) == bt223.2))) = some r := h
 clear h
 replace H := Option.bind_eq_some_iff.mp H
 obtain ⟨⟨t223, t224⟩, A20, H⟩ := H
 replace H : (some ((t223.length : Int) == t224)) = some r := H
 have A2 := Aside0.mk A20
 clear A20
 obtain rfl := Option.some.inj H
 go_enter Tryd.func15, Tryd.ntmps15
 go_wp2_with (first | ((with_reducible refine gate_callee (f := 26) rfl ?_); refine goesL_ (some 7) rfl rfl Tryd.func26 (by kernel_rfl) rfl #[.slice A0 l0.length c0] rfl (by (try simp only [List.map_toArray, List.map_cons, List.map_nil]); first | done | rfl | (simp only [List.length_drop, List.length_take]; rfl)) ?_; (with_reducible refine (tmpl_names.calls k _ _ l0 t223 t224 _ ?side1 ?side2 A2.out).mono ?_); (case side1 => repeat (first | exact HR0.out | (with_reducible refine Kd.C_alloc ?_ _) | (with_reducible refine Kd.C_drewN ?_ _) | (with_reducible refine Kd.C_drew ?_))); (case side2 => exact HC0.out); rintro e w3 ⟨v225, rfl, ho0, hb⟩; refine ⟨_, rfl, ?_⟩; have n0_ := Aside0.mk (Kd.R_lower ho0 (below_size (by repeat (first | (with_reducible first | exact HB.out | apply below_alloc | apply pw_below_drewN | apply below_drew1) | exact HB.out)))); have n1_ := Aside0.mk (below_step (by repeat (first | (with_reducible first | exact HB.out | apply below_alloc | apply pw_below_drewN | apply below_drew1) | exact HB.out)) hb); clear HB; have HO226 := n0_; have HB := n1_; clear n0_ n1_; (try clear hb); (try clear hb2); (try clear hk); (try clear hi); (try clear ho0); obtain ⟨Ao4, co4, eo4⟩ := Kd.R_slice HO226.out; subst eo4))
 go_ret
 exact ⟨by first | rfl | (simp [errW_none, errW_some] <;> rfl) | (simp [*, errW_none, errW_some] <;> rfl), by repeat (first | (with_reducible first | exact HB.out | apply below_alloc | apply pw_below_drewN | apply below_drew1) | exact HB.out)⟩
def tmpl_Names.f (k : Nat) (l0 : List (S41)) : Option (List ByteArray) := (tmpl_names.f k l0).bind fun bt209 => (some bt209.1)
set_option maxHeartbeats 8000000 in
set_option maxRecDepth 100000 in
theorem tmpl_Names.calls (k : Nat) (A0 : Option Addr) (c0 : Nat) (l0 : List (S41)) (r : List ByteArray) (w : World) (hr0 : Kd.C k41 w A0 l0.length l0) (hc0 : l0.length ≤ c0) (h : tmpl_Names.f k l0 = some r) :
 Calls Tryd.prog 13 #[.slice A0 l0.length c0] w fun e w' => ∃ v0_ : Value, e = .returned (v0_) ∧ Kd.R Kd.string 9 w' w.heap.size (fun _ => True) v0_ r ∧ Below w.heap.size w w' := by
 have HR0 := Aside0.mk hr0
 have HC0 := Aside0.mk hc0
 clear hr0 hc0
 have HB := Aside0.mk (Below.refl w.heap.size w)
 have H : ((tmpl_names.f k l0).bind fun bt209 => (some bt209.1)) = some r := h
 clear h
 replace H := Option.bind_eq_some_iff.mp H
 obtain ⟨⟨t209, t210⟩, A20, H⟩ := H
 replace H : (some t209) = some r := H
 have A2 := Aside0.mk A20
 clear A20
 obtain rfl := Option.some.inj H
 go_enter Tryd.func13, Tryd.ntmps13
 go_wp2_with (first | ((with_reducible refine gate_callee (f := 26) rfl ?_); refine goesL_ (some 7) rfl rfl Tryd.func26 (by kernel_rfl) rfl #[.slice A0 l0.length c0] rfl (by (try simp only [List.map_toArray, List.map_cons, List.map_nil]); first | done | rfl | (simp only [List.length_drop, List.length_take]; rfl)) ?_; (with_reducible refine (tmpl_names.calls k _ _ l0 t209 t210 _ ?side1 ?side2 A2.out).mono ?_); (case side1 => repeat (first | exact HR0.out | (with_reducible refine Kd.C_alloc ?_ _) | (with_reducible refine Kd.C_drewN ?_ _) | (with_reducible refine Kd.C_drew ?_))); (case side2 => exact HC0.out); rintro e w3 ⟨v211, rfl, ho0, hb⟩; refine ⟨_, rfl, ?_⟩; have n0_ := Aside0.mk (Kd.R_lower ho0 (below_size (by repeat (first | (with_reducible first | exact HB.out | apply below_alloc | apply pw_below_drewN | apply below_drew1) | exact HB.out)))); have n1_ := Aside0.mk (below_step (by repeat (first | (with_reducible first | exact HB.out | apply below_alloc | apply pw_below_drewN | apply below_drew1) | exact HB.out)) hb); clear HB; have HO212 := n0_; have HB := n1_; clear n0_ n1_; (try clear hb); (try clear hb2); (try clear hk); (try clear hi); (try clear ho0)))
 go_ret
 exact ⟨_, by first | rfl | (simp [errW_none, errW_some] <;> rfl) | (simp [*, errW_none, errW_some] <;> rfl), by (with_reducible repeat (first | apply Kd.R_alloc | apply Kd.R_drewN | apply Kd.R_drew)); exact HO212.out, by repeat (first | (with_reducible first | exact HB.out | apply below_alloc | apply pw_below_drewN | apply below_drew1) | exact HB.out)⟩
def rf07_Has.l0 : Nat → List ByteArray → ByteArray → Int → Option (Bool)
 | 0, _, _, _ => none
 | k + 1, x0, x1, x5 => if x5 < (x0.length : Int) then (if 0 ≤ x5 then (if (rdOf ByteArray.empty x0 x5).toList = x1.toList then (some true) else (rf07_Has.l0 k x0 x1 (wrap64 (x5 + 1)))) else (none)) else (some false)
def rf07_Has.f (k : Nat) (l0 : List ByteArray) (a1 : ByteArray) : Option (Bool) := rf07_Has.l0 k l0 a1 0
set_option maxHeartbeats 8000000 in
set_option maxRecDepth 100000 in
theorem rf07_Has.calls (k : Nat) (A0 : Option Addr) (c0 : Nat) (l0 : List ByteArray) (a1 : ByteArray) (r : Bool) (w : World) (hr0 : Kd.C Kd.string w A0 l0.length l0) (hc0 : l0.length ≤ c0) (h : rf07_Has.f k l0 a1 = some r) :
 Calls Tryd.prog 27 #[.slice A0 l0.length c0, .string a1] w fun e w' => e = .returned (.bool r) ∧ Drawn0 w w' := by
 have HR0 := Aside0.mk hr0
 have HC0 := Aside0.mk hc0
 clear hr0 hc0
 have H : (rf07_Has.l0 k l0 a1 0) = some r := h
 clear h
 have H' := Aside0.mk H
 clear H
 go_enter Tryd.func27, Tryd.ntmps27
 go_wp2
 go_loopg [5] k (fun kq v5 w' => ∃ (x5_1 : Int), v5 = .int .i64 x5_1 ∧ Aside0 (rf07_Has.l0 kq l0 a1 x5_1 = some r) ∧ Aside0 (kq ≤ k) ∧ Drawn0 w w')
 case atStart => exact ⟨(0), (by first | rfl | (simp; done) | (simp [*]; done)), H', ⟨Nat.le_refl _⟩, by repeat (first | exact Drawn0.refl _ | apply Drawn0.step)⟩
 case round =>
  clear H'
  try clear c2
  try clear p2
  obtain ⟨x5_1, rfl, HA, HK1, ⟨m1, rfl⟩⟩ := hrel
  cases gk with
  | zero => exact absurd HA.out (by simp [rf07_Has.l0])
  | succ k1 =>
   have H := HA.out
   clear HA
   simp only [rf07_Has.l0] at H
   by_cases c3 : x5_1 < (l0.length : Int)
   · rw [if_pos c3] at H
     have c3b0 : decide (x5_1 < (l0.length : Int)) = true := decide_eq_true c3
     clear c3
     by_cases c4 : 0 ≤ x5_1
     · rw [if_pos c4] at H
       have c4b0 : decide (0 ≤ x5_1) = true := decide_eq_true c4
       clear c4
       by_cases c5 : (rdOf ByteArray.empty l0 x5_1).toList = a1.toList
       · rw [if_pos c5] at H
         have c5b0 : ((rdOf ByteArray.empty l0 x5_1).toList == a1.toList) = true := beq_iff_eq.mpr c5
         have c5b1 : ((rdOf ByteArray.empty l0 x5_1).toList != a1.toList) = false := bne_eq_false_iff_eq.mpr c5
         clear c5
         obtain rfl := Option.some.inj H
         have p213 : 0 ≤ (x5_1 : Int) := of_decide_eq_true (by first | (with_reducible assumption) | assumption)
         have q213 : x5_1 < (l0.length : Int) := of_decide_eq_true (by first | (with_reducible assumption) | assumption)
         obtain ⟨ad213, e213, hx213_0⟩ := Kd.at_string HR0.out x5_1 p213 q213
         cases e213
         replace p213 := eq_true p213
         replace q213 := eq_true q213
         go_wp2
         go_ret
         exact ⟨by first | rfl | (simp; done) | (simp [*]; done), by repeat (first | exact Drawn0.refl _ | apply Drawn0.step)⟩
       · rw [if_neg c5] at H
         have c5b0 : ((rdOf ByteArray.empty l0 x5_1).toList == a1.toList) = false := beq_eq_false_iff_ne.mpr c5
         have c5b1 : ((rdOf ByteArray.empty l0 x5_1).toList != a1.toList) = true := bne_iff_ne.mpr c5
         have H' := Aside0.mk H
         clear H
         have p213 : 0 ≤ (x5_1 : Int) := of_decide_eq_true (by first | (with_reducible assumption) | assumption)
         have q213 : x5_1 < (l0.length : Int) := of_decide_eq_true (by first | (with_reducible assumption) | assumption)
         obtain ⟨ad213, e213, hx213_0⟩ := Kd.at_string HR0.out x5_1 p213 q213
         cases e213
         replace p213 := eq_true p213
         replace q213 := eq_true q213
         go_wp2
         go_roundg k1
         case measure => have := HK1.out; omega
         case rel => exact ⟨(wrap64 (x5_1 + 1)), (by first | rfl | (simp; done) | (simp [*]; done)), H', ⟨by have := HK1.out; omega⟩, by repeat (first | exact Drawn0.refl _ | apply Drawn0.step)⟩
     · rw [if_neg c4] at H
       exact absurd H (by simp)
   · rw [if_neg c3] at H
     have c3b0 : decide (x5_1 < (l0.length : Int)) = false := decide_eq_false c3
     clear c3
     obtain rfl := Option.some.inj H
     go_wp2
     go_ret
     exact ⟨by first | rfl | (simp; done) | (simp [*]; done), by repeat (first | exact Drawn0.refl _ | apply Drawn0.step)⟩
mutual
def rf07_Names.l0 : Nat → List (S41) → List ByteArray → Int → Option (List ByteArray)
 | 0, _, _, _ => none
 | k + 1, x0, x3, x4 => if x4 < (x0.length : Int) then (rf07_Names.l1 k x0 x3 x4 0) else (some x3)
def rf07_Names.l1 : Nat → List (S41) → List ByteArray → Int → Int → Option (List ByteArray)
 | 0, _, _, _, _ => none
 | k + 1, x0, x3, x4, x5 => if 0 ≤ x4 then (if x4 < (x0.length : Int) then (if x5 < (((rd_T41 x0 x4).f2).length : Int) then (if 0 ≤ x5 then ((rf07_Has.f k x3 ((rd_T43 ((rd_T41 x0 x4).f2) x5).f0)).bind fun t217 => (if t217 = true then (rf07_Names.l1 k x0 x3 x4 (wrap64 (x5 + 1))) else (if x3.length < 8796093022208 then (rf07_Names.l1 k x0 (x3 ++ [(rd_T43 ((rd_T41 x0 x4).f2) x5).f0]) x4 (wrap64 (x5 + 1))) else (none)))) else (none)) else (rf07_Names.l0 k x0 x3 (wrap64 (x4 + 1)))) else (none)) else (none)
end
def rf07_Names.f (k : Nat) (l0 : List (S41)) : Option (List ByteArray) := rf07_Names.l0 k l0 ([] : List ByteArray) 0
set_option maxHeartbeats 8000000 in
set_option maxRecDepth 100000 in
theorem rf07_Names.calls (k : Nat) (A0 : Option Addr) (c0 : Nat) (l0 : List (S41)) (r : List ByteArray) (w : World) (hr0 : Kd.C k41 w A0 l0.length l0) (hc0 : l0.length ≤ c0) (h : rf07_Names.f k l0 = some r) :
 Calls Tryd.prog 14 #[.slice A0 l0.length c0] w fun e w' => ∃ v0_ : Value, e = .returned (v0_) ∧ Kd.R Kd.string 9 w' w.heap.size (fun _ => True) v0_ r ∧ Below w.heap.size w w' := by
 have HR0 := Aside0.mk hr0
 have HC0 := Aside0.mk hc0
 clear hr0 hc0
 have HB := Aside0.mk (Below.refl w.heap.size w)
 have H : (rf07_Names.l0 k l0 ([] : List ByteArray) 0) = some r := h
 clear h
 have H' := Aside0.mk H
 clear H
 go_enter Tryd.func14, Tryd.ntmps14
 go_wp2
 go_loopg [3, 4] k (fun kq v3 v4 w' => ∃ (x3_1 : List ByteArray) (x4_1 : Int), v4 = .int .i64 x4_1 ∧ Aside0 (rf07_Names.l0 kq l0 x3_1 x4_1 = some r) ∧ Aside0 (kq ≤ k) ∧ Aside0 (Kd.R Kd.string 9 w' w.heap.size (fun _ => True) v3 x3_1) ∧ Aside0 (Below w.heap.size w w'))
 case atStart => exact ⟨(([] : List ByteArray)), (0), (by first | rfl | (simp; done) | (simp [*]; done)), H', ⟨Nat.le_refl _⟩, ⟨by first | exact Kd.R_nil _ _ _ _ _ | exact Kd.N_nil _ _ _ _ _ | exact Kd.V_nil _ _ _ _ _ | exact Kd.Q_nil _ _ _ _ _ | exact Kd.S_nil _ _ _ _ _⟩, ⟨by repeat (first | (with_reducible first | exact HB.out | apply below_alloc | apply pw_below_drewN | apply below_drew1) | exact HB.out)⟩⟩
 case round =>
  clear H'
  try clear c1
  obtain ⟨x3_1, x4_1, rfl, HA, HK1, HO_3, HB⟩ := hrel
  cases gk with
  | zero => exact absurd HA.out (by simp [rf07_Names.l0])
  | succ k1 =>
   have H := HA.out
   clear HA
   simp only [rf07_Names.l0] at H
   by_cases c2 : x4_1 < (l0.length : Int)
   · rw [if_pos c2] at H
     have c2b0 : decide (x4_1 < (l0.length : Int)) = true := decide_eq_true c2
     clear c2
     have H' := Aside0.mk H
     clear H
     go_wp2
     go_loopg [3, 5] k1 (fun kq v3 v5 w' => ∃ (x3_2 : List ByteArray) (x5_2 : Int), v5 = .int .i64 x5_2 ∧ Aside0 (rf07_Names.l1 kq l0 x3_2 x4_1 x5_2 = some r) ∧ Aside0 (kq ≤ k1) ∧ Aside0 (Kd.R Kd.string 9 w' w.heap.size (fun _ => True) v3 x3_2) ∧ Aside0 (Below w.heap.size w w'))
     case atStart => exact ⟨(x3_1), (0), (by first | rfl | (simp; done) | (simp [*]; done)), H', ⟨Nat.le_refl _⟩, ⟨by (with_reducible repeat (first | apply Kd.R_alloc | apply Kd.R_drewN | apply Kd.R_drew)); exact HO_3.out⟩, ⟨by repeat (first | (with_reducible first | exact HB.out | apply below_alloc | apply pw_below_drewN | apply below_drew1) | exact HB.out)⟩⟩
     case round =>
      clear H'
      try clear c1
      try clear c2
      try clear c2b0
      try clear p2
      obtain ⟨x3_2, x5_2, rfl, HA, HK2, HO_3, HB⟩ := hrel
      cases gk with
      | zero => exact absurd HA.out (by simp [rf07_Names.l1])
      | succ k2 =>
       have H := HA.out
       clear HA
       simp only [rf07_Names.l1] at H
       by_cases c3 : 0 ≤ x4_1
       · rw [if_pos c3] at H
         have c3b0 : decide (0 ≤ x4_1) = true := decide_eq_true c3
         clear c3
         by_cases c4 : x4_1 < (l0.length : Int)
         · rw [if_pos c4] at H
           have c4b0 : decide (x4_1 < (l0.length : Int)) = true := decide_eq_true c4
           clear c4
           by_cases c5 : x5_2 < (((rd_T41 l0 x4_1).f2).length : Int)
           · rw [if_pos c5] at H
             have c5b0 : decide (x5_2 < (((rd_T41 l0 x4_1).f2).length : Int)) = true := decide_eq_true c5
             clear c5
             by_cases c6 : 0 ≤ x5_2
             · rw [if_pos c6] at H
               have c6b0 : decide (0 ≤ x5_2) = true := decide_eq_true c6
               clear c6
               replace H := Option.bind_eq_some_iff.mp H
               obtain ⟨t217, A70, H⟩ := H
               replace H : (if t217 = true then (rf07_Names.l1 k2 l0 x3_2 x4_1 (wrap64 (x5_2 + 1))) else (if x3_2.length < 8796093022208 then (rf07_Names.l1 k2 l0 (x3_2 ++ [(rd_T43 ((rd_T41 l0 x4_1).f2) x5_2).f0]) x4_1 (wrap64 (x5_2 + 1))) else (none))) = some r := H
               have A7 := Aside0.mk A70
               clear A70
               by_cases c8 : t217 = true
               · subst c8
                 have H1 : (rf07_Names.l1 k2 l0 x3_2 x4_1 (wrap64 (x5_2 + 1))) = some r := by rw [if_pos rfl] at H; exact H
                 clear H
                 have H := H1
                 clear H1
                 have H' := Aside0.mk H
                 clear H
                 have p214 : 0 ≤ (x4_1 : Int) := of_decide_eq_true (by first | (with_reducible assumption) | assumption)
                 have q214 : x4_1 < (l0.length : Int) := of_decide_eq_true (by first | (with_reducible assumption) | assumption)
                 obtain ⟨ad214, A214_2, c214_2, e214, hx214_0, hx214_1, hx214_2, hl214_2, hi214_2⟩ := at_T41 HR0.out x4_1 p214 q214
                 cases e214
                 replace hx214_0 := (HB.out.cell (World.block_lt_of_cell? w _ hx214_0)).trans hx214_0
                 replace hx214_1 := (HB.out.cell (World.block_lt_of_cell? w _ hx214_1)).trans hx214_1
                 replace hx214_2 := (HB.out.cell (World.block_lt_of_cell? w _ hx214_2)).trans hx214_2
                 have HR214_2 := Aside0.mk hi214_2
                 have HC214_2 := Aside0.mk hl214_2
                 clear hi214_2 hl214_2
                 replace p214 := eq_true p214
                 replace q214 := eq_true q214
                 have p215 : 0 ≤ (x4_1 : Int) := of_decide_eq_true (by first | (with_reducible assumption) | assumption)
                 have q215 : x4_1 < (l0.length : Int) := of_decide_eq_true (by first | (with_reducible assumption) | assumption)
                 obtain ⟨ad215, A215_2, c215_2, e215, hx215_0, hx215_1, hx215_2, hl215_2, hi215_2⟩ := at_T41 HR0.out x4_1 p215 q215
                 obtain rfl : ad214 = ad215 := (by injection e215)
                 replace hx215_0 := (HB.out.cell (World.block_lt_of_cell? w _ hx215_0)).trans hx215_0
                 replace hx215_1 := (HB.out.cell (World.block_lt_of_cell? w _ hx215_1)).trans hx215_1
                 replace hx215_2 := (HB.out.cell (World.block_lt_of_cell? w _ hx215_2)).trans hx215_2
                 have HR215_2 := Aside0.mk hi215_2
                 have HC215_2 := Aside0.mk hl215_2
                 clear hi215_2 hl215_2
                 replace p215 := eq_true p215
                 replace q215 := eq_true q215
                 have ea_ := Option.some.inj (hx214_2.symm.trans hx215_2)
                 injection ea_ with ea_ en_ ec_
                 subst ea_
                 subst ec_
                 clear en_
                 have p216 : 0 ≤ (x5_2 : Int) := of_decide_eq_true (by first | (with_reducible assumption) | assumption)
                 have q216 : x5_2 < (((rd_T41 l0 x4_1).f2).length : Int) := of_decide_eq_true (by first | (with_reducible assumption) | assumption)
                 obtain ⟨ad216, e216, hx216_0, hx216_1, hx216_2⟩ := at_T43 HR215_2.out x5_2 p216 q216
                 cases e216
                 replace hx216_0 := (HB.out.cell (World.block_lt_of_cell? w _ hx216_0)).trans hx216_0
                 replace hx216_1 := (HB.out.cell (World.block_lt_of_cell? w _ hx216_1)).trans hx216_1
                 replace hx216_2 := (HB.out.cell (World.block_lt_of_cell? w _ hx216_2)).trans hx216_2
                 replace p216 := eq_true p216
                 replace q216 := eq_true q216
                 obtain ⟨Ao9, co9, eo9⟩ := Kd.R_slice HO_3.out
                 subst eo9
                 go_wp2_with (first | ((with_reducible refine gate_callee (f := 27) rfl ?_); refine goesL_ (some 32) rfl rfl Tryd.func27 (by kernel_rfl) rfl #[.slice Ao9 x3_2.length co9, .string ((rd_T43 ((rd_T41 l0 x4_1).f2) x5_2).f0)] rfl (by (try simp only [List.map_toArray, List.map_cons, List.map_nil]); first | done | rfl | (simp only [List.length_drop, List.length_take]; rfl)) ?_; (with_reducible refine (rf07_Has.calls k2 _ _ x3_2 ((rd_T43 ((rd_T41 l0 x4_1).f2) x5_2).f0) true _ ?side1 ?side2 A7.out).mono ?_); (case side1 => repeat (first | exact (Kd.R_reads' HO_3.out).2.2 | (with_reducible refine Kd.C_alloc ?_ _) | (with_reducible refine Kd.C_drewN ?_ _) | (with_reducible refine Kd.C_drew ?_))); (case side2 => exact (Kd.R_reads' HO_3.out).2.1); rintro e w' ⟨rfl, ⟨nd, rfl⟩⟩; refine ⟨_, rfl, ?_⟩))
                 go_roundg k2
                 case measure => have := HK1.out; have := HK2.out; omega
                 case rel => exact ⟨(x3_2), (wrap64 (x5_2 + 1)), (by first | rfl | (simp; done) | (simp [*]; done)), H', ⟨by have := HK1.out; have := HK2.out; omega⟩, ⟨by (with_reducible repeat (first | apply Kd.R_alloc | apply Kd.R_drewN | apply Kd.R_drew)); exact HO_3.out⟩, ⟨by repeat (first | (with_reducible first | exact HB.out | apply below_alloc | apply pw_below_drewN | apply below_drew1) | exact HB.out)⟩⟩
               · replace c8 := Bool.eq_false_iff.mpr c8
                 subst c8
                 have H1 : (if x3_2.length < 8796093022208 then (rf07_Names.l1 k2 l0 (x3_2 ++ [(rd_T43 ((rd_T41 l0 x4_1).f2) x5_2).f0]) x4_1 (wrap64 (x5_2 + 1))) else (none)) = some r := by rw [if_neg (show ¬ (false = true) by decide)] at H; exact H
                 clear H
                 have H := H1
                 clear H1
                 by_cases c10 : x3_2.length < 8796093022208
                 · rw [if_pos c10] at H
                   have LMc10 := Aside0.mk c10
                   clear c10
                   obtain ⟨y220, hy220⟩ : ∃ y_ : List ByteArray, y_ = (x3_2 ++ [(rd_T43 ((rd_T41 l0 x4_1).f2) x5_2).f0]) := ⟨_, rfl⟩
                   replace H : (rf07_Names.l1 k2 l0 y220 x4_1 (wrap64 (x5_2 + 1))) = some r := by first | (rw [hy220]; with_reducible exact H) | (have H2_ := (Option.bind_some _ _).symm.trans H; rw [hy220]; with_reducible exact H2_) | (have H2_ := (Option.bind_some _ _).symm.trans H; with_reducible exact H2_) | with_reducible exact H | (rw [hy220]; exact H) | exact H
                   have Ny220 := Aside0.mk hy220
                   clear hy220
                   have H' := Aside0.mk H
                   clear H
                   have p214 : 0 ≤ (x4_1 : Int) := of_decide_eq_true (by first | (with_reducible assumption) | assumption)
                   have q214 : x4_1 < (l0.length : Int) := of_decide_eq_true (by first | (with_reducible assumption) | assumption)
                   obtain ⟨ad214, A214_2, c214_2, e214, hx214_0, hx214_1, hx214_2, hl214_2, hi214_2⟩ := at_T41 HR0.out x4_1 p214 q214
                   cases e214
                   replace hx214_0 := (HB.out.cell (World.block_lt_of_cell? w _ hx214_0)).trans hx214_0
                   replace hx214_1 := (HB.out.cell (World.block_lt_of_cell? w _ hx214_1)).trans hx214_1
                   replace hx214_2 := (HB.out.cell (World.block_lt_of_cell? w _ hx214_2)).trans hx214_2
                   have HR214_2 := Aside0.mk hi214_2
                   have HC214_2 := Aside0.mk hl214_2
                   clear hi214_2 hl214_2
                   replace p214 := eq_true p214
                   replace q214 := eq_true q214
                   have p215 : 0 ≤ (x4_1 : Int) := of_decide_eq_true (by first | (with_reducible assumption) | assumption)
                   have q215 : x4_1 < (l0.length : Int) := of_decide_eq_true (by first | (with_reducible assumption) | assumption)
                   obtain ⟨ad215, A215_2, c215_2, e215, hx215_0, hx215_1, hx215_2, hl215_2, hi215_2⟩ := at_T41 HR0.out x4_1 p215 q215
                   obtain rfl : ad214 = ad215 := (by injection e215)
                   replace hx215_0 := (HB.out.cell (World.block_lt_of_cell? w _ hx215_0)).trans hx215_0
                   replace hx215_1 := (HB.out.cell (World.block_lt_of_cell? w _ hx215_1)).trans hx215_1
                   replace hx215_2 := (HB.out.cell (World.block_lt_of_cell? w _ hx215_2)).trans hx215_2
                   have HR215_2 := Aside0.mk hi215_2
                   have HC215_2 := Aside0.mk hl215_2
                   clear hi215_2 hl215_2
                   replace p215 := eq_true p215
                   replace q215 := eq_true q215
                   have ea_ := Option.some.inj (hx214_2.symm.trans hx215_2)
                   injection ea_ with ea_ en_ ec_
                   subst ea_
                   subst ec_
                   clear en_
                   have p216 : 0 ≤ (x5_2 : Int) := of_decide_eq_true (by first | (with_reducible assumption) | assumption)
                   have q216 : x5_2 < (((rd_T41 l0 x4_1).f2).length : Int) := of_decide_eq_true (by first | (with_reducible assumption) | assumption)
                   obtain ⟨ad216, e216, hx216_0, hx216_1, hx216_2⟩ := at_T43 HR215_2.out x5_2 p216 q216
                   cases e216
                   replace hx216_0 := (HB.out.cell (World.block_lt_of_cell? w _ hx216_0)).trans hx216_0
                   replace hx216_1 := (HB.out.cell (World.block_lt_of_cell? w _ hx216_1)).trans hx216_1
                   replace hx216_2 := (HB.out.cell (World.block_lt_of_cell? w _ hx216_2)).trans hx216_2
                   replace p216 := eq_true p216
                   replace q216 := eq_true q216
                   obtain ⟨Ao11, co11, eo11⟩ := Kd.R_slice HO_3.out
                   subst eo11
                   go_wp2_with (first | ((with_reducible refine gate_callee (f := 27) rfl ?_); refine goesL_ (some 32) rfl rfl Tryd.func27 (by kernel_rfl) rfl #[.slice Ao11 x3_2.length co11, .string ((rd_T43 ((rd_T41 l0 x4_1).f2) x5_2).f0)] rfl (by (try simp only [List.map_toArray, List.map_cons, List.map_nil]); first | done | rfl | (simp only [List.length_drop, List.length_take]; rfl)) ?_; (with_reducible refine (rf07_Has.calls k2 _ _ x3_2 ((rd_T43 ((rd_T41 l0 x4_1).f2) x5_2).f0) false _ ?side1 ?side2 A7.out).mono ?_); (case side1 => repeat (first | exact (Kd.R_reads' HO_3.out).2.2 | (with_reducible refine Kd.C_alloc ?_ _) | (with_reducible refine Kd.C_drewN ?_ _) | (with_reducible refine Kd.C_drew ?_))); (case side2 => exact (Kd.R_reads' HO_3.out).2.1); rintro e w' ⟨rfl, ⟨nd, rfl⟩⟩; refine ⟨_, rfl, ?_⟩; have p218 : 0 ≤ (x4_1 : Int) := of_decide_eq_true (by first | (with_reducible assumption) | assumption); have q218 : x4_1 < (l0.length : Int) := of_decide_eq_true (by first | (with_reducible assumption) | assumption); obtain ⟨ad218, A218_2, c218_2, e218, hx218_0, hx218_1, hx218_2, hl218_2, hi218_2⟩ := at_T41 HR0.out x4_1 p218 q218; obtain rfl : ad214 = ad218 := (by injection e218); replace hx218_0 := (HB.out.cell (World.block_lt_of_cell? w _ hx218_0)).trans hx218_0; replace hx218_1 := (HB.out.cell (World.block_lt_of_cell? w _ hx218_1)).trans hx218_1; replace hx218_2 := (HB.out.cell (World.block_lt_of_cell? w _ hx218_2)).trans hx218_2; have HR218_2 := Aside0.mk hi218_2; have HC218_2 := Aside0.mk hl218_2; clear hi218_2 hl218_2; replace p218 := eq_true p218; replace q218 := eq_true q218; have ea_ := Option.some.inj (hx214_2.symm.trans hx218_2); injection ea_ with ea_ en_ ec_; subst ea_; subst ec_; clear en_; have p219 : 0 ≤ (x5_2 : Int) := of_decide_eq_true (by first | (with_reducible assumption) | assumption); have q219 : x5_2 < (((rd_T41 l0 x4_1).f2).length : Int) := of_decide_eq_true (by first | (with_reducible assumption) | assumption); obtain ⟨ad219, e219, hx219_0, hx219_1, hx219_2⟩ := at_T43 HR218_2.out x5_2 p219 q219; cases e219; replace hx219_0 := (HB.out.cell (World.block_lt_of_cell? w _ hx219_0)).trans hx219_0; replace hx219_1 := (HB.out.cell (World.block_lt_of_cell? w _ hx219_1)).trans hx219_1; replace hx219_2 := (HB.out.cell (World.block_lt_of_cell? w _ hx219_2)).trans hx219_2; replace p219 := eq_true p219; replace q219 := eq_true q219) | ((with_reducible refine gate_builtin (b := .append) (xs := #[.tmp 34, .tmp 44]) rfl ?_); at_builtin; refine Kd.R_append Kd.string (w0 := w) w.heap.size rfl (.tmp 34) (.tmp 44) 33 9 (.string ⟨#[]⟩) 16 rfl Tryd.underlying33 info9 rfl (by decide) (by omega) (.slice Ao11 x3_2.length co11) x3_2 ((rd_T43 ((rd_T41 l0 x4_1).f2) x5_2).f0) [.string ((rd_T43 ((rd_T41 l0 x4_1).f2) x5_2).f0)] (fun _ => True) (fun _ => False) rfl rfl ?aP (fun _ hk => hk.elim) ?aF ?aO ?aB ?aS ?aL ?_; (case aP => exact rfl); (case aB => exact (by repeat (first | (with_reducible first | exact HB.out | apply below_alloc | apply pw_below_drewN | apply below_drew1) | exact HB.out))); (case aF => exact (fun _ _ => trivial)); (case aO => exact (by (with_reducible repeat (first | apply Kd.R_alloc | apply Kd.R_drewN | apply Kd.R_drew)); exact HO_3.out)); (case aS => exact (below_size (by repeat (first | (with_reducible first | exact HB.out | apply below_alloc | apply pw_below_drewN | apply below_drew1) | exact HB.out)))); (case aL => have := LMc10.out; omega); intro v221 w12 ho hb hg hat; rw [← Ny220.out] at ho; have n0_ := Aside0.mk (hb); have n1_ := Aside0.mk (ho); clear HB; clear HO_3; have HB := n0_; have HO222 := n1_; clear n0_ n1_; clear ho hb hg hat))
                   go_roundg k2
                   case measure => have := HK1.out; have := HK2.out; omega
                   case rel => exact ⟨(y220), (wrap64 (x5_2 + 1)), (by first | rfl | (simp; done) | (simp [*]; done)), H', ⟨by have := HK1.out; have := HK2.out; omega⟩, ⟨by (with_reducible repeat (first | apply Kd.R_alloc | apply Kd.R_drewN | apply Kd.R_drew)); exact HO222.out⟩, ⟨by repeat (first | (with_reducible first | exact HB.out | apply below_alloc | apply pw_below_drewN | apply below_drew1) | exact HB.out)⟩⟩
                 · rw [if_neg c10] at H
                   exact absurd H (by simp)
             · rw [if_neg c6] at H
               exact absurd H (by simp)
           · rw [if_neg c5] at H
             have c5b0 : decide (x5_2 < (((rd_T41 l0 x4_1).f2).length : Int)) = false := decide_eq_false c5
             clear c5
             have H' := Aside0.mk H
             clear H
             have p214 : 0 ≤ (x4_1 : Int) := of_decide_eq_true (by first | (with_reducible assumption) | assumption)
             have q214 : x4_1 < (l0.length : Int) := of_decide_eq_true (by first | (with_reducible assumption) | assumption)
             obtain ⟨ad214, A214_2, c214_2, e214, hx214_0, hx214_1, hx214_2, hl214_2, hi214_2⟩ := at_T41 HR0.out x4_1 p214 q214
             cases e214
             replace hx214_0 := (HB.out.cell (World.block_lt_of_cell? w _ hx214_0)).trans hx214_0
             replace hx214_1 := (HB.out.cell (World.block_lt_of_cell? w _ hx214_1)).trans hx214_1
             replace hx214_2 := (HB.out.cell (World.block_lt_of_cell? w _ hx214_2)).trans hx214_2
             have HR214_2 := Aside0.mk hi214_2
             have HC214_2 := Aside0.mk hl214_2
             clear hi214_2 hl214_2
             replace p214 := eq_true p214
             replace q214 := eq_true q214
             go_wp2
             go_roundg k2
             case measure => have := HK1.out; have := HK2.out; omega
             case rel => exact ⟨(x3_2), (wrap64 (x4_1 + 1)), (by first | rfl | (simp; done) | (simp [*]; done)), H', ⟨by have := HK1.out; have := HK2.out; omega⟩, ⟨by (with_reducible repeat (first | apply Kd.R_alloc | apply Kd.R_drewN | apply Kd.R_drew)); exact HO_3.out⟩, ⟨by repeat (first | (with_reducible first | exact HB.out | apply below_alloc | apply pw_below_drewN | apply below_drew1) | exact HB.out)⟩⟩
         · rw [if_neg c4] at H
           exact absurd H (by simp)
       · rw [if_neg c3] at H
         exact absurd H (by simp)
   · rw [if_neg c2] at H
     have c2b0 : decide (x4_1 < (l0.length : Int)) = false := decide_eq_false c2
     clear c2
     obtain rfl := Option.some.inj H
     go_wp2
     go_ret
     exact ⟨_, by first | rfl | (simp [errW_none, errW_some] <;> rfl) | (simp [*, errW_none, errW_some] <;> rfl), by (with_reducible repeat (first | apply Kd.R_alloc | apply Kd.R_drewN | apply Kd.R_drew)); exact HO_3.out, by repeat (first | (with_reducible first | exact HB.out | apply below_alloc | apply pw_below_drewN | apply below_drew1) | exact HB.out)⟩
def rf05_Texts.l0 : Nat → List ByteArray → List ByteArray → Int → Option (Bool)
 | 0, _, _, _ => none
 | k + 1, x0, x1, x5 => if x5 < (x0.length : Int) then (if 0 ≤ x5 then (if x5 < (x1.length : Int) then (if (rdOf ByteArray.empty x0 x5).toList = (rdOf ByteArray.empty x1 x5).toList then (rf05_Texts.l0 k x0 x1 (wrap64 (x5 + 1))) else (some false)) else (none)) else (none)) else (some true)
def rf05_Texts.f (k : Nat) (l0 : List ByteArray) (l1 : List ByteArray) : Option (Bool) := if (l0.length : Int) = (l1.length : Int) then (rf05_Texts.l0 k l0 l1 0) else (some false)
set_option maxHeartbeats 8000000 in
set_option maxRecDepth 100000 in
theorem rf05_Texts.calls (k : Nat) (A0 : Option Addr) (c0 : Nat) (l0 : List ByteArray) (A1 : Option Addr) (c1 : Nat) (l1 : List ByteArray) (r : Bool) (w : World) (hr0 : Kd.C Kd.string w A0 l0.length l0) (hc0 : l0.length ≤ c0) (hr1 : Kd.C Kd.string w A1 l1.length l1) (hc1 : l1.length ≤ c1) (h : rf05_Texts.f k l0 l1 = some r) :
 Calls Tryd.prog 12 #[.slice A0 l0.length c0, .slice A1 l1.length c1] w fun e w' => e = .returned (.bool r) ∧ Drawn0 w w' := by
 have HR0 := Aside0.mk hr0
 have HC0 := Aside0.mk hc0
 clear hr0 hc0
 have HR1 := Aside0.mk hr1
 have HC1 := Aside0.mk hc1
 clear hr1 hc1
 have H : (if (l0.length : Int) = (l1.length : Int) then (rf05_Texts.l0 k l0 l1 0) else (some false)) = some r := h
 clear h
 by_cases c3 : (l0.length : Int) = (l1.length : Int)
 · rw [if_pos c3] at H
   have c3b0 : ((l0.length : Int) == (l1.length : Int)) = true := beq_iff_eq.mpr c3
   have c3b1 : ((l0.length : Int) != (l1.length : Int)) = false := bne_eq_false_iff_eq.mpr c3
   have c3b2 : (l0.length == l1.length) = true := by first | simpa using c3 | (simp at c3 ⊢; omega)
   clear c3
   have H' := Aside0.mk H
   clear H
   go_enter Tryd.func12, Tryd.ntmps12
   go_wp2
   repeat (go_quiet (fail); try go_wp2)
   go_loopg [5] k (fun kq v5 w' => ∃ (x5_1 : Int), v5 = .int .i64 x5_1 ∧ Aside0 (rf05_Texts.l0 kq l0 l1 x5_1 = some r) ∧ Aside0 (kq ≤ k) ∧ Drawn0 w w')
   case atStart => exact ⟨(0), (by first | rfl | (simp; done) | (simp [*]; done)), H', ⟨Nat.le_refl _⟩, by repeat (first | exact Drawn0.refl _ | apply Drawn0.step)⟩
   case round =>
    clear H'
    try clear c1
    try clear p2
    try clear c3
    try clear c3b0
    try clear c3b1
    try clear c3b2
    obtain ⟨x5_1, rfl, HA, HK1, ⟨m1, rfl⟩⟩ := hrel
    cases gk with
    | zero => exact absurd HA.out (by simp [rf05_Texts.l0])
    | succ k1 =>
     have H := HA.out
     clear HA
     simp only [rf05_Texts.l0] at H
     by_cases c4 : x5_1 < (l0.length : Int)
     · rw [if_pos c4] at H
       have c4b0 : decide (x5_1 < (l0.length : Int)) = true := decide_eq_true c4
       clear c4
       by_cases c5 : 0 ≤ x5_1
       · rw [if_pos c5] at H
         have c5b0 : decide (0 ≤ x5_1) = true := decide_eq_true c5
         clear c5
         by_cases c6 : x5_1 < (l1.length : Int)
         · rw [if_pos c6] at H
           have c6b0 : decide (x5_1 < (l1.length : Int)) = true := decide_eq_true c6
           clear c6
           by_cases c7 : (rdOf ByteArray.empty l0 x5_1).toList = (rdOf ByteArray.empty l1 x5_1).toList
           · rw [if_pos c7] at H
             have c7b0 : ((rdOf ByteArray.empty l0 x5_1).toList == (rdOf ByteArray.empty l1 x5_1).toList) = true := beq_iff_eq.mpr c7
             have c7b1 : ((rdOf ByteArray.empty l0 x5_1).toList != (rdOf ByteArray.empty l1 x5_1).toList) = false := bne_eq_false_iff_eq.mpr c7
             clear c7
             have H' := Aside0.mk H
             clear H
             have p197 : 0 ≤ (x5_1 : Int) := of_decide_eq_true (by first | (with_reducible assumption) | assumption)
             have q197 : x5_1 < (l0.length : Int) := of_decide_eq_true (by first | (with_reducible assumption) | assumption)
             obtain ⟨ad197, e197, hx197_0⟩ := Kd.at_string HR0.out x5_1 p197 q197
             cases e197
             replace p197 := eq_true p197
             replace q197 := eq_true q197
             have p198 : 0 ≤ (x5_1 : Int) := of_decide_eq_true (by first | (with_reducible assumption) | assumption)
             have q198 : x5_1 < (l1.length : Int) := of_decide_eq_true (by first | (with_reducible assumption) | assumption)
             obtain ⟨ad198, e198, hx198_0⟩ := Kd.at_string HR1.out x5_1 p198 q198
             cases e198
             replace p198 := eq_true p198
             replace q198 := eq_true q198
             go_wp2
             repeat (go_quiet (fail); try go_wp2)
             go_roundg k1
             case measure => have := HK1.out; omega
             case rel => exact ⟨(wrap64 (x5_1 + 1)), (by first | rfl | (simp; done) | (simp [*]; done)), H', ⟨by have := HK1.out; omega⟩, by repeat (first | exact Drawn0.refl _ | apply Drawn0.step)⟩
           · rw [if_neg c7] at H
             have c7b0 : ((rdOf ByteArray.empty l0 x5_1).toList == (rdOf ByteArray.empty l1 x5_1).toList) = false := beq_eq_false_iff_ne.mpr c7
             have c7b1 : ((rdOf ByteArray.empty l0 x5_1).toList != (rdOf ByteArray.empty l1 x5_1).toList) = true := bne_iff_ne.mpr c7
             obtain rfl := Option.some.inj H
             have p197 : 0 ≤ (x5_1 : Int) := of_decide_eq_true (by first | (with_reducible assumption) | assumption)
             have q197 : x5_1 < (l0.length : Int) := of_decide_eq_true (by first | (with_reducible assumption) | assumption)
             obtain ⟨ad197, e197, hx197_0⟩ := Kd.at_string HR0.out x5_1 p197 q197
             cases e197
             replace p197 := eq_true p197
             replace q197 := eq_true q197
             have p198 : 0 ≤ (x5_1 : Int) := of_decide_eq_true (by first | (with_reducible assumption) | assumption)
             have q198 : x5_1 < (l1.length : Int) := of_decide_eq_true (by first | (with_reducible assumption) | assumption)
             obtain ⟨ad198, e198, hx198_0⟩ := Kd.at_string HR1.out x5_1 p198 q198
             cases e198
             replace p198 := eq_true p198
             replace q198 := eq_true q198
             go_wp2
             repeat (go_quiet (fail); try go_wp2)
             go_ret
             exact ⟨by first | rfl | (simp; done) | (simp [*]; done), by repeat (first | exact Drawn0.refl _ | apply Drawn0.step)⟩
         · rw [if_neg c6] at H
           exact absurd H (by simp)
       · rw [if_neg c5] at H
         exact absurd H (by simp)
     · rw [if_neg c4] at H
       have c4b0 : decide (x5_1 < (l0.length : Int)) = false := decide_eq_false c4
       clear c4
       obtain rfl := Option.some.inj H
       go_wp2
       repeat (go_quiet (fail); try go_wp2)
       go_ret
       exact ⟨by first | rfl | (simp; done) | (simp [*]; done), by repeat (first | exact Drawn0.refl _ | apply Drawn0.step)⟩
 · rw [if_neg c3] at H
   have c3b0 : ((l0.length : Int) == (l1.length : Int)) = false := beq_eq_false_iff_ne.mpr c3
   have c3b1 : ((l0.length : Int) != (l1.length : Int)) = true := bne_iff_ne.mpr c3
   have c3b2 : (l0.length == l1.length) = false := by first | simpa using c3 | (simp at c3 ⊢; omega)
   obtain rfl := Option.some.inj H
   go_enter Tryd.func12, Tryd.ntmps12
   go_wp2
   repeat (go_quiet (fail); try go_wp2)
   go_ret
   exact ⟨by first | rfl | (simp; done) | (simp [*]; done), by repeat (first | exact Drawn0.refl _ | apply Drawn0.step)⟩
end Go.Proofs.YtkipkbggnfllkaaDoor.P
end
section
namespace Go.Proofs.YtkipkbggnfllkaaDoor.P
open Go.RowKit Go.Proofs.YtkipkbggnfllkaaDoorW.PrintWords Go.Proofs.YtkipkbggnfllkaaDoorW.PrintLast Go.Proofs.YtkipkbggnfllkaaDoorW.PrintMore
set_option linter.unusedVariables false
set_option linter.unusedSimpArgs false
def hasB (l : List ByteArray) (s : ByteArray) : Bool := l.any fun y => y.toList == s.toList
def nub : List ByteArray → List ByteArray → List ByteArray
 | acc, [] => acc
 | acc, x :: r => nub (if hasB acc x = true then acc else acc ++ [x]) r
theorem nub_append : ∀ (l m acc : List ByteArray), nub acc (l ++ m) = nub (nub acc l) m
 | [], m, acc => rfl
 | x :: l, m, acc => by
  simp only [List.cons_append, nub]
  exact nub_append l m _
theorem nub_length : ∀ (l acc : List ByteArray), (nub acc l).length ≤ acc.length + l.length
 | [], acc => Nat.le_refl _
 | x :: l, acc => by
  simp only [nub, List.length_cons]
  refine Nat.le_trans (nub_length l _) ?_
  split
  · omega
  · rw [List.length_append, List.length_singleton]
    omega
theorem rdOf_at (l : List ByteArray) (i : Nat) (h : i < l.length) : ∃ y, rdOf ByteArray.empty l (i : Int) = y ∧ l.drop i = y :: l.drop (i + 1) := by
 refine ⟨l[i], ?_, List.drop_eq_getElem_cons h⟩
 unfold rdOf
 rw [Int.toNat_natCast, List.getD_eq_getElem?_getD, List.getElem?_eq_getElem h]
 rfl
theorem ref_has_from (l : List ByteArray) (s : ByteArray) (hl : l.length ≤ 1099511627776) : ∀ (d i : Nat), i + d = l.length → Ev (fun k => rf07_Has.l0 k l s (i : Int)) (hasB (l.drop i) s)
 | 0, i, hi => by
  rw [List.drop_eq_nil_of_le (by omega)]
  exact Ev.step (f := fun _ => some false) (fun k => by simp only [rf07_Has.l0]; rw [if_neg (by omega)]) (Ev.now _)
 | d + 1, i, hi => by
  obtain ⟨y, h1, h2⟩ := rdOf_at l i (by omega)
  have ih := ref_has_from l s hl d (i + 1) (by omega)
  have ew : wrap64 ((i : Int) + 1) = ((i + 1 : Nat) : Int) := by rw [w64 (by omega) (by omega)]; omega
  rw [h2]
  have e : hasB (y :: l.drop (i + 1)) s = (y.toList == s.toList || hasB (l.drop (i + 1)) s) := rfl
  rw [e]
  refine Ev.step (f := fun k => if y.toList = s.toList then some true else rf07_Has.l0 k l s ((i + 1 : Nat) : Int)) (fun k => ?_) ?_
  · have c1 : ((i : Int) < (l.length : Int)) = True := eq_true (by omega)
    have c2 : (0 ≤ (i : Int)) = True := eq_true (by omega)
    simp only [rf07_Has.l0, c1, c2, h1, ew, if_true]
  · by_cases g : y.toList = s.toList
    · rw [beq_iff_eq.2 g, Bool.true_or]
      exact Ev.pos g (Ev.now _)
    · rw [beq_eq_false_iff_ne.2 g, Bool.false_or]
      exact Ev.neg g ih
theorem ref_has (l : List ByteArray) (s : ByteArray) (hl : l.length ≤ 1099511627776) : Ev (fun k => rf07_Has.f k l s) (hasB l s) := ref_has_from l s hl l.length 0 (Nat.zero_add _)
theorem prog_index_from (l : List ByteArray) (s : ByteArray) (hl : l.length ≤ 1099511627776) : ∀ (d i : Nat), i + d = l.length → ∃ r : Int, Ev (fun k => slices_Index_string_string.l0 k l s (l.length : Int) (i : Int)) r ∧ decide (r ≥ 0) = hasB (l.drop i) s
 | 0, i, hi => by
  rw [List.drop_eq_nil_of_le (by omega)]
  exact ⟨-1, Ev.step (f := fun _ => some (-1)) (fun k => by simp only [slices_Index_string_string.l0]; rw [if_neg (by omega)]) (Ev.now _), rfl⟩
 | d + 1, i, hi => by
  obtain ⟨y, h1, h2⟩ := rdOf_at l i (by omega)
  obtain ⟨r, ih1, ih2⟩ := prog_index_from l s hl d (i + 1) (by omega)
  have ew : wrap64 ((i : Int) + 1) = ((i + 1 : Nat) : Int) := by rw [w64 (by omega) (by omega)]; omega
  rw [h2]
  have e : hasB (y :: l.drop (i + 1)) s = (y.toList == s.toList || hasB (l.drop (i + 1)) s) := rfl
  rw [e]
  have hstep : ∀ r', Ev (fun k => if s.toList = y.toList then some (i : Int) else slices_Index_string_string.l0 k l s (l.length : Int) ((i + 1 : Nat) : Int)) r' → Ev (fun k => slices_Index_string_string.l0 k l s (l.length : Int) (i : Int)) r' := by
   intro r' hr'
   refine Ev.step (f := _) (fun k => ?_) hr'
   have c1 : ((i : Int) < (l.length : Int)) = True := eq_true (by omega)
   have c2 : (0 ≤ (i : Int)) = True := eq_true (by omega)
   simp only [slices_Index_string_string.l0, c1, c2, h1, ew, if_true]
  by_cases g : s.toList = y.toList
  · rw [beq_iff_eq.2 g.symm, Bool.true_or]
    exact ⟨(i : Int), hstep _ (Ev.pos g (Ev.now _)), decide_eq_true (by omega)⟩
  · rw [beq_eq_false_iff_ne.2 (fun k => g k.symm), Bool.false_or]
    exact ⟨r, hstep _ (Ev.neg g ih1), ih2⟩
theorem prog_contains (l : List ByteArray) (s : ByteArray) (hl : l.length ≤ 1099511627776) : Ev (fun k => slices_Contains_string_string.f k l s) (hasB l s) := by
 obtain ⟨r, h1, h2⟩ := prog_index_from l s hl l.length 0 (Nat.zero_add _)
 rw [List.drop_zero] at h2
 rw [← h2]
 exact Ev.bind (g := fun k => slices_Index_string_string.f k l s) h1 (Ev.now _)
def vNames (l : List S43) : List ByteArray := l.map (·.f0)
def tNames (t : List S41) : List ByteArray := t.flatMap fun x => vNames x.f2
theorem rd43_at (l : List S43) (i : Nat) (h : i < l.length) : ∃ y, rd_T43 l (i : Int) = y ∧ l.drop i = y :: l.drop (i + 1) := by
 refine ⟨l[i], ?_, List.drop_eq_getElem_cons h⟩
 unfold rd_T43
 rw [Int.toNat_natCast, List.getD_eq_getElem?_getD, List.getElem?_eq_getElem h]
 rfl
theorem rd41_at (l : List S41) (i : Nat) (h : i < l.length) : ∃ y, rd_T41 l (i : Int) = y ∧ l.drop i = y :: l.drop (i + 1) := by
 refine ⟨l[i], ?_, List.drop_eq_getElem_cons h⟩
 unfold rd_T41
 rw [Int.toNat_natCast, List.getD_eq_getElem?_getD, List.getElem?_eq_getElem h]
 rfl
theorem prog_names_l1 (t : List S41) (n : Int) (i : Nat) (hi : i ≤ 1099511627776) (sp : List S43) (hsp : sp.length ≤ 1099511627776) (R : List ByteArray × Int) : ∀ (d j : Nat) (acc : List ByteArray) (c : Nat), j + d = sp.length → acc.length ≤ c → c + d ≤ 1099511627776 →
 Ev (fun k => tmpl_names.l0 k (nub acc (vNames (sp.drop j))) ((c + d : Nat) : Int) t n ((i + 1 : Nat) : Int)) R → Ev (fun k => tmpl_names.l1 k acc (c : Int) t n (i : Int) sp (sp.length : Int) (j : Int)) R
 | 0, j, acc, c, hj, ha, hc, h => by
  rw [List.drop_eq_nil_of_le (by omega)] at h
  have ew : wrap64 ((i : Int) + 1) = ((i + 1 : Nat) : Int) := by rw [w64 (by omega) (by omega)]; omega
  refine Ev.step (f := _) (fun k => ?_) h
  simp only [tmpl_names.l1]
  rw [if_neg (by omega), ew]
  rfl
 | d + 1, j, acc, c, hj, ha, hc, h => by
  obtain ⟨y, h1, h2⟩ := rd43_at sp j (by omega)
  have ew : wrap64 ((j : Int) + 1) = ((j + 1 : Nat) : Int) := by rw [w64 (by omega) (by omega)]; omega
  have ew2 : wrap64 ((c : Int) + 1) = ((c + 1 : Nat) : Int) := by rw [w64 (by omega) (by omega)]; omega
  rw [h2] at h
  have e : vNames (y :: sp.drop (j + 1)) = y.f0 :: vNames (sp.drop (j + 1)) := rfl
  rw [e] at h
  simp only [nub] at h
  have hcon := prog_contains acc y.f0 (by omega)
  refine Ev.step (f := fun k => (slices_Contains_string_string.f k acc y.f0).bind fun t205 => (if t205 = true then (tmpl_names.l1 k acc ((c + 1 : Nat) : Int) t n (i : Int) sp (sp.length : Int) ((j + 1 : Nat) : Int)) else (tmpl_names.l1 k (acc ++ [y.f0]) ((c + 1 : Nat) : Int) t n (i : Int) sp (sp.length : Int) ((j + 1 : Nat) : Int)))) (fun k => ?_) (hcon.bind ?_)
  · have c1 : ((j : Int) < (sp.length : Int)) = True := eq_true (by omega)
    have c2 : (0 ≤ (j : Int)) = True := eq_true (by omega)
    have c3 : (acc.length < 8796093022208) = True := eq_true (by omega)
    simp only [tmpl_names.l1, c1, c2, c3, h1, ew, ew2, if_true]
  · rw [show c + (d + 1) = c + 1 + d by omega] at h
    by_cases g : hasB acc y.f0 = true
    · rw [if_pos g] at h
      exact Ev.pos g (prog_names_l1 t n i hi sp hsp R d (j + 1) acc (c + 1) (by omega) (by omega) (by omega) h)
    · rw [if_neg g] at h
      exact Ev.neg g (prog_names_l1 t n i hi sp hsp R d (j + 1) (acc ++ [y.f0]) (c + 1) (by omega) (by rw [List.length_append, List.length_singleton]; omega) (by omega) h)
theorem prog_names_l0 (t : List S41) (ht : t.length ≤ 1000000000) : ∀ (d i : Nat) (acc : List ByteArray) (c : Nat), i + d = t.length → acc.length ≤ c → c + (tNames (t.drop i)).length ≤ 1099511627776 →
 Ev (fun k => tmpl_names.l0 k acc (c : Int) t (t.length : Int) (i : Int)) (nub acc (tNames (t.drop i)), ((c + (tNames (t.drop i)).length : Nat) : Int))
 | 0, i, acc, c, hi, ha, hc => by
  rw [List.drop_eq_nil_of_le (by omega)]
  exact Ev.step (f := fun _ => some (acc, (c : Int))) (fun k => by simp only [tmpl_names.l0]; rw [if_neg (by omega)]) (Ev.now _)
 | d + 1, i, acc, c, hi, ha, hc => by
  obtain ⟨y, h1, h2⟩ := rd41_at t i (by omega)
  rw [h2] at hc ⊢
  have e : tNames (y :: t.drop (i + 1)) = vNames y.f2 ++ tNames (t.drop (i + 1)) := rfl
  rw [e, List.length_append] at hc
  rw [e, List.length_append, nub_append]
  have hvl : (vNames y.f2).length = y.f2.length := List.length_map ..
  have ih := prog_names_l0 t ht d (i + 1) (nub acc (vNames y.f2)) (c + y.f2.length) (by omega) (by have := nub_length (vNames y.f2) acc; omega) (by omega)
  have hl1 := prog_names_l1 t (t.length : Int) i (by omega) y.f2 (by omega) _ y.f2.length 0 acc c (Nat.zero_add _) ha (by omega) (by rw [List.drop_zero]; exact ih)
  rw [hvl, ← Nat.add_assoc]
  refine Ev.step (f := _) (fun k => ?_) hl1
  have c1 : ((i : Int) < (t.length : Int)) = True := eq_true (by omega)
  have c2 : (0 ≤ (i : Int)) = True := eq_true (by omega)
  simp only [tmpl_names.l0, c1, c2, h1, if_true]
  rfl
theorem prog_names (t : List S41) (ht : t.length ≤ 1000000000) (hn : (tNames t).length ≤ 1099511627776) : Ev (fun k => tmpl_names.f k t) (nub [] (tNames t), (((tNames t).length : Nat) : Int)) := by
 have := prog_names_l0 t ht t.length 0 [] 0 (Nat.zero_add _) (Nat.le_refl _) (by rw [List.drop_zero, Nat.zero_add]; exact hn)
 rw [List.drop_zero, Nat.zero_add] at this
 exact this
theorem prog_Names (t : List S41) (ht : t.length ≤ 1000000000) (hn : (tNames t).length ≤ 1099511627776) : Ev (fun k => tmpl_Names.f k t) (nub [] (tNames t)) := (prog_names t ht hn).bind (Ev.now _)
theorem prog_Once (t : List S41) (ht : t.length ≤ 1000000000) (hn : (tNames t).length ≤ 1099511627776) : Ev (fun k => tmpl_Once.f k t) (((nub [] (tNames t)).length : Int) == (((tNames t).length : Nat) : Int)) := (prog_names t ht hn).bind (Ev.now _)
theorem ref_names_l1 (t : List S41) (ht : t.length ≤ 1000000000) (i : Nat) (hi : i < t.length) (y : S41) (hy : rd_T41 t (i : Int) = y) (R : List ByteArray) : ∀ (d j : Nat) (acc : List ByteArray), j + d = y.f2.length → acc.length + d ≤ 1099511627776 → y.f2.length ≤ 1099511627776 →
 Ev (fun k => rf07_Names.l0 k t (nub acc (vNames (y.f2.drop j))) ((i + 1 : Nat) : Int)) R → Ev (fun k => rf07_Names.l1 k t acc (i : Int) (j : Int)) R
 | 0, j, acc, hj, ha, hsp, h => by
  rw [List.drop_eq_nil_of_le (by omega)] at h
  have ew : wrap64 ((i : Int) + 1) = ((i + 1 : Nat) : Int) := by rw [w64 (by omega) (by omega)]; omega
  refine Ev.step (f := _) (fun k => ?_) h
  have c1 : (0 ≤ (i : Int)) = True := eq_true (by omega)
  have c2 : ((i : Int) < (t.length : Int)) = True := eq_true (by omega)
  have c3 : ((j : Int) < (y.f2.length : Int)) = False := eq_false (by omega)
  simp only [rf07_Names.l1, hy, c1, c2, c3, ew, if_true, if_false]
  rfl
 | d + 1, j, acc, hj, ha, hsp, h => by
  obtain ⟨x, h1, h2⟩ := rd43_at y.f2 j (by omega)
  have ew : wrap64 ((j : Int) + 1) = ((j + 1 : Nat) : Int) := by rw [w64 (by omega) (by omega)]; omega
  rw [h2] at h
  have e : vNames (x :: y.f2.drop (j + 1)) = x.f0 :: vNames (y.f2.drop (j + 1)) := rfl
  rw [e] at h
  simp only [nub] at h
  have hcon := ref_has acc x.f0 (by omega)
  refine Ev.step (f := fun k => (rf07_Has.f k acc x.f0).bind fun t217 => (if t217 = true then (rf07_Names.l1 k t acc (i : Int) ((j + 1 : Nat) : Int)) else (rf07_Names.l1 k t (acc ++ [x.f0]) (i : Int) ((j + 1 : Nat) : Int)))) (fun k => ?_) (hcon.bind ?_)
  · have c1 : (0 ≤ (i : Int)) = True := eq_true (by omega)
    have c2 : ((i : Int) < (t.length : Int)) = True := eq_true (by omega)
    have c3 : ((j : Int) < (y.f2.length : Int)) = True := eq_true (by omega)
    have c4 : (0 ≤ (j : Int)) = True := eq_true (by omega)
    have c5 : (acc.length < 8796093022208) = True := eq_true (by omega)
    simp only [rf07_Names.l1, hy, c1, c2, c3, c4, c5, h1, ew, if_true]
  · by_cases g : hasB acc x.f0 = true
    · rw [if_pos g] at h
      exact Ev.pos g (ref_names_l1 t ht i hi y hy R d (j + 1) acc (by omega) (by omega) hsp h)
    · rw [if_neg g] at h
      exact Ev.neg g (ref_names_l1 t ht i hi y hy R d (j + 1) (acc ++ [x.f0]) (by omega) (by rw [List.length_append, List.length_singleton]; omega) hsp h)
theorem ref_names_l0 (t : List S41) (ht : t.length ≤ 1000000000) : ∀ (d i : Nat) (acc : List ByteArray), i + d = t.length → acc.length + (tNames (t.drop i)).length ≤ 1099511627776 →
 Ev (fun k => rf07_Names.l0 k t acc (i : Int)) (nub acc (tNames (t.drop i)))
 | 0, i, acc, hi, hc => by
  rw [List.drop_eq_nil_of_le (by omega)]
  exact Ev.step (f := fun _ => some acc) (fun k => by simp only [rf07_Names.l0]; rw [if_neg (by omega)]) (Ev.now _)
 | d + 1, i, acc, hi, hc => by
  obtain ⟨y, h1, h2⟩ := rd41_at t i (by omega)
  rw [h2] at hc ⊢
  have e : tNames (y :: t.drop (i + 1)) = vNames y.f2 ++ tNames (t.drop (i + 1)) := rfl
  rw [e, List.length_append] at hc
  rw [e, nub_append]
  have hvl : (vNames y.f2).length = y.f2.length := List.length_map ..
  have ih := ref_names_l0 t ht d (i + 1) (nub acc (vNames y.f2)) (by omega) (by have := nub_length (vNames y.f2) acc; omega)
  have hl1 := ref_names_l1 t ht i (by omega) y h1 _ y.f2.length 0 acc (Nat.zero_add _) (by omega) (by omega) (by rw [List.drop_zero]; exact ih)
  refine Ev.step (f := _) (fun k => ?_) hl1
  have c1 : ((i : Int) < (t.length : Int)) = True := eq_true (by omega)
  simp only [rf07_Names.l0, c1, if_true]
  rfl
theorem ref_names (t : List S41) (ht : t.length ≤ 1000000000) (hn : (tNames t).length ≤ 1099511627776) : Ev (fun k => rf07_Names.f k t) (nub [] (tNames t)) := by
 have := ref_names_l0 t ht t.length 0 [] (Nat.zero_add _) (by rw [List.drop_zero]; simpa using hn)
 rw [List.drop_zero] at this
 exact this
theorem ref_texts_from (l : List ByteArray) (hl : l.length ≤ 1099511627776) : ∀ (d i : Nat), i + d = l.length → Ev (fun k => rf05_Texts.l0 k l l (i : Int)) true
 | 0, i, hi => Ev.step (f := fun _ => some true) (fun k => by simp only [rf05_Texts.l0]; rw [if_neg (by omega)]) (Ev.now _)
 | d + 1, i, hi => by
  have ih := ref_texts_from l hl d (i + 1) (by omega)
  have ew : wrap64 ((i : Int) + 1) = ((i + 1 : Nat) : Int) := by rw [w64 (by omega) (by omega)]; omega
  refine Ev.step (f := _) (fun k => ?_) ih
  have c1 : ((i : Int) < (l.length : Int)) = True := eq_true (by omega)
  have c2 : (0 ≤ (i : Int)) = True := eq_true (by omega)
  simp only [rf05_Texts.l0, c1, c2, ew, if_true]
theorem ref_texts (l : List ByteArray) (hl : l.length ≤ 1099511627776) : Ev (fun k => rf05_Texts.f k l l) true := by
 unfold rf05_Texts.f
 exact Ev.pos rfl (ref_texts_from l hl l.length 0 (Nat.zero_add _))
theorem vNames_bs (l : List S43) : (vNames l).map bs = (l.map vM).map (·.name) := by
 unfold vNames
 rw [List.map_map, List.map_map]
 rfl
theorem tNames_bs : ∀ (t : List S41), (tNames t).map bs = ((t.map pM).flatMap (·.specs)).map (·.name)
 | [] => rfl
 | x :: t => by
  have e : tNames (x :: t) = vNames x.f2 ++ tNames t := rfl
  rw [e, List.map_append, vNames_bs, tNames_bs t, List.map_cons, List.flatMap_cons, List.map_append]
  rfl
theorem map_bs_inj : ∀ {l m : List ByteArray}, l.map bs = m.map bs → l = m
 | [], [], _ => rfl
 | [], _ :: _, h => by simp at h
 | _ :: _, [], h => by simp at h
 | x :: l, y :: m, h => by
  simp only [List.map_cons, List.cons.injEq] at h
  rw [bs_inj h.1, map_bs_inj h.2]
end Go.Proofs.YtkipkbggnfllkaaDoor.P
end
section
namespace Go.Proofs.YtkipkbggnfllkaaDoor.P
set_option linter.unusedVariables false
set_option linter.unusedSimpArgs false
theorem ucsAt_more {l m : List Nat} (h : ucsAt l ≠ 0) : ucsAt (l ++ m) = ucsAt l := by
 rcases ucsAt_steps l with g | ⟨g, b0, b1, r, rfl, -, -, u⟩ | ⟨g, b0, b1, b2, r, rfl, -, -, -, -, u⟩ | ⟨g, b0, b1, b2, b3, r, rfl, -, -, -, -, -, -, u⟩
 · exact absurd g h
 · rw [g]
   exact ucsAt_append (l := [b0, b1]) (m := r ++ m) u (by simp)
 · rw [g]
   exact ucsAt_append (l := [b0, b1, b2]) (m := r ++ m) u (by simp)
 · rw [g]
   exact ucsAt_append (l := [b0, b1, b2, b3]) (m := r ++ m) u (by simp)
theorem piece_more {l m : List Nat} (h : pieceN l ≠ 0) : pieceN (l ++ m) = pieceN l := by
 match l, h with
 | [], h => exact absurd rfl h
 | b :: r, h =>
  simp only [List.cons_append, pieceN] at h ⊢
  by_cases h1 : isLit b = true
  · rw [if_pos h1, if_pos h1]
  rw [if_neg h1] at h ⊢
  rw [if_neg h1]
  by_cases h2 : trip (b :: r) = true
  · have : trip (b :: (r ++ m)) = true := by
     match r, h2 with
     | [], h2 => cases h2
     | [_], h2 => cases h2
     | c :: d :: r, h2 => exact h2
    rw [if_pos h2, if_pos this]
  · rw [if_neg h2] at h ⊢
    have hb : 192 ≤ b := by
     refine Classical.byContradiction fun g => ?_
     exact h (ucsAt_low b r (by omega))
    have : ¬ trip (b :: (r ++ m)) = true := by
     match h9 : r ++ m with
     | [] => simp [trip]
     | [_] => simp [trip]
     | c :: d :: r' =>
      simp only [trip, Bool.and_eq_true, beq_iff_eq]
      rintro ⟨g, -⟩
      omega
    rw [if_neg this]
    exact ucsAt_more (l := b :: r) h
theorem pieces_fuel : ∀ (d e : Nat) (l : List Nat), l.length < d → l.length < e → piecesN d l = piecesN e l
 | 0, _, _, h, _ => by omega
 | _, 0, _, _, h => by omega
 | d + 1, e + 1, l, h1, h2 => by
  simp only [piecesN]
  by_cases h : pieceN l = 0
  · rw [if_pos h, if_pos h]
  · rw [if_neg h, if_neg h]
    obtain ⟨a, -, -⟩ := piece_top h
    rw [pieces_fuel d e (l.drop (pieceN l)) (by rw [List.length_drop]; omega) (by rw [List.length_drop]; omega)]
theorem pieces_more (m : List Nat) : ∀ (d e : Nat) (l : List Nat), l.length < d → (l ++ m).length < e → piecesN e (l ++ m) = piecesN d l + piecesN e (l.drop (piecesN d l) ++ m)
 | 0, _, _, h, _ => by omega
 | d + 1, e, l, h1, h2 => by
  simp only [piecesN]
  by_cases h : pieceN l = 0
  · rw [if_pos h, List.drop_zero, Nat.zero_add]
  · rw [if_neg h]
    obtain ⟨a, -, -⟩ := piece_top h
    obtain ⟨e, rfl⟩ : ∃ x, e = x + 1 := ⟨e - 1, by omega⟩
    have hp := piece_more (m := m) h
    have hl : (l.drop (pieceN l) ++ m).length < e := by
     rw [List.length_append, List.length_drop]
     rw [List.length_append] at h2
     omega
    have ih := pieces_more m d e (l.drop (pieceN l)) (by rw [List.length_drop]; omega) hl
    have hd : (l ++ m).drop (pieceN l) = l.drop (pieceN l) ++ m := List.drop_append_of_le_length a
    conv => lhs; simp only [piecesN]
    rw [hp, if_neg h, hd, ih, List.drop_drop]
    have hl2 : (l.drop (pieceN l + piecesN d (l.drop (pieceN l))) ++ m).length < e := by
     rw [List.length_append, List.length_drop]
     rw [List.length_append] at h2
     omega
    rw [pieces_fuel e (e + 1) _ hl2 (by omega)]
    omega
theorem cut_more {l a t : List Nat} {c : Nat} (m : List Nat) (h : cut l = some (a, c, t)) : cut (l ++ m) = some (a, c, t ++ m) := by
 obtain ⟨rfl, hs, hc⟩ := cut_some h
 rw [List.append_assoc, List.cons_append]
 exact cut_of hs hc
theorem expr_more (m : List Nat) : ∀ (d e : Nat) (l : List Nat) (vs : List MVar) (t : List Nat), exprN d l = some (vs, t) → (l ++ m).length < e → exprN e (l ++ m) = some (vs, t ++ m)
 | 0, _, _, _, _, h, _ => by cases h
 | d + 1, 0, _, _, _, _, h => by omega
 | d + 1, e + 1, l, vs, t, h, he => by
  simp only [exprN] at h ⊢
  cases hc : cut l with
  | none =>
   rw [hc] at h
   cases h
  | some p =>
   obtain ⟨a, c, r⟩ := p
   obtain ⟨hl, -, -⟩ := cut_some hc
   rw [hc] at h
   rw [cut_more m hc]
   simp only at h ⊢
   cases hm : mVar a with
   | none =>
    rw [hm] at h
    cases h
   | some v =>
    rw [hm] at h
    simp only at h ⊢
    by_cases h1 : c = 125
    · rw [if_pos h1] at h ⊢
      cases h
      rfl
    · rw [if_neg h1] at h ⊢
      cases hx : exprN d r with
      | none =>
       rw [hx] at h
       cases h
      | some q =>
       obtain ⟨ws, u⟩ := q
       rw [hx] at h
       cases h
       have := expr_more m d e r _ _ hx (by
        rw [hl] at he
        simp only [List.length_append, List.length_cons] at he ⊢
        omega)
       rw [this]
theorem opN_more {l : List Nat} (m : List Nat) (h : l ≠ []) : opN (l ++ m) = ((opN l).1, (opN l).2 ++ m) := by
 match l, h with
 | [], h => exact absurd rfl h
 | b :: r, _ =>
  simp only [List.cons_append, opN]
  split <;> rfl
theorem expr_nil (d : Nat) : exprN d [] = none := by cases d <;> rfl
theorem expr_shorter {d : Nat} {l : List Nat} {vs : List MVar} {t : List Nat} (hd : l.length < d) (h : exprN d l = some (vs, t)) : t.length < l.length := by
 obtain ⟨-, p, rfl, hp, -⟩ := (expr_top d l hd).1 vs t h
 rw [List.length_append]
 have := List.length_pos_iff.2 hp
 omega
theorem mP_nil (d : Nat) : mP d [] = some [] := by cases d <;> rfl
theorem mP_fuel : ∀ (d e : Nat) (l : List Nat), l.length ≤ d → l.length ≤ e → mP d l = mP e l
 | d, e, [], _, _ => by rw [mP_nil, mP_nil]
 | 0, _, _ :: _, h, _ => by simp at h
 | _, 0, _ :: _, _, h => by simp at h
 | d + 1, e + 1, b :: r, h1, h2 => by
  rw [List.length_cons] at h1 h2
  simp only [mP]
  by_cases hb : b = 123
  · rw [if_pos hb, if_pos hb]
    cases hx : exprN (r.length + 1) (opN r).2 with
    | none => rfl
    | some p =>
     obtain ⟨vs, t⟩ := p
     have hol := opN_length r
     have := expr_shorter (by omega) hx
     simp only
     rw [mP_fuel d e t (by omega) (by omega)]
  · rw [if_neg hb, if_neg hb]
    by_cases hz : piecesN (r.length + 2) (b :: r) = 0
    · rw [if_pos hz, if_pos hz]
    · rw [if_neg hz, if_neg hz]
      have hl : ((b :: r).drop (piecesN (r.length + 2) (b :: r))).length ≤ r.length := by
       rw [List.length_drop, List.length_cons]
       omega
      rw [mP_fuel d e _ (by omega) (by omega)]
def specsOf (t : List MPart) : List MVar := t.flatMap (·.specs)
theorem after_pieces {d : Nat} {l : List Nat} {x : List MPart} (h : mP d l = some x) (h0 : pieceN l = 0) : l = [] ∨ l.head? = some 123 := by
 match d, l, h with
 | _, [], _ => exact .inl rfl
 | 0, _ :: _, h => cases h
 | d + 1, b :: r, h =>
  right
  simp only [mP] at h
  by_cases hb : b = 123
  · rw [hb]
    rfl
  · rw [if_neg hb, if_pos ((pieces_zero _ _).2 h0)] at h
    cases h
theorem piece_brace (l : List Nat) (h : l.head? = some 123) : pieceN l = 0 := by
 refine Classical.byContradiction fun g => ?_
 exact (piece_top g).2.2 h
theorem pieces_brace (d : Nat) (l : List Nat) (h : l.head? = some 123) : piecesN d l = 0 := by
 cases d with
 | zero => rfl
 | succ d => exact (pieces_zero d l).2 (piece_brace l h)
theorem mP_append : ∀ (d : Nat) (l : List Nat) (x : List MPart), l.length ≤ d → mP d l = some x → ∀ (e : Nat) (m : List Nat) (y : List MPart), m.length ≤ e → mP e m = some y → ∀ f, (l ++ m).length ≤ f →
 ∃ z, mP f (l ++ m) = some z ∧ specsOf z = specsOf x ++ specsOf y
 | d, [], x, _, hx, e, m, y, he, hy, f, hf => by
  rw [mP_nil] at hx
  cases hx
  rw [List.nil_append] at hf ⊢
  exact ⟨y, by rw [mP_fuel f e m hf he]; exact hy, rfl⟩
 | 0, _ :: _, _, h, _, _, _, _, _, _, _, _ => by simp at h
 | d + 1, b :: r, x, hd, hx, e, m, y, he, hy, 0, hf => by simp at hf
 | d + 1, b :: r, x, hd, hx, e, m, y, he, hy, f + 1, hf => by
  rw [List.length_cons] at hd
  rw [List.cons_append, List.length_cons, List.length_append] at hf
  rw [List.cons_append]
  simp only [mP] at hx ⊢
  by_cases hb : b = 123
  · rw [if_pos hb] at hx ⊢
    have hne : r ≠ [] := by
     rintro rfl
     have e1 : (opN ([] : List Nat)).2 = [] := rfl
     rw [e1, expr_nil] at hx
     cases hx
    cases hex : exprN (r.length + 1) (opN r).2 with
    | none =>
     rw [hex] at hx
     cases hx
    | some p =>
     obtain ⟨vs, t⟩ := p
     rw [hex] at hx
     simp only at hx
     have hol := opN_length r
     have hsh := expr_shorter (by omega) hex
     rw [opN_more m hne]
     simp only
     rw [expr_more m _ ((r ++ m).length + 1) _ vs t hex (by rw [List.length_append, List.length_append]; omega)]
     simp only
     cases hm : mP d t with
     | none =>
      rw [hm] at hx
      cases hx
     | some ps =>
      rw [hm] at hx
      cases hx
      obtain ⟨z, z1, z2⟩ := mP_append d t ps (by omega) hm e m y he hy f (by rw [List.length_append]; omega)
      rw [z1]
      refine ⟨_, rfl, ?_⟩
      simp only [specsOf, List.flatMap_cons, List.append_assoc] at z2 ⊢
      rw [z2]
  · rw [if_neg hb] at hx ⊢
    by_cases hz : piecesN (r.length + 2) (b :: r) = 0
    · rw [if_pos hz] at hx
      cases hx
    · rw [if_neg hz] at hx
      obtain ⟨q1, -⟩ := pieces_top (r.length + 2) (b :: r)
      have hlast := pieces_last (r.length + 2) (b :: r) (by simp)
      have hmore := pieces_more m (r.length + 2) ((r ++ m).length + 2) (b :: r) (by simp) (by simp)
      rw [List.cons_append] at hmore
      generalize piecesN (r.length + 2) (b :: r) = n at *
      rw [List.length_cons] at q1
      cases hm : mP d ((b :: r).drop n) with
      | none =>
       rw [hm] at hx
       cases hx
      | some ps =>
       rw [hm] at hx
       cases hx
       have hnz : n + piecesN ((r ++ m).length + 2) ((b :: r).drop n ++ m) ≠ 0 := by omega
       rw [hmore, if_neg hnz]
       rcases after_pieces hm hlast with h0 | h0
       · have hn : n = r.length + 1 := by
          have := congrArg List.length h0
          rw [List.length_drop, List.length_cons, List.length_nil] at this
          omega
         rw [h0, List.nil_append]
         have hps : ps = [] := by
          rw [h0, mP_nil] at hm
          exact (Option.some.inj hm).symm
         have hdrop : (b :: (r ++ m)).drop (n + piecesN ((r ++ m).length + 2) m) = m.drop (piecesN ((r ++ m).length + 2) m) := by
          rw [← List.drop_drop, show (b :: (r ++ m)).drop n = m by rw [hn]; exact List.drop_left (l₁ := b :: r)]
         rw [hdrop]
         match m, e, he, hy with
         | [], _, _, hy =>
          rw [mP_nil] at hy
          cases hy
          rw [List.drop_nil, mP_nil]
          exact ⟨_, rfl, by simp [specsOf, hps]⟩
         | c :: u, 0, he, _ => simp at he
         | c :: u, e + 1, he, hy =>
          by_cases hc : c = 123
          · rw [pieces_brace _ (c :: u) (by rw [hc]; rfl), List.drop_zero, mP_fuel f (e + 1) (c :: u) (by omega) he, hy]
            exact ⟨_, rfl, by simp [specsOf, hps]⟩
          · simp only [mP] at hy
            rw [if_neg hc] at hy
            by_cases hz2 : piecesN (u.length + 2) (c :: u) = 0
            · rw [if_pos hz2] at hy
              cases hy
            · rw [if_neg hz2] at hy
              have hf2 : piecesN ((r ++ c :: u).length + 2) (c :: u) = piecesN (u.length + 2) (c :: u) := pieces_fuel _ _ _ (by simp; omega) (by simp)
              rw [hf2]
              cases hm2 : mP e ((c :: u).drop (piecesN (u.length + 2) (c :: u))) with
              | none =>
               rw [hm2] at hy
               cases hy
              | some qs =>
               rw [hm2] at hy
               cases hy
               rw [mP_fuel f e _ (by rw [List.length_drop]; omega) (by rw [List.length_drop]; omega), hm2]
               exact ⟨_, rfl, by simp [specsOf, hps]⟩
       · have hne : (b :: r).drop n ≠ [] := by
          intro g
          rw [g] at h0
          cases h0
         have hhead : ((b :: r).drop n ++ m).head? = some 123 := by
          rw [List.head?_append, h0]
          rfl
         rw [pieces_brace _ _ hhead, Nat.add_zero]
         have hdrop : (b :: (r ++ m)).drop n = (b :: r).drop n ++ m := by
          rw [← List.cons_append]
          exact List.drop_append_of_le_length (by rw [List.length_cons]; omega)
         rw [hdrop]
         obtain ⟨z, z1, z2⟩ := mP_append d ((b :: r).drop n) ps (by rw [List.length_drop, List.length_cons]; omega) hm e m y he hy f (by rw [List.length_append, List.length_drop, List.length_cons]; omega)
         rw [z1]
         refine ⟨_, rfl, ?_⟩
         simp only [specsOf, List.flatMap_cons, List.nil_append] at z2 ⊢
         exact z2
end Go.Proofs.YtkipkbggnfllkaaDoor.P
end
section
namespace Go.Proofs.YtkipkbggnfllkaaDoor.P
open Go.RowKit Go.Proofs.YtkipkbggnfllkaaDoorW.PrintWords Go.Proofs.YtkipkbggnfllkaaDoorW.PrintLast Go.Proofs.YtkipkbggnfllkaaDoorW.PrintMore
attribute [local go_sem] max2_int min2_int max_two min_two max_three min_three max_four min_four
set_option linter.unusedVariables false
set_option linter.unusedSimpArgs false
theorem eqA43 (d : Nat) (w : World) (x0 y0 : ByteArray) (x1 y1 : Int) (x2 y2 : Bool) :
 (Op.equalIn (d + 2) 43 (.agg #[.string x0, .int .i64 x1, .bool x2]) (.agg #[.string y0, .int .i64 y1, .bool y2])).run Tryd.prog w = .ok (x0.toList == y0.toList && (x1 == y1 && (x2 == y2))) w := by
 refine eqA_of Tryd.underlying43 (by kernel_rfl) ?_
 refine eqf_cons (by rfl) (by go_simp; rfl) (by go_simp; rfl) (by go_simp) ?_
 refine eqf_cons (by rfl) (by go_simp; rfl) (by go_simp; rfl) (by go_simp) ?_
 exact eqf_last (by rfl) (by go_simp; rfl) (by go_simp; rfl) (by go_simp)
end Go.Proofs.YtkipkbggnfllkaaDoor.P
end
