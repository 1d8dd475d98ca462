/- What is proved here is used by the law's card: FtmplMay, FexpandLiteral, ExPart0, ExPart1, ExAll, ExMono, Expr, Part, Parse, ProgVar, ProgParse, ProgMay, FewP, ExPure, ExProg, FewA, ParseMono, AwakeHand, ExBase, RefEnc, RefMay7, Fphalaropelaw12Exp. -/
import Derived.Test.YtlocbpaikdgmbaaGreatDoorCu4
import Derived.Lib.SliceRun
import Derived.Deep.RegionLaw
import Derived.RegionDies
import Derived.Defers
import Derived.Recover
import Derived.Tactics2
import Derived.Laws.Pointers
section
namespace Go.Proofs.YtlocbpaikdgmbaaGreatDoor.P
open Go.RowKit Go.Proofs.YtlocbpaikdgmbaaGreatDoorW.PrintWords Go.Proofs.YtlocbpaikdgmbaaGreatDoorW.PrintLast Go.Proofs.YtlocbpaikdgmbaaGreatDoorW.PrintMore
attribute [local go_sem] max2_int min2_int max_two min_two max_three min_three max_four min_four
set_option linter.unusedVariables false
set_option linter.unusedSimpArgs false
def tmpl_May.l0 : Nat → List (S31) → List (S31) → Int → Int → Option (Bool)
 | 0, _, _, _, _ => none
 | k + 1, x0, x5, x6, x7 => if x7 < x6 then (if 0 ≤ x7 then (if x7 < (x5.length : Int) then ((tmpl_fine.f ((rd_T31 x5 x7).f0) ((rd_T31 x5 x7).f1) ((rd_T31 x5 x7).f2)).bind fun t470 => (if t470 = true then (if x7 > 0 then (if (((rd_T31 x5 x7).f2).length : Int) = 0 then (if 0 ≤ (wrap64 (x7 - 1)) then (if (wrap64 (x7 - 1)) < (x0.length : Int) then (if (((rd_T31 x0 (wrap64 (x7 - 1))).f2).length : Int) = 0 then (some false) else (tmpl_May.l0 k x0 x5 x6 (wrap64 (x7 + 1)))) else (none)) else (none)) else (tmpl_May.l0 k x0 x5 x6 (wrap64 (x7 + 1)))) else (tmpl_May.l0 k x0 x5 x6 (wrap64 (x7 + 1)))) else (some false))) else (none)) else (none)) else (some true)
def tmpl_May.f (k : Nat) (l0 : List (S31)) : Option (Bool) := tmpl_May.l0 k l0 l0 (l0.length : Int) 0
set_option maxHeartbeats 8000000 in
set_option maxRecDepth 100000 in
theorem tmpl_May.calls (k : Nat) (A0 : Option Addr) (c0 : Nat) (l0 : List (S31)) (r : Bool) (w : World) (hr0 : Kd.C k31 w A0 l0.length l0) (hc0 : l0.length ≤ c0) (h : tmpl_May.f k l0 = some r) :
 Calls Tryz.prog 48 #[.slice A0 l0.length c0] w fun e w' => e = .returned (.bool r) ∧ Below w.heap.size w w' := by
 have hu31 := Tryz.underlying31
 have HR0 := Aside0.mk hr0
 have HC0 := Aside0.mk hc0
 clear hr0 hc0
 have HB := Aside0.mk (Below.refl w.heap.size w)
 have H : (tmpl_May.l0 k l0 l0 (l0.length : Int) 0) = some r := h
 clear h
 have H' := Aside0.mk H
 clear H
 go_enter Tryz.func48, Tryz.ntmps48
 go_wp2
 go_loopg [7] k (fun kq v7 w' => ∃ (x7_1 : Int), v7 = .int .i64 x7_1 ∧ Aside0 (tmpl_May.l0 kq l0 l0 (l0.length : Int) x7_1 = some r) ∧ Aside0 (kq ≤ k) ∧ Aside0 (Below w.heap.size w w'))
 case atStart => exact ⟨(0), (by first | rfl | (simp; done) | (simp [*]; done)), H', ⟨Nat.le_refl _⟩, ⟨by repeat (first | (with_reducible first | exact HB.out | apply below_alloc | apply pw_below_drewN | apply below_drew1) | exact HB.out)⟩⟩
 case round =>
  clear H'
  obtain ⟨x7_1, rfl, HA, HK1, HB⟩ := hrel
  cases gk with
  | zero => exact absurd HA.out (by simp [tmpl_May.l0])
  | succ k1 =>
   have H := HA.out
   clear HA
   simp only [tmpl_May.l0] at H
   by_cases c2 : x7_1 < (l0.length : Int)
   · rw [if_pos c2] at H
     have c2b0 : decide (x7_1 < (l0.length : Int)) = true := decide_eq_true c2
     clear c2
     by_cases c3 : 0 ≤ x7_1
     · rw [if_pos c3] at H
       have c3b0 : decide (0 ≤ x7_1) = true := decide_eq_true c3
       clear c3
       by_cases c4 : x7_1 < (l0.length : Int)
       · rw [if_pos c4] at H
         have c4b0 : decide (x7_1 < (l0.length : Int)) = true := decide_eq_true c4
         clear c4
         replace H := Option.bind_eq_some_iff.mp H
         obtain ⟨t470, A50, H⟩ := H
         replace H : (if t470 = true then (if x7_1 > 0 then (if (((rd_T31 l0 x7_1).f2).length : Int) = 0 then (if 0 ≤ (wrap64 (x7_1 - 1)) then (if (wrap64 (x7_1 - 1)) < (l0.length : Int) then (if (((rd_T31 l0 (wrap64 (x7_1 - 1))).f2).length : Int) = 0 then (some false) else (tmpl_May.l0 k1 l0 l0 (l0.length : Int) (wrap64 (x7_1 + 1)))) else (none)) else (none)) else (tmpl_May.l0 k1 l0 l0 (l0.length : Int) (wrap64 (x7_1 + 1)))) else (tmpl_May.l0 k1 l0 l0 (l0.length : Int) (wrap64 (x7_1 + 1)))) else (some false)) = some r := H
         have A5 := Aside0.mk A50
         clear A50
         by_cases c6 : t470 = true
         · subst c6
           have H1 : (if x7_1 > 0 then (if (((rd_T31 l0 x7_1).f2).length : Int) = 0 then (if 0 ≤ (wrap64 (x7_1 - 1)) then (if (wrap64 (x7_1 - 1)) < (l0.length : Int) then (if (((rd_T31 l0 (wrap64 (x7_1 - 1))).f2).length : Int) = 0 then (some false) else (tmpl_May.l0 k1 l0 l0 (l0.length : Int) (wrap64 (x7_1 + 1)))) else (none)) else (none)) else (tmpl_May.l0 k1 l0 l0 (l0.length : Int) (wrap64 (x7_1 + 1)))) else (tmpl_May.l0 k1 l0 l0 (l0.length : Int) (wrap64 (x7_1 + 1)))) = some r := by rw [if_pos rfl] at H; exact H
           clear H
           have H := H1
           clear H1
           by_cases c7 : x7_1 > 0
           · rw [if_pos c7] at H
             have c7b0 : decide (0 < x7_1) = true := decide_eq_true c7
             clear c7
             by_cases c8 : (((rd_T31 l0 x7_1).f2).length : Int) = 0
             · rw [if_pos c8] at H
               have c8b0 : ((((rd_T31 l0 x7_1).f2).length : Int) == 0) = true := beq_iff_eq.mpr c8
               have c8b1 : ((((rd_T31 l0 x7_1).f2).length : Int) != 0) = false := bne_eq_false_iff_eq.mpr c8
               clear c8
               obtain ⟨ji9, hji9⟩ : ∃ j_ : Int, (wrap64 (x7_1 - 1)) = j_ := ⟨_, rfl⟩
               replace H : (if 0 ≤ (ji9) then (if (ji9) < (l0.length : Int) then (if (((rd_T31 l0 (ji9)).f2).length : Int) = 0 then (some false) else (tmpl_May.l0 k1 l0 l0 (l0.length : Int) (wrap64 (x7_1 + 1)))) else (none)) else (none)) = some r := by first | (rw [hji9] at H; exact H) | (simp only [hji9] at H ⊢; exact H)
               (try rw [hji9] at A5)
               have hji9w : (IntKind.i64.wrap (x7_1 - 1)) = ji9 := (i64_w _).trans hji9
               by_cases c10 : 0 ≤ (ji9)
               · rw [if_pos c10] at H
                 have c10b0 : decide (0 ≤ (ji9)) = true := decide_eq_true c10
                 clear c10
                 by_cases c11 : (ji9) < (l0.length : Int)
                 · rw [if_pos c11] at H
                   have c11b0 : decide ((ji9) < (l0.length : Int)) = true := decide_eq_true c11
                   clear c11
                   by_cases c12 : (((rd_T31 l0 (ji9)).f2).length : Int) = 0
                   · rw [if_pos c12] at H
                     have c12b0 : ((((rd_T31 l0 (ji9)).f2).length : Int) == 0) = true := beq_iff_eq.mpr c12
                     have c12b1 : ((((rd_T31 l0 (ji9)).f2).length : Int) != 0) = false := bne_eq_false_iff_eq.mpr c12
                     clear c12
                     obtain rfl := Option.some.inj H
                     have p468 : 0 ≤ (x7_1 : Int) := of_decide_eq_true (by first | (with_reducible assumption) | assumption)
                     have q468 : x7_1 < (l0.length : Int) := of_decide_eq_true (by first | (with_reducible assumption) | assumption)
                     obtain ⟨ad468, A468_2, c468_2, e468, hx468_0, hx468_1, hx468_2, hl468_2, hi468_2⟩ := at_T31 HR0.out x7_1 p468 q468
                     cases e468
                     replace hx468_0 := (HB.out.cell (World.block_lt_of_cell? w _ hx468_0)).trans hx468_0
                     replace hx468_1 := (HB.out.cell (World.block_lt_of_cell? w _ hx468_1)).trans hx468_1
                     replace hx468_2 := (HB.out.cell (World.block_lt_of_cell? w _ hx468_2)).trans hx468_2
                     have HR468_2 := Aside0.mk hi468_2
                     have HC468_2 := Aside0.mk hl468_2
                     clear hi468_2 hl468_2
                     replace p468 := eq_true p468
                     replace q468 := eq_true q468
                     go_wp2_with (first | ((with_reducible refine gate_dst (N := 4) rfl ?_); (try (refine gate_guard (by rfl) ?_; dsimp only)); refine box_event ?hg (N := 4) ?hd (cs := #[.string (⟨#[]⟩ : ByteArray), .int .u8 0, .slice none 0 0]) (t := 31) ?hr ?_; (case hd => rfl); (case hg => rfl); (case hr => first | (go_simp; done) | (go_simp; rfl)); intro gb469 hg w13 hbox hb; have n0_ := Aside0.mk (below_step (by repeat (first | (with_reducible first | exact HB.out | apply below_alloc | apply pw_below_drewN | apply below_drew1) | exact HB.out)) hb); have n1_ := Aside0.mk (hbox); have n2_ := Aside0.mk ((by rw [hg]; exact (below_size (by repeat (first | (with_reducible first | exact HB.out | apply below_alloc | apply pw_below_drewN | apply below_drew1) | exact HB.out))) : w.heap.size ≤ gb469)); have n3_ := Aside0.mk ((by rw [hg]; exact (below_size (by repeat (first | (with_reducible first | exact HB.out | apply below_alloc | apply pw_below_drewN | apply below_drew1) | exact HB.out))) : w.heap.size ≤ gb469)); clear HB; have HB := n0_; have BK469 := n1_; have GW469 := n2_; have GE469 := n3_; clear n0_ n1_ n2_ n3_; clear hb hbox hg; have hcz14_0 : w13.cell? ⟨gb469, 0, none⟩ = some (.string (⟨#[]⟩ : ByteArray)) := (blk_cell BK469.out 0).trans rfl; have hcz14_1 : w13.cell? ⟨gb469, 1, none⟩ = some (.int .u8 0) := (blk_cell BK469.out 1).trans rfl; have hcz14_2 : w13.cell? ⟨gb469, 2, none⟩ = some (.slice none 0 0) := (blk_cell BK469.out 2).trans rfl; have hfz14_0 := blk_frozen BK469.out 0; have hfz14_1 := blk_frozen BK469.out 1; have hfz14_2 := blk_frozen BK469.out 2) | ((with_reducible refine gate_callee (f := 76) rfl ?_); refine goesL_ (some 13) rfl rfl Tryz.func76 (by kernel_rfl) rfl #[.agg #[.string ((rd_T31 l0 x7_1).f0), .int .u8 ((rd_T31 l0 x7_1).f1), .slice A468_2 ((rd_T31 l0 x7_1).f2).length c468_2]] rfl (by (try simp only [List.map_toArray, List.map_cons, List.map_nil]); first | done | rfl | (simp only [List.length_drop, List.length_take]; rfl)) ?_; (with_reducible refine (tmpl_fine.calls ((rd_T31 l0 x7_1).f0) ((rd_T31 l0 x7_1).f1) _ _ ((rd_T31 l0 x7_1).f2) true _ ?side1 ?side2 A5.out).mono ?_); (case side1 => exact Kd.C_below HR468_2.out (by repeat (first | (with_reducible first | exact HB.out | apply below_alloc | apply pw_below_drewN | apply below_drew1 | refine below_set ?_ GE469.out) | exact HB.out))); (case side2 => exact HC468_2.out); rintro e w15 ⟨rfl, hb⟩; refine ⟨_, rfl, ?_⟩; have n0_ := Aside0.mk (blk_below (g := gb469) (o := .cells #[.string ((rd_T31 l0 x7_1).f0), .int .u8 ((rd_T31 l0 x7_1).f1), .slice A468_2 ((rd_T31 l0 x7_1).f2).length c468_2] 31 (0, 0)) (by (with_reducible repeat (first | refine blk_drewN ?_ _ | refine blk_drew ?_ | refine blk_alloc ?_ _)); refine blk_put (cs := #[.string ((rd_T31 l0 x7_1).f0), .int .u8 ((rd_T31 l0 x7_1).f1), .slice none 0 0]) ?_ 2 _ rfl; (with_reducible repeat (first | refine blk_drewN ?_ _ | refine blk_drew ?_ | refine blk_alloc ?_ _)); refine blk_put (cs := #[.string ((rd_T31 l0 x7_1).f0), .int .u8 0, .slice none 0 0]) ?_ 1 _ rfl; (with_reducible repeat (first | refine blk_drewN ?_ _ | refine blk_drew ?_ | refine blk_alloc ?_ _)); refine blk_put (cs := #[.string (⟨#[]⟩ : ByteArray), .int .u8 0, .slice none 0 0]) ?_ 0 _ rfl; (with_reducible repeat (first | refine blk_drewN ?_ _ | refine blk_drew ?_ | refine blk_alloc ?_ _)); exact BK469.out) hb); have n1_ := Aside0.mk (below_step (by repeat (first | (with_reducible first | exact HB.out | apply below_alloc | apply pw_below_drewN | apply below_drew1 | refine below_set ?_ GE469.out) | exact HB.out)) hb); clear BK469; clear HB; have BK469 := n0_; have HB := n1_; clear n0_ n1_; (try clear hb); (try clear hb2); (try clear hk); (try clear hi); have hcz16_0 : w15.cell? ⟨gb469, 0, none⟩ = some (.string ((rd_T31 l0 x7_1).f0)) := (blk_cell BK469.out 0).trans rfl; have hcz16_1 : w15.cell? ⟨gb469, 1, none⟩ = some (.int .u8 ((rd_T31 l0 x7_1).f1)) := (blk_cell BK469.out 1).trans rfl; have hcz16_2 : w15.cell? ⟨gb469, 2, none⟩ = some (.slice A468_2 ((rd_T31 l0 x7_1).f2).length c468_2) := (blk_cell BK469.out 2).trans rfl; have hfz16_0 := blk_frozen BK469.out 0; have hfz16_1 := blk_frozen BK469.out 1; have hfz16_2 := blk_frozen BK469.out 2; have p471 : 0 ≤ ((ji9) : Int) := of_decide_eq_true (by first | (with_reducible assumption) | assumption); have q471 : (ji9) < (l0.length : Int) := of_decide_eq_true (by first | (with_reducible assumption) | assumption); obtain ⟨ad471, A471_2, c471_2, e471, hx471_0, hx471_1, hx471_2, hl471_2, hi471_2⟩ := at_T31 HR0.out (ji9) p471 q471; obtain rfl : ad468 = ad471 := (by injection e471); replace hx471_0 := (HB.out.cell (World.block_lt_of_cell? w _ hx471_0)).trans hx471_0; replace hx471_1 := (HB.out.cell (World.block_lt_of_cell? w _ hx471_1)).trans hx471_1; replace hx471_2 := (HB.out.cell (World.block_lt_of_cell? w _ hx471_2)).trans hx471_2; have HR471_2 := Aside0.mk hi471_2; have HC471_2 := Aside0.mk hl471_2; clear hi471_2 hl471_2; replace p471 := eq_true p471; replace q471 := eq_true q471))
                     go_ret
                     exact ⟨by first | rfl | (simp [errW_none, errW_some] <;> rfl) | (simp only [← hji9]; first | rfl | (simp [errW_none, errW_some] <;> rfl)) | (simp [*, errW_none, errW_some] <;> rfl), by repeat (first | (with_reducible first | exact HB.out | apply below_alloc | apply pw_below_drewN | apply below_drew1 | refine below_set ?_ GE469.out) | exact HB.out)⟩
                   · rw [if_neg c12] at H
                     have c12b0 : ((((rd_T31 l0 (ji9)).f2).length : Int) == 0) = false := beq_eq_false_iff_ne.mpr c12
                     have c12b1 : ((((rd_T31 l0 (ji9)).f2).length : Int) != 0) = true := bne_iff_ne.mpr c12
                     have c12b2 : ¬ (((rd_T31 l0 (ji9)).f2) = []) := fun h_ => c12 (by rw [h_]; rfl)
                     have H' := Aside0.mk H
                     clear H
                     have p468 : 0 ≤ (x7_1 : Int) := of_decide_eq_true (by first | (with_reducible assumption) | assumption)
                     have q468 : x7_1 < (l0.length : Int) := of_decide_eq_true (by first | (with_reducible assumption) | assumption)
                     obtain ⟨ad468, A468_2, c468_2, e468, hx468_0, hx468_1, hx468_2, hl468_2, hi468_2⟩ := at_T31 HR0.out x7_1 p468 q468
                     cases e468
                     replace hx468_0 := (HB.out.cell (World.block_lt_of_cell? w _ hx468_0)).trans hx468_0
                     replace hx468_1 := (HB.out.cell (World.block_lt_of_cell? w _ hx468_1)).trans hx468_1
                     replace hx468_2 := (HB.out.cell (World.block_lt_of_cell? w _ hx468_2)).trans hx468_2
                     have HR468_2 := Aside0.mk hi468_2
                     have HC468_2 := Aside0.mk hl468_2
                     clear hi468_2 hl468_2
                     replace p468 := eq_true p468
                     replace q468 := eq_true q468
                     go_wp2_with (first | ((with_reducible refine gate_dst (N := 4) rfl ?_); (try (refine gate_guard (by rfl) ?_; dsimp only)); refine box_event ?hg (N := 4) ?hd (cs := #[.string (⟨#[]⟩ : ByteArray), .int .u8 0, .slice none 0 0]) (t := 31) ?hr ?_; (case hd => rfl); (case hg => rfl); (case hr => first | (go_simp; done) | (go_simp; rfl)); intro gb469 hg w17 hbox hb; have n0_ := Aside0.mk (below_step (by repeat (first | (with_reducible first | exact HB.out | apply below_alloc | apply pw_below_drewN | apply below_drew1) | exact HB.out)) hb); have n1_ := Aside0.mk (hbox); have n2_ := Aside0.mk ((by rw [hg]; exact (below_size (by repeat (first | (with_reducible first | exact HB.out | apply below_alloc | apply pw_below_drewN | apply below_drew1) | exact HB.out))) : w.heap.size ≤ gb469)); have n3_ := Aside0.mk ((by rw [hg]; exact (below_size (by repeat (first | (with_reducible first | exact HB.out | apply below_alloc | apply pw_below_drewN | apply below_drew1) | exact HB.out))) : w.heap.size ≤ gb469)); clear HB; have HB := n0_; have BK469 := n1_; have GW469 := n2_; have GE469 := n3_; clear n0_ n1_ n2_ n3_; clear hb hbox hg; have hcz18_0 : w17.cell? ⟨gb469, 0, none⟩ = some (.string (⟨#[]⟩ : ByteArray)) := (blk_cell BK469.out 0).trans rfl; have hcz18_1 : w17.cell? ⟨gb469, 1, none⟩ = some (.int .u8 0) := (blk_cell BK469.out 1).trans rfl; have hcz18_2 : w17.cell? ⟨gb469, 2, none⟩ = some (.slice none 0 0) := (blk_cell BK469.out 2).trans rfl; have hfz18_0 := blk_frozen BK469.out 0; have hfz18_1 := blk_frozen BK469.out 1; have hfz18_2 := blk_frozen BK469.out 2) | ((with_reducible refine gate_callee (f := 76) rfl ?_); refine goesL_ (some 13) rfl rfl Tryz.func76 (by kernel_rfl) rfl #[.agg #[.string ((rd_T31 l0 x7_1).f0), .int .u8 ((rd_T31 l0 x7_1).f1), .slice A468_2 ((rd_T31 l0 x7_1).f2).length c468_2]] rfl (by (try simp only [List.map_toArray, List.map_cons, List.map_nil]); first | done | rfl | (simp only [List.length_drop, List.length_take]; rfl)) ?_; (with_reducible refine (tmpl_fine.calls ((rd_T31 l0 x7_1).f0) ((rd_T31 l0 x7_1).f1) _ _ ((rd_T31 l0 x7_1).f2) true _ ?side1 ?side2 A5.out).mono ?_); (case side1 => exact Kd.C_below HR468_2.out (by repeat (first | (with_reducible first | exact HB.out | apply below_alloc | apply pw_below_drewN | apply below_drew1 | refine below_set ?_ GE469.out) | exact HB.out))); (case side2 => exact HC468_2.out); rintro e w19 ⟨rfl, hb⟩; refine ⟨_, rfl, ?_⟩; have n0_ := Aside0.mk (blk_below (g := gb469) (o := .cells #[.string ((rd_T31 l0 x7_1).f0), .int .u8 ((rd_T31 l0 x7_1).f1), .slice A468_2 ((rd_T31 l0 x7_1).f2).length c468_2] 31 (0, 0)) (by (with_reducible repeat (first | refine blk_drewN ?_ _ | refine blk_drew ?_ | refine blk_alloc ?_ _)); refine blk_put (cs := #[.string ((rd_T31 l0 x7_1).f0), .int .u8 ((rd_T31 l0 x7_1).f1), .slice none 0 0]) ?_ 2 _ rfl; (with_reducible repeat (first | refine blk_drewN ?_ _ | refine blk_drew ?_ | refine blk_alloc ?_ _)); refine blk_put (cs := #[.string ((rd_T31 l0 x7_1).f0), .int .u8 0, .slice none 0 0]) ?_ 1 _ rfl; (with_reducible repeat (first | refine blk_drewN ?_ _ | refine blk_drew ?_ | refine blk_alloc ?_ _)); refine blk_put (cs := #[.string (⟨#[]⟩ : ByteArray), .int .u8 0, .slice none 0 0]) ?_ 0 _ rfl; (with_reducible repeat (first | refine blk_drewN ?_ _ | refine blk_drew ?_ | refine blk_alloc ?_ _)); exact BK469.out) hb); have n1_ := Aside0.mk (below_step (by repeat (first | (with_reducible first | exact HB.out | apply below_alloc | apply pw_below_drewN | apply below_drew1 | refine below_set ?_ GE469.out) | exact HB.out)) hb); clear BK469; clear HB; have BK469 := n0_; have HB := n1_; clear n0_ n1_; (try clear hb); (try clear hb2); (try clear hk); (try clear hi); have hcz20_0 : w19.cell? ⟨gb469, 0, none⟩ = some (.string ((rd_T31 l0 x7_1).f0)) := (blk_cell BK469.out 0).trans rfl; have hcz20_1 : w19.cell? ⟨gb469, 1, none⟩ = some (.int .u8 ((rd_T31 l0 x7_1).f1)) := (blk_cell BK469.out 1).trans rfl; have hcz20_2 : w19.cell? ⟨gb469, 2, none⟩ = some (.slice A468_2 ((rd_T31 l0 x7_1).f2).length c468_2) := (blk_cell BK469.out 2).trans rfl; have hfz20_0 := blk_frozen BK469.out 0; have hfz20_1 := blk_frozen BK469.out 1; have hfz20_2 := blk_frozen BK469.out 2; have p471 : 0 ≤ ((ji9) : Int) := of_decide_eq_true (by first | (with_reducible assumption) | assumption); have q471 : (ji9) < (l0.length : Int) := of_decide_eq_true (by first | (with_reducible assumption) | assumption); obtain ⟨ad471, A471_2, c471_2, e471, hx471_0, hx471_1, hx471_2, hl471_2, hi471_2⟩ := at_T31 HR0.out (ji9) p471 q471; obtain rfl : ad468 = ad471 := (by injection e471); replace hx471_0 := (HB.out.cell (World.block_lt_of_cell? w _ hx471_0)).trans hx471_0; replace hx471_1 := (HB.out.cell (World.block_lt_of_cell? w _ hx471_1)).trans hx471_1; replace hx471_2 := (HB.out.cell (World.block_lt_of_cell? w _ hx471_2)).trans hx471_2; have HR471_2 := Aside0.mk hi471_2; have HC471_2 := Aside0.mk hl471_2; clear hi471_2 hl471_2; replace p471 := eq_true p471; replace q471 := eq_true q471))
                     go_roundg k1
                     case measure => have := HK1.out; omega
                     case rel => exact ⟨(wrap64 (x7_1 + 1)), (by first | rfl | (simp; done) | (simp [*]; done)), H', ⟨by have := HK1.out; omega⟩, ⟨by repeat (first | (with_reducible first | exact HB.out | apply below_alloc | apply pw_below_drewN | apply below_drew1 | refine below_set ?_ GE469.out) | exact HB.out)⟩⟩
                 · rw [if_neg c11] at H
                   exact absurd H (by simp)
               · rw [if_neg c10] at H
                 exact absurd H (by simp)
             · rw [if_neg c8] at H
               have c8b0 : ((((rd_T31 l0 x7_1).f2).length : Int) == 0) = false := beq_eq_false_iff_ne.mpr c8
               have c8b1 : ((((rd_T31 l0 x7_1).f2).length : Int) != 0) = true := bne_iff_ne.mpr c8
               have c8b2 : ¬ (((rd_T31 l0 x7_1).f2) = []) := fun h_ => c8 (by rw [h_]; rfl)
               have H' := Aside0.mk H
               clear H
               have p468 : 0 ≤ (x7_1 : Int) := of_decide_eq_true (by first | (with_reducible assumption) | assumption)
               have q468 : x7_1 < (l0.length : Int) := of_decide_eq_true (by first | (with_reducible assumption) | assumption)
               obtain ⟨ad468, A468_2, c468_2, e468, hx468_0, hx468_1, hx468_2, hl468_2, hi468_2⟩ := at_T31 HR0.out x7_1 p468 q468
               cases e468
               replace hx468_0 := (HB.out.cell (World.block_lt_of_cell? w _ hx468_0)).trans hx468_0
               replace hx468_1 := (HB.out.cell (World.block_lt_of_cell? w _ hx468_1)).trans hx468_1
               replace hx468_2 := (HB.out.cell (World.block_lt_of_cell? w _ hx468_2)).trans hx468_2
               have HR468_2 := Aside0.mk hi468_2
               have HC468_2 := Aside0.mk hl468_2
               clear hi468_2 hl468_2
               replace p468 := eq_true p468
               replace q468 := eq_true q468
               go_wp2_with (first | ((with_reducible refine gate_dst (N := 4) rfl ?_); (try (refine gate_guard (by rfl) ?_; dsimp only)); refine box_event ?hg (N := 4) ?hd (cs := #[.string (⟨#[]⟩ : ByteArray), .int .u8 0, .slice none 0 0]) (t := 31) ?hr ?_; (case hd => rfl); (case hg => rfl); (case hr => first | (go_simp; done) | (go_simp; rfl)); intro gb469 hg w21 hbox hb; have n0_ := Aside0.mk (below_step (by repeat (first | (with_reducible first | exact HB.out | apply below_alloc | apply pw_below_drewN | apply below_drew1) | exact HB.out)) hb); have n1_ := Aside0.mk (hbox); have n2_ := Aside0.mk ((by rw [hg]; exact (below_size (by repeat (first | (with_reducible first | exact HB.out | apply below_alloc | apply pw_below_drewN | apply below_drew1) | exact HB.out))) : w.heap.size ≤ gb469)); have n3_ := Aside0.mk ((by rw [hg]; exact (below_size (by repeat (first | (with_reducible first | exact HB.out | apply below_alloc | apply pw_below_drewN | apply below_drew1) | exact HB.out))) : w.heap.size ≤ gb469)); clear HB; have HB := n0_; have BK469 := n1_; have GW469 := n2_; have GE469 := n3_; clear n0_ n1_ n2_ n3_; clear hb hbox hg; have hcz22_0 : w21.cell? ⟨gb469, 0, none⟩ = some (.string (⟨#[]⟩ : ByteArray)) := (blk_cell BK469.out 0).trans rfl; have hcz22_1 : w21.cell? ⟨gb469, 1, none⟩ = some (.int .u8 0) := (blk_cell BK469.out 1).trans rfl; have hcz22_2 : w21.cell? ⟨gb469, 2, none⟩ = some (.slice none 0 0) := (blk_cell BK469.out 2).trans rfl; have hfz22_0 := blk_frozen BK469.out 0; have hfz22_1 := blk_frozen BK469.out 1; have hfz22_2 := blk_frozen BK469.out 2) | ((with_reducible refine gate_callee (f := 76) rfl ?_); refine goesL_ (some 13) rfl rfl Tryz.func76 (by kernel_rfl) rfl #[.agg #[.string ((rd_T31 l0 x7_1).f0), .int .u8 ((rd_T31 l0 x7_1).f1), .slice A468_2 ((rd_T31 l0 x7_1).f2).length c468_2]] rfl (by (try simp only [List.map_toArray, List.map_cons, List.map_nil]); first | done | rfl | (simp only [List.length_drop, List.length_take]; rfl)) ?_; (with_reducible refine (tmpl_fine.calls ((rd_T31 l0 x7_1).f0) ((rd_T31 l0 x7_1).f1) _ _ ((rd_T31 l0 x7_1).f2) true _ ?side1 ?side2 A5.out).mono ?_); (case side1 => exact Kd.C_below HR468_2.out (by repeat (first | (with_reducible first | exact HB.out | apply below_alloc | apply pw_below_drewN | apply below_drew1 | refine below_set ?_ GE469.out) | exact HB.out))); (case side2 => exact HC468_2.out); rintro e w23 ⟨rfl, hb⟩; refine ⟨_, rfl, ?_⟩; have n0_ := Aside0.mk (blk_below (g := gb469) (o := .cells #[.string ((rd_T31 l0 x7_1).f0), .int .u8 ((rd_T31 l0 x7_1).f1), .slice A468_2 ((rd_T31 l0 x7_1).f2).length c468_2] 31 (0, 0)) (by (with_reducible repeat (first | refine blk_drewN ?_ _ | refine blk_drew ?_ | refine blk_alloc ?_ _)); refine blk_put (cs := #[.string ((rd_T31 l0 x7_1).f0), .int .u8 ((rd_T31 l0 x7_1).f1), .slice none 0 0]) ?_ 2 _ rfl; (with_reducible repeat (first | refine blk_drewN ?_ _ | refine blk_drew ?_ | refine blk_alloc ?_ _)); refine blk_put (cs := #[.string ((rd_T31 l0 x7_1).f0), .int .u8 0, .slice none 0 0]) ?_ 1 _ rfl; (with_reducible repeat (first | refine blk_drewN ?_ _ | refine blk_drew ?_ | refine blk_alloc ?_ _)); refine blk_put (cs := #[.string (⟨#[]⟩ : ByteArray), .int .u8 0, .slice none 0 0]) ?_ 0 _ rfl; (with_reducible repeat (first | refine blk_drewN ?_ _ | refine blk_drew ?_ | refine blk_alloc ?_ _)); exact BK469.out) hb); have n1_ := Aside0.mk (below_step (by repeat (first | (with_reducible first | exact HB.out | apply below_alloc | apply pw_below_drewN | apply below_drew1 | refine below_set ?_ GE469.out) | exact HB.out)) hb); clear BK469; clear HB; have BK469 := n0_; have HB := n1_; clear n0_ n1_; (try clear hb); (try clear hb2); (try clear hk); (try clear hi); have hcz24_0 : w23.cell? ⟨gb469, 0, none⟩ = some (.string ((rd_T31 l0 x7_1).f0)) := (blk_cell BK469.out 0).trans rfl; have hcz24_1 : w23.cell? ⟨gb469, 1, none⟩ = some (.int .u8 ((rd_T31 l0 x7_1).f1)) := (blk_cell BK469.out 1).trans rfl; have hcz24_2 : w23.cell? ⟨gb469, 2, none⟩ = some (.slice A468_2 ((rd_T31 l0 x7_1).f2).length c468_2) := (blk_cell BK469.out 2).trans rfl; have hfz24_0 := blk_frozen BK469.out 0; have hfz24_1 := blk_frozen BK469.out 1; have hfz24_2 := blk_frozen BK469.out 2))
               go_roundg k1
               case measure => have := HK1.out; omega
               case rel => exact ⟨(wrap64 (x7_1 + 1)), (by first | rfl | (simp; done) | (simp [*]; done)), H', ⟨by have := HK1.out; omega⟩, ⟨by repeat (first | (with_reducible first | exact HB.out | apply below_alloc | apply pw_below_drewN | apply below_drew1 | refine below_set ?_ GE469.out) | exact HB.out)⟩⟩
           · rw [if_neg c7] at H
             have c7b0 : decide (0 < x7_1) = false := decide_eq_false c7
             clear c7
             have H' := Aside0.mk H
             clear H
             have p468 : 0 ≤ (x7_1 : Int) := of_decide_eq_true (by first | (with_reducible assumption) | assumption)
             have q468 : x7_1 < (l0.length : Int) := of_decide_eq_true (by first | (with_reducible assumption) | assumption)
             obtain ⟨ad468, A468_2, c468_2, e468, hx468_0, hx468_1, hx468_2, hl468_2, hi468_2⟩ := at_T31 HR0.out x7_1 p468 q468
             cases e468
             replace hx468_0 := (HB.out.cell (World.block_lt_of_cell? w _ hx468_0)).trans hx468_0
             replace hx468_1 := (HB.out.cell (World.block_lt_of_cell? w _ hx468_1)).trans hx468_1
             replace hx468_2 := (HB.out.cell (World.block_lt_of_cell? w _ hx468_2)).trans hx468_2
             have HR468_2 := Aside0.mk hi468_2
             have HC468_2 := Aside0.mk hl468_2
             clear hi468_2 hl468_2
             replace p468 := eq_true p468
             replace q468 := eq_true q468
             go_wp2_with (first | ((with_reducible refine gate_dst (N := 4) rfl ?_); (try (refine gate_guard (by rfl) ?_; dsimp only)); refine box_event ?hg (N := 4) ?hd (cs := #[.string (⟨#[]⟩ : ByteArray), .int .u8 0, .slice none 0 0]) (t := 31) ?hr ?_; (case hd => rfl); (case hg => rfl); (case hr => first | (go_simp; done) | (go_simp; rfl)); intro gb469 hg w25 hbox hb; have n0_ := Aside0.mk (below_step (by repeat (first | (with_reducible first | exact HB.out | apply below_alloc | apply pw_below_drewN | apply below_drew1) | exact HB.out)) hb); have n1_ := Aside0.mk (hbox); have n2_ := Aside0.mk ((by rw [hg]; exact (below_size (by repeat (first | (with_reducible first | exact HB.out | apply below_alloc | apply pw_below_drewN | apply below_drew1) | exact HB.out))) : w.heap.size ≤ gb469)); have n3_ := Aside0.mk ((by rw [hg]; exact (below_size (by repeat (first | (with_reducible first | exact HB.out | apply below_alloc | apply pw_below_drewN | apply below_drew1) | exact HB.out))) : w.heap.size ≤ gb469)); clear HB; have HB := n0_; have BK469 := n1_; have GW469 := n2_; have GE469 := n3_; clear n0_ n1_ n2_ n3_; clear hb hbox hg; have hcz26_0 : w25.cell? ⟨gb469, 0, none⟩ = some (.string (⟨#[]⟩ : ByteArray)) := (blk_cell BK469.out 0).trans rfl; have hcz26_1 : w25.cell? ⟨gb469, 1, none⟩ = some (.int .u8 0) := (blk_cell BK469.out 1).trans rfl; have hcz26_2 : w25.cell? ⟨gb469, 2, none⟩ = some (.slice none 0 0) := (blk_cell BK469.out 2).trans rfl; have hfz26_0 := blk_frozen BK469.out 0; have hfz26_1 := blk_frozen BK469.out 1; have hfz26_2 := blk_frozen BK469.out 2) | ((with_reducible refine gate_callee (f := 76) rfl ?_); refine goesL_ (some 13) rfl rfl Tryz.func76 (by kernel_rfl) rfl #[.agg #[.string ((rd_T31 l0 x7_1).f0), .int .u8 ((rd_T31 l0 x7_1).f1), .slice A468_2 ((rd_T31 l0 x7_1).f2).length c468_2]] rfl (by (try simp only [List.map_toArray, List.map_cons, List.map_nil]); first | done | rfl | (simp only [List.length_drop, List.length_take]; rfl)) ?_; (with_reducible refine (tmpl_fine.calls ((rd_T31 l0 x7_1).f0) ((rd_T31 l0 x7_1).f1) _ _ ((rd_T31 l0 x7_1).f2) true _ ?side1 ?side2 A5.out).mono ?_); (case side1 => exact Kd.C_below HR468_2.out (by repeat (first | (with_reducible first | exact HB.out | apply below_alloc | apply pw_below_drewN | apply below_drew1 | refine below_set ?_ GE469.out) | exact HB.out))); (case side2 => exact HC468_2.out); rintro e w27 ⟨rfl, hb⟩; refine ⟨_, rfl, ?_⟩; have n0_ := Aside0.mk (blk_below (g := gb469) (o := .cells #[.string ((rd_T31 l0 x7_1).f0), .int .u8 ((rd_T31 l0 x7_1).f1), .slice A468_2 ((rd_T31 l0 x7_1).f2).length c468_2] 31 (0, 0)) (by (with_reducible repeat (first | refine blk_drewN ?_ _ | refine blk_drew ?_ | refine blk_alloc ?_ _)); refine blk_put (cs := #[.string ((rd_T31 l0 x7_1).f0), .int .u8 ((rd_T31 l0 x7_1).f1), .slice none 0 0]) ?_ 2 _ rfl; (with_reducible repeat (first | refine blk_drewN ?_ _ | refine blk_drew ?_ | refine blk_alloc ?_ _)); refine blk_put (cs := #[.string ((rd_T31 l0 x7_1).f0), .int .u8 0, .slice none 0 0]) ?_ 1 _ rfl; (with_reducible repeat (first | refine blk_drewN ?_ _ | refine blk_drew ?_ | refine blk_alloc ?_ _)); refine blk_put (cs := #[.string (⟨#[]⟩ : ByteArray), .int .u8 0, .slice none 0 0]) ?_ 0 _ rfl; (with_reducible repeat (first | refine blk_drewN ?_ _ | refine blk_drew ?_ | refine blk_alloc ?_ _)); exact BK469.out) hb); have n1_ := Aside0.mk (below_step (by repeat (first | (with_reducible first | exact HB.out | apply below_alloc | apply pw_below_drewN | apply below_drew1 | refine below_set ?_ GE469.out) | exact HB.out)) hb); clear BK469; clear HB; have BK469 := n0_; have HB := n1_; clear n0_ n1_; (try clear hb); (try clear hb2); (try clear hk); (try clear hi)))
             go_roundg k1
             case measure => have := HK1.out; omega
             case rel => exact ⟨(wrap64 (x7_1 + 1)), (by first | rfl | (simp; done) | (simp [*]; done)), H', ⟨by have := HK1.out; omega⟩, ⟨by repeat (first | (with_reducible first | exact HB.out | apply below_alloc | apply pw_below_drewN | apply below_drew1 | refine below_set ?_ GE469.out) | exact HB.out)⟩⟩
         · replace c6 := Bool.eq_false_iff.mpr c6
           subst c6
           have H1 : (some false) = some r := by rw [if_neg (show ¬ (false = true) by decide)] at H; exact H
           clear H
           have H := H1
           clear H1
           obtain rfl := Option.some.inj H
           have p468 : 0 ≤ (x7_1 : Int) := of_decide_eq_true (by first | (with_reducible assumption) | assumption)
           have q468 : x7_1 < (l0.length : Int) := of_decide_eq_true (by first | (with_reducible assumption) | assumption)
           obtain ⟨ad468, A468_2, c468_2, e468, hx468_0, hx468_1, hx468_2, hl468_2, hi468_2⟩ := at_T31 HR0.out x7_1 p468 q468
           cases e468
           replace hx468_0 := (HB.out.cell (World.block_lt_of_cell? w _ hx468_0)).trans hx468_0
           replace hx468_1 := (HB.out.cell (World.block_lt_of_cell? w _ hx468_1)).trans hx468_1
           replace hx468_2 := (HB.out.cell (World.block_lt_of_cell? w _ hx468_2)).trans hx468_2
           have HR468_2 := Aside0.mk hi468_2
           have HC468_2 := Aside0.mk hl468_2
           clear hi468_2 hl468_2
           replace p468 := eq_true p468
           replace q468 := eq_true q468
           go_wp2_with (first | ((with_reducible refine gate_dst (N := 4) rfl ?_); (try (refine gate_guard (by rfl) ?_; dsimp only)); refine box_event ?hg (N := 4) ?hd (cs := #[.string (⟨#[]⟩ : ByteArray), .int .u8 0, .slice none 0 0]) (t := 31) ?hr ?_; (case hd => rfl); (case hg => rfl); (case hr => first | (go_simp; done) | (go_simp; rfl)); intro gb469 hg w28 hbox hb; have n0_ := Aside0.mk (below_step (by repeat (first | (with_reducible first | exact HB.out | apply below_alloc | apply pw_below_drewN | apply below_drew1) | exact HB.out)) hb); have n1_ := Aside0.mk (hbox); have n2_ := Aside0.mk ((by rw [hg]; exact (below_size (by repeat (first | (with_reducible first | exact HB.out | apply below_alloc | apply pw_below_drewN | apply below_drew1) | exact HB.out))) : w.heap.size ≤ gb469)); have n3_ := Aside0.mk ((by rw [hg]; exact (below_size (by repeat (first | (with_reducible first | exact HB.out | apply below_alloc | apply pw_below_drewN | apply below_drew1) | exact HB.out))) : w.heap.size ≤ gb469)); clear HB; have HB := n0_; have BK469 := n1_; have GW469 := n2_; have GE469 := n3_; clear n0_ n1_ n2_ n3_; clear hb hbox hg; have hcz29_0 : w28.cell? ⟨gb469, 0, none⟩ = some (.string (⟨#[]⟩ : ByteArray)) := (blk_cell BK469.out 0).trans rfl; have hcz29_1 : w28.cell? ⟨gb469, 1, none⟩ = some (.int .u8 0) := (blk_cell BK469.out 1).trans rfl; have hcz29_2 : w28.cell? ⟨gb469, 2, none⟩ = some (.slice none 0 0) := (blk_cell BK469.out 2).trans rfl; have hfz29_0 := blk_frozen BK469.out 0; have hfz29_1 := blk_frozen BK469.out 1; have hfz29_2 := blk_frozen BK469.out 2) | ((with_reducible refine gate_callee (f := 76) rfl ?_); refine goesL_ (some 13) rfl rfl Tryz.func76 (by kernel_rfl) rfl #[.agg #[.string ((rd_T31 l0 x7_1).f0), .int .u8 ((rd_T31 l0 x7_1).f1), .slice A468_2 ((rd_T31 l0 x7_1).f2).length c468_2]] rfl (by (try simp only [List.map_toArray, List.map_cons, List.map_nil]); first | done | rfl | (simp only [List.length_drop, List.length_take]; rfl)) ?_; (with_reducible refine (tmpl_fine.calls ((rd_T31 l0 x7_1).f0) ((rd_T31 l0 x7_1).f1) _ _ ((rd_T31 l0 x7_1).f2) false _ ?side1 ?side2 A5.out).mono ?_); (case side1 => exact Kd.C_below HR468_2.out (by repeat (first | (with_reducible first | exact HB.out | apply below_alloc | apply pw_below_drewN | apply below_drew1 | refine below_set ?_ GE469.out) | exact HB.out))); (case side2 => exact HC468_2.out); rintro e w30 ⟨rfl, hb⟩; refine ⟨_, rfl, ?_⟩; have n0_ := Aside0.mk (blk_below (g := gb469) (o := .cells #[.string ((rd_T31 l0 x7_1).f0), .int .u8 ((rd_T31 l0 x7_1).f1), .slice A468_2 ((rd_T31 l0 x7_1).f2).length c468_2] 31 (0, 0)) (by (with_reducible repeat (first | refine blk_drewN ?_ _ | refine blk_drew ?_ | refine blk_alloc ?_ _)); refine blk_put (cs := #[.string ((rd_T31 l0 x7_1).f0), .int .u8 ((rd_T31 l0 x7_1).f1), .slice none 0 0]) ?_ 2 _ rfl; (with_reducible repeat (first | refine blk_drewN ?_ _ | refine blk_drew ?_ | refine blk_alloc ?_ _)); refine blk_put (cs := #[.string ((rd_T31 l0 x7_1).f0), .int .u8 0, .slice none 0 0]) ?_ 1 _ rfl; (with_reducible repeat (first | refine blk_drewN ?_ _ | refine blk_drew ?_ | refine blk_alloc ?_ _)); refine blk_put (cs := #[.string (⟨#[]⟩ : ByteArray), .int .u8 0, .slice none 0 0]) ?_ 0 _ rfl; (with_reducible repeat (first | refine blk_drewN ?_ _ | refine blk_drew ?_ | refine blk_alloc ?_ _)); exact BK469.out) hb); have n1_ := Aside0.mk (below_step (by repeat (first | (with_reducible first | exact HB.out | apply below_alloc | apply pw_below_drewN | apply below_drew1 | refine below_set ?_ GE469.out) | exact HB.out)) hb); clear BK469; clear HB; have BK469 := n0_; have HB := n1_; clear n0_ n1_; (try clear hb); (try clear hb2); (try clear hk); (try clear hi)))
           go_ret
           exact ⟨by first | rfl | (simp [errW_none, errW_some] <;> rfl) | (simp [*, errW_none, errW_some] <;> rfl), by repeat (first | (with_reducible first | exact HB.out | apply below_alloc | apply pw_below_drewN | apply below_drew1 | refine below_set ?_ GE469.out) | exact HB.out)⟩
       · rw [if_neg c4] at H
         exact absurd H (by simp)
     · rw [if_neg c3] at H
       exact absurd H (by simp)
   · rw [if_neg c2] at H
     have c2b0 : decide (x7_1 < (l0.length : Int)) = false := decide_eq_false c2
     clear c2
     obtain rfl := Option.some.inj H
     go_wp2
     go_ret
     exact ⟨by first | rfl | (simp [errW_none, errW_some] <;> rfl) | (simp [*, errW_none, errW_some] <;> rfl), by repeat (first | (with_reducible first | exact HB.out | apply below_alloc | apply pw_below_drewN | apply below_drew1) | exact HB.out)⟩
def expand_Literal.f (a0 : ByteArray) : Option (ByteArray) := (pct_Encode.f a0 true).bind fun t343 => (some t343)
set_option maxHeartbeats 8000000 in
set_option maxRecDepth 100000 in
theorem expand_Literal.calls (a0 : ByteArray) (r : ByteArray) (w : World) (h : expand_Literal.f a0 = some r) :
 Calls Tryz.prog 20 #[.string a0] w fun e w' => e = .returned (.string r) ∧ Below w.heap.size w w' := by
 have HB := Aside0.mk (Below.refl w.heap.size w)
 have H : ((pct_Encode.f a0 true).bind fun t343 => (some t343)) = some r := h
 clear h
 replace H := Option.bind_eq_some_iff.mp H
 obtain ⟨t343, A20, H⟩ := H
 replace H : (some t343) = some r := H
 have A2 := Aside0.mk A20
 clear A20
 obtain rfl := Option.some.inj H
 go_enter Tryz.func20, Tryz.ntmps20
 go_wp2_with (first | ((with_reducible refine gate_callee (f := 53) rfl ?_); refine goesL_ (some 4) rfl rfl Tryz.func53 (by kernel_rfl) rfl #[.string a0, .bool true] rfl (by (try simp only [List.map_toArray, List.map_cons, List.map_nil]); first | done | rfl | (simp only [List.length_drop, List.length_take]; rfl)) ?_; (with_reducible refine (pct_Encode.calls a0 true t343 _ A2.out).mono ?_); rintro e w3 ⟨rfl, hb⟩; refine ⟨_, rfl, ?_⟩; have n0_ := Aside0.mk (below_step (by repeat (first | (with_reducible first | exact HB.out | apply below_alloc | apply pw_below_drewN | apply below_drew1) | exact HB.out)) hb); clear HB; have HB := n0_; clear n0_; (try clear hb); (try clear hb2); (try clear hk); (try clear hi)))
 go_ret
 exact ⟨by first | rfl | (simp [errW_none, errW_some] <;> rfl) | (simp [*, errW_none, errW_some] <;> rfl), by repeat (first | (with_reducible first | exact HB.out | apply below_alloc | apply pw_below_drewN | apply below_drew1) | exact HB.out)⟩
end Go.Proofs.YtlocbpaikdgmbaaGreatDoor.P
end
section
namespace Go.Proofs.YtlocbpaikdgmbaaGreatDoor.P
open Go Go.RowKit Go.Shelf Go.Proofs.YtlocbpaikdgmbaaGreatDoorW.PrintWords Go.Proofs.YtlocbpaikdgmbaaGreatDoorW.PrintLast Go.Proofs.YtlocbpaikdgmbaaGreatDoorW.PrintMore
set_option linter.unusedVariables false
set_option linter.unusedSimpArgs false
attribute [local go_sem] Oper.semAt_some
theorem C_lit1 {α : Type} (d : Kd α) (W : World) (e : TypeId) {x : α} {cs : List Value} (h : d.K W x cs) : d.C (W.alloc (.cells cs.toArray e)) (some ⟨W.heap.size, 0, none⟩) 1 [x] := by
 have hr : Reps (d.K W) d.sz [x] cs := by
  have := Reps.snoc (Reps.none (d.K W) d.sz) h (d.K_len h)
  simpa using this
 obtain ⟨A, c, e1, _, hrow⟩ := (OwnRow.lit (e := e) W 0 hr (Nat.zero_le _) (by simp)).reads
 cases e1
 exact hrow.imp_ (Below.refl _ _) (fun p c hp => d.K_below ((Below.refl _ _).alloc (Nat.le_refl _) _) hp)
theorem wpListIn_of_wpList {P : Program} {ops : Array Oper} {Q : Exit → Act → World → Prop} {l n : Nat} (hQ : ¬ LetsOut Q) : ∀ (rest : List Oper) (a : Act) (w : World), (∀ o ∈ rest, ∀ c, o.op ≠ .defer c) → wpList P ops Q rest a w → wpListIn (Fence.wide.inRound l) n P ops Q rest a w
 | [], _, _, _, h => h
 | o :: rest, a, w, hd, h => by
  unfold wpList at h
  unfold wpListIn
  split
  · rename_i hw
    rw [if_pos hw] at h
    rcases h with h | ⟨-, h⟩
    · exact wpIn_of_op (hd o List.mem_cons_self) (Oper.wp_mono (fun a' w' h' => wpListIn_of_wpList hQ rest a' w' (fun o ho => hd o (List.mem_cons_of_mem _ ho)) h') h)
    · exact absurd h hQ
  · rename_i hw
    rw [if_neg hw] at h
    exact ⟨fun _ _ => trivial, wpListIn_of_wpList hQ rest _ w (fun o ho => hd o (List.mem_cons_of_mem _ ho)) h⟩
def partEnds (R : RuleS) (xs : List (ByteArray × Int)) : Option (ByteArray × Int) :=
 match xs.find? fun x => x.2 != 0 with
 | some x => some (⟨#[]⟩, x.2)
 | none => if xs = [] then some (⟨#[]⟩, 0) else (strings_Join.f (xs.map (·.1)) R.sep).bind fun t => if R.first.size + t.size ≤ 9223372036854775807 then some (R.first ++ t, 0) else none
def expand_Part.f (k : Nat) (lit : ByteArray) (op : Int) (sp : List S55) (a : List S46) : Option (ByteArray × Int) :=
 (tmpl_May.f k [⟨lit, op, sp⟩]).bind fun m => if m = false then some (⟨#[]⟩, 1) else if sp = [] then (pct_Encode.f lit true).map fun t => (t, 0) else
  if sp.length < 8796093022208 then (oper_Of.f op).bind fun R => (textsO k op a sp).bind fun xs => if xs.length ≤ 1099511627776 then partEnds R.1 xs else none else none
theorem two_putH {w : World} {g g' : Nat} {T T' : TypeId} {a0 b0 : Value} (h : w.heap[g]? = some (.cells #[a0] T (0, 0))) (h' : w.heap[g']? = some (.cells #[b0] T' (0, 0))) (hne : g ≠ g') (x y : Value) :
 ((w.setCell ⟨g, 0, none⟩ x).setCell ⟨g', 0, none⟩ y).heap[g]? = some (.cells #[x] T (0, 0)) ∧ ((w.setCell ⟨g, 0, none⟩ x).setCell ⟨g', 0, none⟩ y).heap[g']? = some (.cells #[y] T' (0, 0)) := by
 have h1 := blk_put h 0 x rfl
 have h2 : (w.setCell ⟨g, 0, none⟩ x).heap[g']? = some (.cells #[b0] T' (0, 0)) := (Below.heap_setCell w ⟨g, 0, none⟩ x g' (fun e => hne e.symm)).trans h'
 exact ⟨(Below.heap_setCell (w.setCell ⟨g, 0, none⟩ x) ⟨g', 0, none⟩ y g hne).trans h1, blk_put h2 0 y rfl⟩
theorem two_put {w : World} {g g' : Nat} {T T' : TypeId} {a0 b0 : Value} (h : w.heap[g]? = some (.cells #[a0] T (0, 0))) (h' : w.heap[g']? = some (.cells #[b0] T' (0, 0))) (hne : g ≠ g') (x y : Value) :
 ((w.setCell ⟨g, 0, none⟩ x).setCell ⟨g', 0, none⟩ y).cell? ⟨g, 0, none⟩ = some x ∧ ((w.setCell ⟨g, 0, none⟩ x).setCell ⟨g', 0, none⟩ y).cell? ⟨g', 0, none⟩ = some y := by
 have h1 := blk_put h 0 x rfl
 have h2 : (w.setCell ⟨g, 0, none⟩ x).heap[g']? = some (.cells #[b0] T' (0, 0)) := (Below.heap_setCell w ⟨g, 0, none⟩ x g' (fun e => hne e.symm)).trans h'
 have h3 := blk_put h2 0 y rfl
 have h4 := (Below.heap_setCell (w.setCell ⟨g, 0, none⟩ x) ⟨g', 0, none⟩ y g hne).trans h1
 exact ⟨(Lib.cell_of_heap h4 0).trans (by simp), (Lib.cell_of_heap h3 0).trans (by simp)⟩
abbrev partC (lit : ByteArray) (op : Int) (A : Option Addr) (n c : Nat) : Array Value := #[.string lit, .int .u8 op, .slice A n c]
set_option maxRecDepth 100000 in
set_option maxHeartbeats 2000000 in
theorem expand_Part0 (k : Nat) (lit : ByteArray) (op : Int) (A : Option Addr) (c : Nat) (sp : List S55) (Aa : Option Addr) (ca : Nat) (a : List S46) (r1 : ByteArray) (r2 : Int) (w : World)
 (hr0 : Kd.C k55 w A sp.length sp) (hc0 : sp.length ≤ c) (hr1 : Kd.C k46 w Aa a.length a) (hc1 : a.length ≤ ca) (h : expand_Part.f k lit op sp a = some (r1, r2)) (hn : tmpl_May.f k [⟨lit, op, sp⟩] = some false ∨ sp = []) :
 Calls Tryz.prog 18 #[.agg #[.string lit, .int .u8 op, .slice A sp.length c], .slice Aa a.length ca] w fun e w' => e = .returned (.tuple #[.string r1, .int .i64 r2]) ∧ Below w.heap.size w w' := by
 unfold expand_Part.f at h
 obtain ⟨m, hm, h⟩ := Option.bind_eq_some_iff.1 h
 obtain ⟨W0, hW0⟩ : ∃ W, W = ((w.alloc (.cells (partC lit op A sp.length c) 31)).alloc (.cells #[.string ⟨#[]⟩] 9)).alloc (.cells #[.int .i64 0] 26) := ⟨_, rfl⟩
 obtain ⟨W1, hW1⟩ : ∃ W, W = W0.alloc (.cells (partC lit op A sp.length c) 31) := ⟨_, rfl⟩
 have hsz0 : W0.heap.size = w.heap.size + 3 := by rw [hW0]; simp only [World.size_alloc]
 have hB0 : Below w.heap.size w W0 := by rw [hW0]; exact (((Below.refl _ w).alloc (Nat.le_refl _) _).alloc (by simp) _).alloc (by simp; omega) _
 have hB1 : Below w.heap.size w W1 := by rw [hW1]; exact hB0.alloc hB0.size _
 have p0 : W1.heap[w.heap.size]? = some (.cells (partC lit op A sp.length c) 31 (0, 0)) := by rw [hW1, hW0]; exact alloc_old (alloc_old (alloc_old (alloc_at rfl)))
 have p1 : W1.heap[w.heap.size + 1]? = some (.cells #[.string ⟨#[]⟩] 9 (0, 0)) := by rw [hW1, hW0]; exact alloc_old (alloc_old (alloc_at (by simp only [World.size_alloc])))
 have p2 : W1.heap[w.heap.size + 2]? = some (.cells #[.int .i64 0] 26 (0, 0)) := by rw [hW1, hW0]; exact alloc_old (alloc_at (by simp only [World.size_alloc]))
 have hCm : Kd.C k31 W1 (some ⟨w.heap.size + 3, 0, none⟩) 1 [⟨lit, op, sp⟩] := by
  rw [hW1, ← hsz0]
  exact C_lit1 k31 W0 31 (k31_mk W0 ⟨lit, op, sp⟩ hc0 (Kd.C_below hr0 hB0))
 have hWW : W1 = (((w.alloc (.cells #[.string lit, .int .u8 op, .slice A sp.length c] 31)).alloc (.cells #[.string ⟨#[]⟩] 9)).alloc (.cells #[.int .i64 0] 26)).alloc (.cells #[.string lit, .int .u8 op, .slice A sp.length c] 31) := by rw [hW1, hW0]
 have HW := Lib.hid hWW
 have hm0 := hm
 have HM := Lib.hid hm
 have HCm := Lib.hid hCm
 have HC0 := Lib.hid (Kd.C_below hr0 hB1)
 have HC1 := Lib.hid (Kd.C_below hr1 hB1)
 have K0 := Lib.hid hc0
 have K1 := Lib.hid hc1
 have HB1 := Lib.hid hB1
 have HP0 := Lib.hid p0
 have HP1 := Lib.hid p1
 have HP2 := Lib.hid p2
 have HH := Lib.hid h
 clear hWW hW0 hW1 hm hCm hr0 hr1 hc0 hc1 hB0 hB1 p0 p1 p2 h hsz0
 go_enter Tryz.func18, Tryz.ntmps18
 go_wp2_with fail
 rw [← HW.out]
 refine (tmpl_May.calls k (some ⟨w.heap.size + 3, 0, none⟩) 1 [⟨lit, op, sp⟩] m W1 HCm.out (Nat.le_refl _) HM.out).mono ?_
 rintro e w1 ⟨rfl, hb1⟩
 have HQ0 := Lib.hid ((hb1.block _ (Array.getElem?_eq_some_iff.1 HP0.out).1).trans HP0.out)
 have HQ1 := Lib.hid ((hb1.block _ (Array.getElem?_eq_some_iff.1 HP1.out).1).trans HP1.out)
 have HQ2 := Lib.hid ((hb1.block _ (Array.getElem?_eq_some_iff.1 HP2.out).1).trans HP2.out)
 have HB2 := Lib.hid (below_step HB1.out hb1)
 have HS0 := Lib.hid (Kd.C_below HC0.out hb1)
 have HS1 := Lib.hid (Kd.C_below HC1.out hb1)
 clear hb1 HP0 HP1 HP2 HB1 HC0 HC1 HW HM HCm
 have c0 := Lib.cell_of_heap HQ0.out 0
 have c1 := Lib.cell_of_heap HQ0.out 1
 have c2 := Lib.cell_of_heap HQ0.out 2
 have c3 := Lib.cell_of_heap HQ1.out 0
 have c4 := Lib.cell_of_heap HQ2.out 0
 simp only [partC, List.getElem?_toArray, List.getElem?_cons_zero, List.getElem?_cons_succ] at c0 c1 c2 c3 c4
 have f3 := Lib.frozen_of_heap HQ1.out 0
 have f4 := Lib.frozen_of_heap HQ2.out 0
 cases m with
 | false =>
  have hh := HH.out
  rw [if_pos rfl] at hh
  injection hh with hh
  injection hh with e1 e2
  subst e1 e2
  clear HH
  obtain ⟨d3, d4⟩ := two_put HQ1.out HQ2.out (by omega) (.string ⟨#[]⟩) (.int .i64 1)
  have D3 := Lib.hid d3
  have D4 := Lib.hid d4
  clear d3 d4
  go_wp2
  refine bodyPost_ret (v := .tuple #[.string ⟨#[]⟩, .int .i64 1]) (by have d3 := D3.out; have d4 := D4.out; simp [results, Tryz.results18, go_sem, d3, d4]) rfl ?_
  exact ⟨rfl, (HB2.out.setCell (p := ⟨w.heap.size + 1, 0, none⟩) (by simp) _).setCell (p := ⟨w.heap.size + 1 + 1, 0, none⟩) (by simp; omega) _⟩
 | true =>
  have hh := HH.out
  rw [if_neg (by decide)] at hh
  clear HH
  by_cases hsp : sp = []
  · have hz : ((sp.length : Int) == 0) = true := by rw [hsp]; rfl
    rw [if_pos hsp] at hh
    obtain ⟨t, ht, hh⟩ := Option.map_eq_some_iff.1 hh
    injection hh with e1 e2
    subst e1 e2
    have HE := Lib.hid (show expand_Literal.f lit = some t by unfold expand_Literal.f; rw [ht]; rfl)
    clear ht hsp
    go_wp2_with (go_at_call 20; refine (expand_Literal.calls lit t _ HE.out).mono ?_; rintro e w2 ⟨rfl, hb2⟩; have HR1 := Lib.hid ((hb2.block _ (Array.getElem?_eq_some_iff.1 HQ1.out).1).trans HQ1.out); have HR2 := Lib.hid ((hb2.block _ (Array.getElem?_eq_some_iff.1 HQ2.out).1).trans HQ2.out); have HB3 := Lib.hid (below_step HB2.out hb2); clear hb2 c0 c1 c2 c3 c4 f3 f4; have c3 := Lib.cell_of_heap HR1.out 0; have c4 := Lib.cell_of_heap HR2.out 0; simp only [List.getElem?_toArray, List.getElem?_cons_zero, List.getElem?_cons_succ] at c3 c4; have f3 := Lib.frozen_of_heap HR1.out 0; have f4 := Lib.frozen_of_heap HR2.out 0)
    obtain ⟨d3, d4⟩ := two_put HR1.out HR2.out (show w.heap.size + 1 ≠ w.heap.size + 2 by omega) (.string t) (.int .i64 0)
    refine bodyPost_ret (v := .tuple #[.string t, .int .i64 0]) (by simp [results, Tryz.results18, go_sem, d3, d4]) rfl ?_
    exact ⟨rfl, (HB3.out.setCell (p := ⟨w.heap.size + 1, 0, none⟩) (by simp) _).setCell (p := ⟨w.heap.size + 1 + 1, 0, none⟩) (by simp; omega) _⟩
  · exact absurd (hn.resolve_left (by rw [hm0]; decide)) hsp
theorem wp_region_calm {P : Program} {ops : Array Oper} {Q : Exit → Act → World → Prop} {S : World → Prop} {id : Nat} {a : Act} {w : World} (hm : P.follows .mixedOrders = true)
 (h : wpAnyH P .any ops (fun e a w => e = .normal ∧ Q .normal a w) S ops.size (Array.replicate ops.size false) a w.drew) : (Code.region id ops true).wp P Q a w :=
 wp_mono (wp_region_held hm h) (fun e a w h => by obtain ⟨rfl, h⟩ := h; exact h)
set_option maxRecDepth 100000 in
set_option maxHeartbeats 2000000 in
theorem expand_Part1 (k : Nat) (lit : ByteArray) (op : Int) (A : Option Addr) (c : Nat) (sp : List S55) (Aa : Option Addr) (ca : Nat) (a : List S46) (r1 : ByteArray) (r2 : Int) (w : World)
 (hr0 : Kd.C k55 w A sp.length sp) (hc0 : sp.length ≤ c) (hr1 : Kd.C k46 w Aa a.length a) (hc1 : a.length ≤ ca) (h : expand_Part.f k lit op sp a = some (r1, r2)) (hn0 : tmpl_May.f k [⟨lit, op, sp⟩] = some true) (hsp : sp ≠ []) :
 Calls Tryz.prog 18 #[.agg #[.string lit, .int .u8 op, .slice A sp.length c], .slice Aa a.length ca] w fun e w' => e = .returned (.tuple #[.string r1, .int .i64 r2]) ∧ Below w.heap.size w w' := by
 unfold expand_Part.f at h
 obtain ⟨m, hm, h⟩ := Option.bind_eq_some_iff.1 h
 obtain ⟨W0, hW0⟩ : ∃ W, W = ((w.alloc (.cells (partC lit op A sp.length c) 31)).alloc (.cells #[.string ⟨#[]⟩] 9)).alloc (.cells #[.int .i64 0] 26) := ⟨_, rfl⟩
 obtain ⟨W1, hW1⟩ : ∃ W, W = W0.alloc (.cells (partC lit op A sp.length c) 31) := ⟨_, rfl⟩
 have hsz0 : W0.heap.size = w.heap.size + 3 := by rw [hW0]; simp only [World.size_alloc]
 have hB0 : Below w.heap.size w W0 := by rw [hW0]; exact (((Below.refl _ w).alloc (Nat.le_refl _) _).alloc (by simp) _).alloc (by simp; omega) _
 have hB1 : Below w.heap.size w W1 := by rw [hW1]; exact hB0.alloc hB0.size _
 have p0 : W1.heap[w.heap.size]? = some (.cells (partC lit op A sp.length c) 31 (0, 0)) := by rw [hW1, hW0]; exact alloc_old (alloc_old (alloc_old (alloc_at rfl)))
 have p1 : W1.heap[w.heap.size + 1]? = some (.cells #[.string ⟨#[]⟩] 9 (0, 0)) := by rw [hW1, hW0]; exact alloc_old (alloc_old (alloc_at (by simp only [World.size_alloc])))
 have p2 : W1.heap[w.heap.size + 2]? = some (.cells #[.int .i64 0] 26 (0, 0)) := by rw [hW1, hW0]; exact alloc_old (alloc_at (by simp only [World.size_alloc]))
 have hCm : Kd.C k31 W1 (some ⟨w.heap.size + 3, 0, none⟩) 1 [⟨lit, op, sp⟩] := by
  rw [hW1, ← hsz0]
  exact C_lit1 k31 W0 31 (k31_mk W0 ⟨lit, op, sp⟩ hc0 (Kd.C_below hr0 hB0))
 have hWW : W1 = (((w.alloc (.cells #[.string lit, .int .u8 op, .slice A sp.length c] 31)).alloc (.cells #[.string ⟨#[]⟩] 9)).alloc (.cells #[.int .i64 0] 26)).alloc (.cells #[.string lit, .int .u8 op, .slice A sp.length c] 31) := by rw [hW1, hW0]
 have HW := Lib.hid hWW
 have HM := Lib.hid hm
 have HCm := Lib.hid hCm
 have HC0 := Lib.hid (Kd.C_below hr0 hB1)
 have HC1 := Lib.hid (Kd.C_below hr1 hB1)
 have K0 := Lib.hid hc0
 have K1 := Lib.hid hc1
 have HB1 := Lib.hid hB1
 have HP0 := Lib.hid p0
 have HP1 := Lib.hid p1
 have HP2 := Lib.hid p2
 have HH := Lib.hid h
 clear hWW hW0 hW1 hm hCm hr0 hr1 hc0 hc1 hB0 hB1 p0 p1 p2 h hsz0
 have hmt : m = true := by rw [HM.out] at hn0; injection hn0
 subst hmt
 clear hn0
 refine callsIn_wide.1 (callsIn_of_wp_marks (n := 4) Tryz.func18 rfl trivial ?_ rfl)
 simp only [Tryz.ntmps18, List.size_toArray, List.length_cons, List.length_nil, Nat.reduceAdd, Nat.reduceSub, Array.replicate_succ, Array.replicate_zero, List.push_toArray, List.append_toArray, List.nil_append, List.cons_append]
 refine wpIn_wide.2 ?_
 go_wp2_with fail
 rw [← HW.out]
 refine (tmpl_May.calls k (some ⟨w.heap.size + 3, 0, none⟩) 1 [⟨lit, op, sp⟩] _ W1 HCm.out (Nat.le_refl _) HM.out).mono ?_
 rintro e w1 ⟨rfl, hb1⟩
 have HQ0 := Lib.hid ((hb1.block _ (Array.getElem?_eq_some_iff.1 HP0.out).1).trans HP0.out)
 have HQ1 := Lib.hid ((hb1.block _ (Array.getElem?_eq_some_iff.1 HP1.out).1).trans HP1.out)
 have HQ2 := Lib.hid ((hb1.block _ (Array.getElem?_eq_some_iff.1 HP2.out).1).trans HP2.out)
 have HB2 := Lib.hid (below_step HB1.out hb1)
 have HS0 := Lib.hid (Kd.C_below HC0.out hb1)
 have HS1 := Lib.hid (Kd.C_below HC1.out hb1)
 clear hb1 HP0 HP1 HP2 HB1 HC0 HC1 HW HM HCm
 have c0 := Lib.cell_of_heap HQ0.out 0
 have c1 := Lib.cell_of_heap HQ0.out 1
 have c2 := Lib.cell_of_heap HQ0.out 2
 have c3 := Lib.cell_of_heap HQ1.out 0
 have c4 := Lib.cell_of_heap HQ2.out 0
 simp only [partC, List.getElem?_toArray, List.getElem?_cons_zero, List.getElem?_cons_succ] at c0 c1 c2 c3 c4
 have f3 := Lib.frozen_of_heap HQ1.out 0
 have f4 := Lib.frozen_of_heap HQ2.out 0
 have hh := HH.out
 rw [if_neg (by decide)] at hh
 clear HH
 have hz : ((sp.length : Int) == 0) = false := by
  rw [beq_eq_false_iff_ne]
  intro e
  exact hsp (List.length_eq_zero_iff.1 (by omega))
 rw [if_neg hsp] at hh
 by_cases hlen : sp.length < 8796093022208
 case neg => rw [if_neg hlen] at hh; cases hh
 rw [if_pos hlen] at hh
 obtain ⟨⟨R, ok⟩, hof, hh⟩ := Option.bind_eq_some_iff.1 hh
 obtain ⟨xs, hxs, hh⟩ := Option.bind_eq_some_iff.1 hh
 by_cases hxl : xs.length ≤ 1099511627776
 case neg => rw [if_neg hxl] at hh; cases hh
 rw [if_pos hxl] at hh
 have HO := Lib.hid hof
 have HX := Lib.hid hxs
 have HE := Lib.hid hh
 have HL := Lib.hid hlen
 have HXL := Lib.hid hxl
 clear hof hxs hh hlen hxl hsp
 go_wp2_with (first
  | (go_at_call 49; refine (oper_Of.calls op R ok _ HO.out).mono ?_; rintro e w2 ⟨rfl, hb2⟩; unfold valR; have hbA : Below w1.heap.size w1 ((w2.alloc (.cells #[.string R.first, .string R.sep, .bool R.named, .string R.empty, .bool R.keep] 87)).alloc (.cells #[.slice none 0 0] 41)) := (hb2.alloc hb2.size _).alloc (by have := hb2.size; simp only [World.size_alloc]; omega) _; have HR0 := Lib.hid ((hbA.block _ (Array.getElem?_eq_some_iff.1 HQ0.out).1).trans HQ0.out); have HR1 := Lib.hid ((hbA.block _ (Array.getElem?_eq_some_iff.1 HQ1.out).1).trans HQ1.out); have HR2 := Lib.hid ((hbA.block _ (Array.getElem?_eq_some_iff.1 HQ2.out).1).trans HQ2.out); have HB3 := Lib.hid (below_step HB2.out hbA); have HS0' := Lib.hid (Kd.C_below HS0.out hbA); have HS1' := Lib.hid (Kd.C_below HS1.out hbA); have HRR := Lib.hid (alloc_old (o := .cells #[.slice none 0 0] 41) (alloc_at (w := w2) (o := .cells #[.string R.first, .string R.sep, .bool R.named, .string R.empty, .bool R.keep] 87) rfl)); have HRL := Lib.hid (alloc_at (w := w2.alloc (.cells #[.string R.first, .string R.sep, .bool R.named, .string R.empty, .bool R.keep] 87)) (o := .cells #[.slice none 0 0] 41) (n := w2.heap.size + 1) (by rw [World.size_alloc])); have HSz := Lib.hid (hb2.size); have HBB := Lib.hid hb2; clear hb2 hbA c0 c1 c2 c3 c4 f3 f4; have c0 := Lib.cell_of_heap HR0.out 0; have c1 := Lib.cell_of_heap HR0.out 1; have c2 := Lib.cell_of_heap HR0.out 2; simp only [partC, List.getElem?_toArray, List.getElem?_cons_zero, List.getElem?_cons_succ] at c0 c1 c2)
  | (go_at_call 50; refine (texts_in op lit A sp.length c Aa a.length ca _).mono ?_; rintro e w3 ⟨rfl, rfl⟩))
 obtain ⟨Wl, hWl⟩ : ∃ W, W = (((w2.alloc (.cells #[.string R.first, .string R.sep, .bool R.named, .string R.empty, .bool R.keep] 87)).alloc (.cells #[.slice none 0 0] 41)).alloc (.cells #[.string lit, .int .u8 op, .slice A sp.length c] 31)).alloc (.cells #[.slice Aa a.length ca] 23) := ⟨_, rfl⟩
 have hBl : Below ((w2.alloc (.cells #[.string R.first, .string R.sep, .bool R.named, .string R.empty, .bool R.keep] 87)).alloc (.cells #[.slice none 0 0] 41)).heap.size ((w2.alloc (.cells #[.string R.first, .string R.sep, .bool R.named, .string R.empty, .bool R.keep] 87)).alloc (.cells #[.slice none 0 0] 41)) Wl := by rw [hWl]; exact ((Below.refl _ _).alloc (Nat.le_refl _) _).alloc (by simp) _
 have hszl : Wl.heap.size = w2.heap.size + 4 := by rw [hWl]; simp only [World.size_alloc]
 have q0 := (hBl.block _ (Array.getElem?_eq_some_iff.1 HR1.out).1).trans HR1.out
 have q1 := (hBl.block _ (Array.getElem?_eq_some_iff.1 HR2.out).1).trans HR2.out
 have q2 := (hBl.block _ (Array.getElem?_eq_some_iff.1 HRR.out).1).trans HRR.out
 have q3 := (hBl.block _ (Array.getElem?_eq_some_iff.1 HRL.out).1).trans HRL.out
 have q4 : Wl.heap[w2.heap.size + 1 + 1]? = some (.cells #[.string lit, .int .u8 op, .slice A sp.length c] 31 (0, 0)) := by rw [hWl]; exact alloc_old (alloc_at (by simp only [World.size_alloc]))
 have q5 : Wl.heap[w2.heap.size + 1 + 1 + 1]? = some (.cells #[.slice Aa a.length ca] 23 (0, 0)) := by rw [hWl]; exact alloc_at (by simp only [World.size_alloc])
 have hBw : Below w.heap.size w Wl := below_step HB3.out hBl
 have hB2 : Below w2.heap.size w2 Wl := by rw [hWl]; exact ((((Below.refl _ w2).alloc (Nat.le_refl _) _).alloc (by simp) _).alloc (by simp; omega) _).alloc (by simp; omega) _
 have hw2 : w.heap.size + 3 ≤ w2.heap.size := by
  have h1 := (Array.getElem?_eq_some_iff.1 HQ2.out).1
  have h2 := HSz.out
  omega
 have HC2 := Lib.hid (Kd.C_below HS0.out HBB.out)
 have HC3 := Lib.hid (Kd.C_below HS1.out HBB.out)
 rw [← hWl]
 clear hWl hBl
 refine (wpIn_wide (n := 4)).1 ?_
 refine' wpIn_rangeFunc_ownG (F := Fence.wide) (n := 4) rfl (by omega) (gf := 79) (lb := #[.pointer (some ⟨w2.heap.size + 1 + 1, 0, none⟩), .pointer (some ⟨w2.heap.size + 1 + 1 + 1, 0, none⟩)]) rfl trivial (enters_of Tryz.func79 (by kernel_rfl) rfl)
  (texts_stops k 3 (w2.heap.size + 1 + 1) (w2.heap.size + 1 + 1 + 1) (fun j => j < w2.heap.size ∨ j = w2.heap.size + 1 + 1 ∨ j = w2.heap.size + 1 + 1 + 1) op lit A c sp Aa ca a xs w2 Wl (by omega) HL.out hB2 (fun j hj => .inl hj) (.inr (.inl rfl)) (.inr (.inr rfl)) HC2.out HC3.out K1.out q4 q5 HX.out)
  keepB_t (keepB_b (by intro j hj; rw [hszl]; rcases hj with hj | hj | hj <;> omega)) (Below.refl _ _) (fun _ => rfl)
  (fun pre W => (W.heap[w.heap.size + 1]? = some (.cells #[.string ⟨#[]⟩] 9 (0, 0)) ∧ W.heap[w.heap.size + 2]? = some (.cells #[.int .i64 0] 26 (0, 0)) ∧ W.heap[w2.heap.size]? = some (.cells #[.string R.first, .string R.sep, .bool R.named, .string R.empty, .bool R.keep] 87 (0, 0)) ∧ (∃ V, W.heap[w2.heap.size + 1]? = some (.cells #[V] 41 (0, 0)) ∧ Kd.R Kd.string 9 W w2.heap.size (fun _ => True) V (pre.map (·.1)) ∧ (pre = [] → V = .slice none 0 0)) ∧ (W.heap[w2.heap.size + 1 + 1]? = some (.cells #[.string lit, .int .u8 op, .slice A sp.length c] 31 (0, 0)) ∧ W.heap[w2.heap.size + 1 + 1 + 1]? = some (.cells #[.slice Aa a.length ca] 23 (0, 0)) ∧ ∀ x ∈ pre, x.2 = 0)) ∧ Below w.heap.size w W)
  (fun cd pre W => (cd = .ret ∧ ∃ pre0 s e, pre = pre0 ++ [(s, e)] ∧ (∀ x ∈ pre0, x.2 = 0) ∧ e ≠ 0 ∧ W.heap[w.heap.size + 1]? = some (.cells #[.string ⟨#[]⟩] 9 (0, 0)) ∧ W.heap[w.heap.size + 2]? = some (.cells #[.int .i64 e] 26 (0, 0))) ∧ Below w.heap.size w W)
  (OwnFrom.and (fun s X Y row hs hg hr => ⟨heap_kept hs.1 hg (fun r e => (hr r e).2), heap_kept hs.2.1 hg (fun r e => (hr r e).2), heap_kept hs.2.2.1 hg (fun r e => (hr r e).2), let ⟨V, h1, h2, h3⟩ := hs.2.2.2.1; ⟨V, heap_kept h1 hg (fun r e => (hr r e).2), R_kept h2 hg (fun r e => (hr r e).2), h3⟩, heap_kept hs.2.2.2.2.1 hg (fun r e => (hr r e).2), heap_kept hs.2.2.2.2.2.1 hg (fun r e => (hr r e).2), hs.2.2.2.2.2.2⟩) (ownFrom_below (Nat.le_refl _) (by omega)))
  (fun cd => OwnFrom.and (fun s X Y row hs hg hr => let ⟨h0, pre0, s0, e0, h1, h2, h3, h4, h5⟩ := hs; ⟨h0, pre0, s0, e0, h1, h2, h3, heap_kept h4 hg (fun r e => (hr r e).2), heap_kept h5 hg (fun r e => (hr r e).2)⟩) (ownFrom_below (Nat.le_refl _) (by omega)))
  ⟨⟨q0, q1, q2, ⟨_, q3, Kd.R_nil _ _ _ _ _, fun _ => rfl⟩, q4, q5, fun x h => by cases h⟩, hBw⟩
  (fun x => { tmps := #[.agg #[.string lit, .int .u8 op, .slice A sp.length c], .slice Aa a.length ca, .pointer (some ⟨w.heap.size, 0, none⟩), undef, .pointer (some ⟨w.heap.size + 1, 0, none⟩), .pointer (some ⟨w.heap.size + 1 + 1, 0, none⟩), .pointer (some ⟨w2.heap.size, 0, none⟩), .bool ok, .pointer (some ⟨w2.heap.size + 1, 0, none⟩), .string x.1, .int .i64 x.2, .bool false,
   .agg #[.string lit, .int .u8 op, .slice A sp.length c], .slice (some ⟨w.heap.size + 1 + 1 + 1, 0, none⟩) 1 1, .bool true, .bool false, .bool false, .pointer (some ⟨w.heap.size, 0 + 2, none⟩), .slice A sp.length c, .int .i64 (sp.length : Int), .bool false, undef, undef, undef, .tuple #[.agg #[.string R.first, .string R.sep, .bool R.named, .string R.empty, .bool R.keep], .bool ok], .pointer (some ⟨w.heap.size, 0 + 1, none⟩), .int .u8 op, .tuple #[.agg #[.string R.first, .string R.sep, .bool R.named, .string R.empty, .bool R.keep], .bool ok],
   .agg #[.string R.first, .string R.sep, .bool R.named, .string R.empty, .bool R.keep], .bool ok, .agg #[.string lit, .int .u8 op, .slice A sp.length c], .slice Aa a.length ca, .func (.func 79) #[] #[.pointer (some ⟨w2.heap.size + 1 + 1, 0, none⟩), .pointer (some ⟨w2.heap.size + 1 + 1 + 1, 0, none⟩)], .string x.1, .int .i64 x.2, undef, undef, undef, undef, undef, undef, undef, undef, undef, undef, undef, undef, undef, undef, undef, undef], defers := [] })
  ?assign ?body ?done ?stop
 case assign =>
  intro l x W K hK
  gi_wp2
  exact hK
 case body =>
  rintro lo pre ⟨s, e⟩ W ⟨⟨g0, g1, g2, ⟨V, g3, hrow, hnil⟩, g4, g5, hz0⟩, hB1⟩ hlt
  obtain ⟨acc, hacc⟩ : ∃ acc, acc = pre.map (·.1) := ⟨_, rfl⟩
  rw [← hacc] at hrow
  have hal : acc.length = pre.length := by rw [hacc, List.length_map]
  have HAL := Lib.hid hal
  have HACC := Lib.hid hacc
  clear hal hacc
  obtain ⟨Ao, co, eo⟩ := Kd.R_slice hrow
  subst eo
  have c3 := Lib.cell_of_heap g0 0
  have c4 := Lib.cell_of_heap g1 0
  have m0 := Lib.cell_of_heap g3 0
  simp only [List.getElem?_toArray, List.getElem?_cons_zero, List.getElem?_cons_succ] at c3 c4 m0
  have f3 := Lib.frozen_of_heap g0 0
  have f4 := Lib.frozen_of_heap g1 0
  have HR := Lib.hid hrow
  have G0 := Lib.hid g0
  have G1 := Lib.hid g1
  have G2 := Lib.hid g2
  have G3 := Lib.hid g3
  have G4 := Lib.hid g4
  have G5 := Lib.hid g5
  have HZ := Lib.hid hz0
  have HB := Lib.hid hB1
  have HLt := Lib.hid hlt
  clear hrow g0 g1 g2 g3 g4 g5 hz0 hB1 hnil hlt q0 q1 q2 q3 q4 q5
  by_cases he : e = 0
  · subst he
    gi_wp2_with (gi_at_builtin; refine wpListIn_of_wpList (not_letsOut (fun _ _ h => h)) _ _ _ (noDefer_spec (by rfl)) ?_; refine Kd.R_append Kd.string (w0 := W) w2.heap.size rfl (.tmp 38) (.tmp 40) 41 9 (.string ⟨#[]⟩) 16 rfl Tryz.underlying41 info9 rfl (by decide) (by omega) _ acc s [.string s] (fun _ => True) (fun _ => False) rfl rfl ?aP (fun _ hk => hk.elim) ?aF ?aO ?aB ?aS ?aL ?_; (case aP => exact rfl); (case aF => exact fun _ _ => trivial); (case aO => exact HR.out); (case aB => exact (Below.refl W.heap.size W).mono (by have := (Array.getElem?_eq_some_iff.1 G3.out).1; omega)); (case aS => (have := (Array.getElem?_eq_some_iff.1 G3.out).1; omega)); (case aL => (have h1 := HXL.out; have h2 := HLt.out; have h3 := HAL.out; omega)); intro v3 w3 ho3 hb3 hg3 hat3; obtain ⟨A3, co3, e3⟩ := Kd.R_slice ho3; subst e3; have hlk : w3.heap[w2.heap.size + 1]? = some (.cells #[.slice Ao acc.length co] 41 (0, 0)) := (hg3.block _ (Array.getElem?_eq_some_iff.1 G3.out).1 (Kd.R_ne HR.out G3.out (by decide))).trans G3.out; have m3 := Lib.cell_of_heap hlk 0; have fm := Lib.frozen_of_heap hlk 0; simp only [List.getElem?_toArray, List.getElem?_cons_zero, List.getElem?_cons_succ] at m3; have HLK := Lib.hid hlk; have HO3 := Lib.hid ho3; have HG3 := Lib.hid hg3; clear hlk ho3 hb3 hg3 hat3 m0 c3 c4 f3 f4)
    go_wp2
    have hrw := (Kd.R_bound HR.out).1
    have hk1 : ∀ (X : Value) (j : Nat) (cells : Array Value) (T : TypeId), W.heap[j]? = some (.cells cells T (0, 0)) → (T ≠ 9 ∨ j < w2.heap.size) → j ≠ w2.heap.size + 1 → (w3.setCell ⟨w2.heap.size + 1, 0, none⟩ X).heap[j]? = some (.cells cells T (0, 0)) := fun X j cells T hj hT hne => by
     rw [Below.heap_setCell _ _ _ _ hne]
     refine (HG3.out.block _ (Array.getElem?_eq_some_iff.1 hj).1 ?_).trans hj
     rcases hT with hT | hT
     · exact Kd.R_ne HR.out hj (fun e => hT e.symm)
     · intro e
       have := (hrw j e.symm).2.1
       omega
    refine show KeepsFrom Wl.heap.size W _ ∧ KeepB _ W _ ∧ _ ∧ _ from ⟨?_, ?_, ⟨?_, ?_, ?_, ⟨_, blk_put HLK.out 0 _ rfl, ?_, fun e => absurd e (by simp)⟩, ?_, ?_, ?_⟩, ?_⟩
    · exact ((keeps_append HR.out HG3.out).trans (KeepsOthers.setCell _ _ _)).from _
    · refine (KeepB.of_grown HG3.out (fun j hj hS => ?_)).trans (KeepB.of_grown (grownBy_cell _ _ _) (fun j hj hS => ?_))
      · have h1 := (hrw j hj).2.1
        rcases hS with hS | hS | hS
        · omega
        · rw [hS] at hj; exact Kd.R_ne HR.out G4.out (by decide) hj.symm
        · rw [hS] at hj; exact Kd.R_ne HR.out G5.out (by decide) hj.symm
      · cases hj
        rcases hS with hS | hS | hS
        · have : w2.heap.size + 1 < w2.heap.size := hS; omega
        · have : w2.heap.size + 1 = w2.heap.size + 1 + 1 := hS; omega
        · have : w2.heap.size + 1 = w2.heap.size + 1 + 1 + 1 := hS; omega
    · exact hk1 _ _ _ _ G0.out (.inr (by omega)) (by omega)
    · exact hk1 _ _ _ _ G1.out (.inr (by omega)) (by omega)
    · exact hk1 _ _ _ _ G2.out (.inl (by decide)) (by omega)
    · rw [List.map_append, ← HACC.out]
      have h9 := Kd.R_set HO3.out HLK.out (by decide) 0 (.slice A3 (acc ++ [s]).length co3)
      rw [List.length_append] at h9
      exact h9
    · exact hk1 _ _ _ _ G4.out (.inl (by decide)) (by omega)
    · exact hk1 _ _ _ _ G5.out (.inl (by decide)) (by omega)
    · intro x hx
      rcases List.mem_append.1 hx with hx | hx
      · exact HZ.out x hx
      · rw [List.mem_singleton.1 hx]
    · exact (HB.out.grown HG3.out HB.out.size (fun j hj => by have := (hrw j hj).2.1; omega)).setCell (p := ⟨w2.heap.size + 1, 0, none⟩) (by simp; omega) _
  · gi_wp2
    obtain ⟨d0, d1⟩ := two_putH G0.out G1.out (by omega) (.string ⟨#[]⟩) (.int .i64 e)
    exact ⟨((KeepsOthers.setCell _ _ _).trans (KeepsOthers.setCell _ _ _)).from _, ⟨rfl, pre, s, e, rfl, HZ.out, he, d0, d1⟩, (HB.out.setCell (p := ⟨w.heap.size + 1, 0, none⟩) (by simp) _).setCell (p := ⟨w.heap.size + 1 + 1, 0, none⟩) (by simp; omega) _⟩
 case done =>
  rintro D ys W hD hys ⟨⟨g0, g1, g2, ⟨V, g3, hrow, hnil⟩, g4, g5, hz0⟩, hB1⟩ hK
  subst hys
  have hf : ys.find? (fun x => x.2 != 0) = none := List.find?_eq_none.2 (fun x hx => by simp [hz0 x hx])
  have hh := HE.out
  unfold partEnds at hh
  rw [hf] at hh
  dsimp only at hh
  have c3 := Lib.cell_of_heap g0 0
  have c4 := Lib.cell_of_heap g1 0
  have m0 := Lib.cell_of_heap g3 0
  have b0 := Lib.cell_of_heap g2 0
  have b1 := Lib.cell_of_heap g2 1
  simp only [List.getElem?_toArray, List.getElem?_cons_zero, List.getElem?_cons_succ] at c3 c4 m0 b0 b1
  have f3 := Lib.frozen_of_heap g0 0
  have f4 := Lib.frozen_of_heap g1 0
  have G0 := Lib.hid g0
  have G1 := Lib.hid g1
  have G2 := Lib.hid g2
  have G3 := Lib.hid g3
  have HR := Lib.hid hrow
  have HB := Lib.hid hB1
  have HK := Lib.hid hK
  have hnl := fun (W : World) (A : Option Addr) (n c : Nat) => Lib.run_eql_slice_nil (P := Tryz.prog) W 41 9 A n c 0 0 Tryz.underlying41
  clear hz0 HE hf g0 g1 g2 g3 g4 g5 hrow hB1 hK q0 q1 q2 q3 q4 q5
  by_cases hx : ys = []
  · rw [if_pos hx] at hh
    injection hh with hh
    injection hh with e1 e2
    subst e1 e2
    have hv := hnil hx
    subst hv
    clear hnil hx
    go_wp2
    obtain ⟨d0, d1⟩ := two_putH G0.out G1.out (by omega) (.string ⟨#[]⟩) (.int .i64 0)
    have hKf : ((W.setCell ⟨w.heap.size + 1, 0, none⟩ (.string ⟨#[]⟩)).setCell ⟨w.heap.size + 2, 0, none⟩ (.int .i64 0)).heap[D]? = some (.deferred (some [])) := ((KeepsOthers.setCell _ _ _).trans (KeepsOthers.setCell _ _ _)).same D _ HK.out rfl
    have hgp := grownBy_putObj' (((W.setCell ⟨w.heap.size + 1, 0, none⟩ (.string ⟨#[]⟩)).setCell ⟨w.heap.size + 2, 0, none⟩ (.int .i64 0))) D (.deferred none)
    have e0 := Lib.cell_of_heap (heap_kept d0 hgp (fun r e => by cases e; exact ⟨_, hKf, rfl⟩)) 0
    have e1 := Lib.cell_of_heap (heap_kept d1 hgp (fun r e => by cases e; exact ⟨_, hKf, rfl⟩)) 0
    simp only [List.getElem?_toArray, List.getElem?_cons_zero, List.getElem?_cons_succ] at e0 e1
    refine ⟨by simp, .inl ⟨_, _, rfl, run_takeDeferred hKf, ?_⟩⟩
    refine ⟨.tuple #[.string ⟨#[]⟩, .int .i64 0], by simp [results, Tryz.results18, go_sem, e0, e1], rfl, ?_⟩
    exact ((HB.out.setCell (p := ⟨w.heap.size + 1, 0, none⟩) (by simp) _).setCell (p := ⟨w.heap.size + 2, 0, none⟩) (by simp) _).trans (belowK_b (w := w) (Nat.le_refl _) (((W.setCell ⟨w.heap.size + 1, 0, none⟩ (.string ⟨#[]⟩)).setCell ⟨w.heap.size + 2, 0, none⟩ (.int .i64 0))) D _ _ (by omega) hKf rfl rfl)
  · rw [if_neg hx] at hh
    obtain ⟨t, ht, hh⟩ := Option.bind_eq_some_iff.1 hh
    by_cases hcat : R.first.size + t.size ≤ 9223372036854775807
    case neg => rw [if_neg hcat] at hh; cases hh
    rw [if_pos hcat] at hh
    injection hh with hh
    injection hh with e1 e2
    subst e1 e2
    obtain ⟨Ao, co, eo, hlc, hC⟩ := Kd.R_reads HR.out
    subst eo
    have hpos : 0 < (ys.map (·.1)).length := by rw [List.length_map]; exact List.length_pos_iff.2 hx
    obtain ⟨ad, hAo, -⟩ := hC.2.2 hpos
    subst hAo
    obtain ⟨acc, hacc⟩ : ∃ acc, acc = ys.map (·.1) := ⟨_, rfl⟩
    rw [← hacc] at m0 ht hC hlc
    have HACC := Lib.hid hacc
    have HC := Lib.hid hC
    have HLC := Lib.hid hlc
    have HT := Lib.hid ht
    have hcat2 : (9223372036854775807 < R.first.size + t.size) = False := eq_false (by omega)
    clear hnil hx hpos ht hC hlc hacc hcat
    go_wp2_with fail
    refine wp_region_calm (S := fun W' => KeepB (fun j => j ≠ w.heap.size + 1 ∧ j ≠ w.heap.size + 2) W W') (by kernel_rfl) ?_
    have HS : KeepB (fun j => j ≠ w.heap.size + 1 ∧ j ≠ w.heap.size + 2) W W.drew := .of_new (below_drew (Below.refl _ W))
    change wpAnyH _ _ _ _ _ _ _ _ W.drew
    (refine wpAnyH_take (i := 0) (oi := ?tp0) (v := ?tv0) ?ti0 (by kernel_rfl) (by kernel_rfl) (by kernel_rfl) ?tq0 (Or.inl ⟨?tw0, ?ty0⟩) HS ?tr0)
    case ti0 => (simp only [List.getElem?_toArray, List.getElem?_cons_zero, List.getElem?_cons_succ] <;> rfl)
    case tq0 => exact fun _ _ _ h => nomatch h.1
    case tw0 => rfl
    case ty0 => (intro w' hSw; go_simp <;> with_reducible rfl)
    try simp only [Act.put, List.setIfInBounds_toArray, List.set_cons_zero, List.set_cons_succ]
    (refine wpAnyH_take (i := 1) (oi := ?tp1) (v := ?tv1) ?ti1 (by kernel_rfl) (by kernel_rfl) (by kernel_rfl) ?tq1 (Or.inl ⟨?tw1, ?ty1⟩) HS ?tr1)
    case ti1 => (simp only [List.getElem?_toArray, List.getElem?_cons_zero, List.getElem?_cons_succ] <;> rfl)
    case tq1 => exact fun _ _ _ h => nomatch h.1
    case tw1 => rfl
    case ty1 => (intro w' hSw; have b0' := hSw.cell (by show _ ∧ _; refine ⟨?_, ?_⟩ <;> (simp; omega)) b0; go_simp <;> with_reducible rfl)
    try simp only [Act.put, List.setIfInBounds_toArray, List.set_cons_zero, List.set_cons_succ]
    (refine wpAnyH_take (i := 2) (oi := ?tp2) (v := ?tv2) ?ti2 (by kernel_rfl) (by kernel_rfl) (by kernel_rfl) ?tq2 (Or.inl ⟨?tw2, ?ty2⟩) HS ?tr2)
    case ti2 => (simp only [List.getElem?_toArray, List.getElem?_cons_zero, List.getElem?_cons_succ] <;> rfl)
    case tq2 => exact fun _ _ _ h => nomatch h.1
    case tw2 => rfl
    case ty2 => (intro w' hSw; have m0' := hSw.cell (by show _ ∧ _; refine ⟨?_, ?_⟩ <;> (simp; omega)) m0; go_simp <;> with_reducible rfl)
    try simp only [Act.put, List.setIfInBounds_toArray, List.set_cons_zero, List.set_cons_succ]
    (refine wpAnyH_take (i := 3) (oi := ?tp3) (v := ?tv3) ?ti3 (by kernel_rfl) (by kernel_rfl) (by kernel_rfl) ?tq3 (Or.inl ⟨?tw3, ?ty3⟩) HS ?tr3)
    case ti3 => (simp only [List.getElem?_toArray, List.getElem?_cons_zero, List.getElem?_cons_succ] <;> rfl)
    case tq3 => exact fun _ _ _ h => nomatch h.1
    case tw3 => rfl
    case ty3 => (intro w' hSw; go_simp <;> with_reducible rfl)
    try simp only [Act.put, List.setIfInBounds_toArray, List.set_cons_zero, List.set_cons_succ]
    (refine wpAnyH_take (i := 4) (oi := ?tp4) (v := ?tv4) ?ti4 (by kernel_rfl) (by kernel_rfl) (by kernel_rfl) ?tq4 (Or.inl ⟨?tw4, ?ty4⟩) HS ?tr4)
    case ti4 => (simp only [List.getElem?_toArray, List.getElem?_cons_zero, List.getElem?_cons_succ] <;> rfl)
    case tq4 => exact fun _ _ _ h => nomatch h.1
    case tw4 => rfl
    case ty4 => (intro w' hSw; have b1' := hSw.cell (by show _ ∧ _; refine ⟨?_, ?_⟩ <;> (simp; omega)) b1; go_simp <;> with_reducible rfl)
    try simp only [Act.put, List.setIfInBounds_toArray, List.set_cons_zero, List.set_cons_succ]
    refine wpAnyH_ready (rs := [5]) (by kernel_rfl) (by simp) ?_
    (refine AllReadyH.cons (o := ?so5) ?si5 (fun K hK => ?ss5) ?sm5)
    case si5 => (simp only [List.getElem?_toArray, List.getElem?_cons_zero, List.getElem?_cons_succ] <;> rfl)
    case ss5 =>
     refine goes_ Tryz.func51 (by kernel_rfl) rfl #[.slice (some ad) acc.length co, .string R.sep] (by rfl) rfl rfl (by simp [Act.eval, Act.put]) ?_
     refine (strings_Join.calls (some ad) co acc R.sep t _ (Kd.C_below HC.out (below_drew (Below.refl _ W))) HLC.out HT.out).mono ?_
     rintro e w4 ⟨rfl, hb4⟩
     have hb5 : Below W.heap.size W w4 := below_step (below_drew (Below.refl _ W)) hb4
     have g0' := (hb5.block _ (Array.getElem?_eq_some_iff.1 G0.out).1).trans G0.out
     have g1' := (hb5.block _ (Array.getElem?_eq_some_iff.1 G1.out).1).trans G1.out
     have k3 := Lib.cell_of_heap g0' 0
     have k4 := Lib.cell_of_heap g1' 0
     simp only [List.getElem?_toArray, List.getElem?_cons_zero, List.getElem?_cons_succ] at k3 k4
     have l3 := Lib.frozen_of_heap g0' 0
     have l4 := Lib.frozen_of_heap g1' 0
     have G0' := Lib.hid g0'
     have G1' := Lib.hid g1'
     have HB5 := Lib.hid hb5
     clear g0' g1' hb5
     refine ⟨_, rfl, ?_⟩
     refine hK.out _ _ ?_ (fun HS => ?_)
     · exact HS.trans (.of_new hb4)
     try simp only [Act.put, List.setIfInBounds_toArray, List.set_cons_zero, List.set_cons_succ]
     (refine wpAnyH_take (i := 6) (oi := ?tpa6) (v := ?tva6) ?tia6 (by kernel_rfl) (by kernel_rfl) (by kernel_rfl) ?tqa6 (Or.inl ⟨?twa6, ?tya6⟩) HS ?tra6)
     case tia6 => (simp only [List.getElem?_toArray, List.getElem?_cons_zero, List.getElem?_cons_succ] <;> rfl)
     case tqa6 => exact fun _ _ _ h => nomatch h.1
     case twa6 => rfl
     case tya6 => (intro w' hSw; go_simp <;> with_reducible rfl)
     try simp only [Act.put, List.setIfInBounds_toArray, List.set_cons_zero, List.set_cons_succ]
     refine wpAnyH_ready (rs := [7]) (by kernel_rfl) (by simp) ?_
     (refine AllReadyH.cons (o := ?sob7) ?sib7 (fun K hK => ?ssb7) ?smb7)
     case sib7 => (simp only [List.getElem?_toArray, List.getElem?_cons_zero, List.getElem?_cons_succ] <;> rfl)
     case ssb7 =>
      rw [if_pos (by rfl)]
      go_simp
      refine hK.out _ _ ?_ (fun HS => ?_)
      · exact HS.grown (grownBy_cell _ _ _) (fun j hj hk => by cases hj; exact hk.1 rfl)
      try simp only [Act.put, List.setIfInBounds_toArray, List.set_cons_zero, List.set_cons_succ]
      refine wpAnyH_ready (rs := [8]) (by kernel_rfl) (by simp) ?_
      (refine AllReadyH.cons (o := ?soc8) ?sic8 (fun K hK => ?ssc8) ?smc8)
      case sic8 => (simp only [List.getElem?_toArray, List.getElem?_cons_zero, List.getElem?_cons_succ] <;> rfl)
      case ssc8 =>
       rw [if_pos (by rfl)]
       go_simp
       refine hK.out _ _ ?_ (fun HS => ?_)
       · exact HS.grown (grownBy_cell _ _ _) (fun j hj hk => by cases hj; exact hk.2 rfl)
       try simp only [Act.put, List.setIfInBounds_toArray, List.set_cons_zero, List.set_cons_succ]
       refine wpAnyH_done (by kernel_rfl) ⟨rfl, ?_⟩ _
       go_wp2
       obtain ⟨d0, d1⟩ := two_putH G0'.out G1'.out (by omega) (.string (R.first ++ t)) (.int .i64 0)
       have hKf : ((w4.setCell ⟨w.heap.size + 1, 0, none⟩ (.string (R.first ++ t))).setCell ⟨w.heap.size + 2, 0, none⟩ (.int .i64 0)).heap[D]? = some (.deferred (some [])) := ((KeepsOthers.setCell _ _ _).trans (KeepsOthers.setCell _ _ _)).same D _ ((HB5.out.block _ (Array.getElem?_eq_some_iff.1 HK.out).1).trans HK.out) rfl
       have hgp := grownBy_putObj' (((w4.setCell ⟨w.heap.size + 1, 0, none⟩ (.string (R.first ++ t))).setCell ⟨w.heap.size + 2, 0, none⟩ (.int .i64 0))) D (.deferred none)
       have e0 := Lib.cell_of_heap (heap_kept d0 hgp (fun r e => by cases e; exact ⟨_, hKf, rfl⟩)) 0
       have e1 := Lib.cell_of_heap (heap_kept d1 hgp (fun r e => by cases e; exact ⟨_, hKf, rfl⟩)) 0
       simp only [List.getElem?_toArray, List.getElem?_cons_zero, List.getElem?_cons_succ] at e0 e1
       refine ⟨by simp, .inl ⟨_, _, rfl, run_takeDeferred hKf, ?_⟩⟩
       refine ⟨.tuple #[.string (R.first ++ t), .int .i64 0], by simp [results, Tryz.results18, go_sem, e0, e1], rfl, ?_⟩
       exact (((HB.out.trans (HB5.out.mono HB.out.size)).setCell (p := ⟨w.heap.size + 1, 0, none⟩) (by simp) _).setCell (p := ⟨w.heap.size + 2, 0, none⟩) (by simp) _).trans (belowK_b (w := w) (Nat.le_refl _) (((w4.setCell ⟨w.heap.size + 1, 0, none⟩ (.string (R.first ++ t))).setCell ⟨w.heap.size + 2, 0, none⟩ (.int .i64 0))) D _ _ (by omega) hKf rfl rfl)
      exact AllReadyH.nil
     exact AllReadyH.nil
    exact AllReadyH.nil
 case stop =>
  rintro D cd pre W hD hpre ⟨⟨rfl, pre0, s, e, rfl, hz0, he, g0, g1⟩, hB1⟩ hK
  have hf : xs.find? (fun x => x.2 != 0) = some (s, e) := by
   obtain ⟨rest, hr⟩ := hpre
   rw [← hr, List.append_assoc, List.find?_append, List.find?_eq_none.2 (fun x hx => by simp [hz0 x hx])]
   simp [he]
  have hh := HE.out
  unfold partEnds at hh
  rw [hf] at hh
  injection hh with hh
  injection hh with e1 e2
  subst e1 e2
  have HB := Lib.hid hB1
  have HK := Lib.hid hK
  have G0 := Lib.hid g0
  have G1 := Lib.hid g1
  clear hf HE g0 g1 hB1 hK hpre
  gi_wp2
  have hKf : W.heap[D]? = some (.deferred (some [])) := HK.out
  have hgp := grownBy_putObj' (W) D (.deferred none)
  have e0 := Lib.cell_of_heap (heap_kept G0.out hgp (fun r e => by cases e; exact ⟨_, hKf, rfl⟩)) 0
  have e1 := Lib.cell_of_heap (heap_kept G1.out hgp (fun r e => by cases e; exact ⟨_, hKf, rfl⟩)) 0
  simp only [List.getElem?_toArray, List.getElem?_cons_zero, List.getElem?_cons_succ] at e0 e1
  refine ⟨by simp, .inl ⟨_, _, rfl, run_takeDeferred hKf, ?_⟩⟩
  refine ⟨.tuple #[.string ⟨#[]⟩, .int .i64 e], by simp [results, Tryz.results18, go_sem, e0, e1], rfl, ?_⟩
  exact (HB.out).trans (belowK_b (w := w) (Nat.le_refl _) (W) D _ _ (by omega) hKf rfl rfl)
theorem expand_Part.calls (k : Nat) (lit : ByteArray) (op : Int) (A : Option Addr) (c : Nat) (sp : List S55) (Aa : Option Addr) (ca : Nat) (a : List S46) (r1 : ByteArray) (r2 : Int) (w : World)
 (hr0 : Kd.C k55 w A sp.length sp) (hc0 : sp.length ≤ c) (hr1 : Kd.C k46 w Aa a.length a) (hc1 : a.length ≤ ca) (h : expand_Part.f k lit op sp a = some (r1, r2)) :
 Calls Tryz.prog 18 #[.agg #[.string lit, .int .u8 op, .slice A sp.length c], .slice Aa a.length ca] w fun e w' => e = .returned (.tuple #[.string r1, .int .i64 r2]) ∧ Below w.heap.size w w' := by
 obtain ⟨m, hm, -⟩ := Option.bind_eq_some_iff.1 h
 by_cases hsp : sp = []
 · exact expand_Part0 k lit op A c sp Aa ca a r1 r2 w hr0 hc0 hr1 hc1 h (.inr hsp)
 · cases m with
   | false => exact expand_Part0 k lit op A c sp Aa ca a r1 r2 w hr0 hc0 hr1 hc1 h (.inl hm)
   | true => exact expand_Part1 k lit op A c sp Aa ca a r1 r2 w hr0 hc0 hr1 hc1 h hm hsp
end Go.Proofs.YtlocbpaikdgmbaaGreatDoor.P
end
section
namespace Go.Proofs.YtlocbpaikdgmbaaGreatDoor.P
open Go Go.RowKit Go.Proofs.YtlocbpaikdgmbaaGreatDoorW.PrintWords Go.Proofs.YtlocbpaikdgmbaaGreatDoorW.PrintLast Go.Proofs.YtlocbpaikdgmbaaGreatDoorW.PrintMore
set_option linter.unusedVariables false
set_option linter.unusedSimpArgs false
theorem B_cell (b : Nat) (l : List UInt8) (w : World) (h : IsB b l w) : ∃ A c, w.cell? ⟨b, 1, none⟩ = some (.slice A l.length c) := by
 have key : ∀ p, Lib.BuilderAt 100 5 b b p (Lib.byteCells l) w → ∃ A c, w.cell? ⟨b, 1, none⟩ = some (.slice A l.length c) := by
  rintro p ⟨-, v, h2, h3, -⟩
  obtain ⟨A, c, rfl⟩ := own_slice h3
  rw [Lib.byteCells_length] at h2
  exact ⟨A, c, (Lib.cell_of_heap h2 1).trans (by simp)⟩
 rcases h with h | h
 · exact key _ h
 · exact key _ h
theorem B_Len (b : Nat) (l : List UInt8) (w : World) (h : IsB b l w) : Calls Tryz.prog 56 #[.pointer (some ⟨b, 0, none⟩)] w fun e w' => e = .returned (.int .i64 l.length) ∧ w = w' := by
 obtain ⟨A, c, hc⟩ := B_cell b l w h
 clear h
 go_enter Tryz.func56, Tryz.ntmps56
 go_wp2
 go_ret
 exact ⟨rfl, rfl⟩
def allO (k : Nat) (a : List S46) : List S31 → List UInt8 → Option (List UInt8 × Int)
 | [], acc => some (acc, 0)
 | p :: r, acc => (expand_Part.f k p.f0 p.f1 p.f2 a).bind fun q => if q.2 ≠ 0 then some ([], q.2) else if acc.length + q.1.size ≤ 140737488355328 then allO k a r (acc ++ q.1.data.toList) else none
def allEnds (most : Int) (r : List UInt8 × Int) : ByteArray × Int := if r.2 ≠ 0 then (⟨#[]⟩, r.2) else if (r.1.length : Int) > most then (⟨#[]⟩, 5) else (⟨r.1.toArray⟩, 0)
def expand_All.f (k : Nat) (t : List S31) (a : List S46) (most : Int) : Option (ByteArray × Int) :=
 (tmpl_May.f k t).bind fun m => if m = false ∨ most < 0 then some (⟨#[]⟩, 1) else if t.length < 8796093022208 then (allO k a t []).map (allEnds most) else none
theorem part_at (l : List S31) (i : Nat) (h : i < l.length) : ∃ y, rd_T31 l (i : Int) = y ∧ l.drop i = y :: l.drop (i + 1) := by
 refine ⟨l[i], ?_, (List.drop_eq_getElem_cons h)⟩
 simp [rd_T31, h]
theorem IsB_made (w : World) : IsB w.heap.size [] (w.alloc (.cells #[.pointer none, .slice none 0 0] 100)) :=
 .inl ⟨Nat.le_refl _, _, blk_new w _, World.ownsRow_nil _ _ _ _, by simp [Value.ownBlock]⟩
set_option maxRecDepth 100000 in
set_option maxHeartbeats 2000000 in
theorem expand_All.calls (k : Nat) (At : Option Addr) (ct : Nat) (t : List S31) (Aa : Option Addr) (ca : Nat) (a : List S46) (most : Int) (r1 : ByteArray) (r2 : Int) (w : World)
 (hr0 : Kd.C k31 w At t.length t) (hc0 : t.length ≤ ct) (hr1 : Kd.C k46 w Aa a.length a) (hc1 : a.length ≤ ca) (h : expand_All.f k t a most = some (r1, r2)) :
 Calls Tryz.prog 22 #[.slice At t.length ct, .slice Aa a.length ca, .int .i64 most] w fun e w' => e = .returned (.tuple #[.string r1, .int .i64 r2]) ∧ Below w.heap.size w w' := by
 unfold expand_All.f at h
 obtain ⟨m, hm, h⟩ := Option.bind_eq_some_iff.1 h
 have HM := Lib.hid hm
 have HC0 := Lib.hid hr0
 have HC1 := Lib.hid hr1
 have K0 := Lib.hid hc0
 have K1 := Lib.hid hc1
 clear hm hr0 hr1 hc0 hc1
 cases m with
 | false =>
  rw [if_pos (.inl rfl)] at h
  injection h with h
  injection h with e1 e2
  subst e1 e2
  go_enter Tryz.func22, Tryz.ntmps22
  go_wp2_with (go_at_call 48; refine (tmpl_May.calls k At ct t _ _ HC0.out K0.out HM.out).mono ?_; rintro e w1 ⟨rfl, hb1⟩; have HB1 := Lib.hid hb1; clear hb1)
  go_ret2
  exact ⟨rfl, HB1.out⟩
 | true =>
  by_cases hneg : most < 0
  · rw [if_pos (.inr hneg)] at h
    injection h with h
    injection h with e1 e2
    subst e1 e2
    go_enter Tryz.func22, Tryz.ntmps22
    go_wp2_with (go_at_call 48; refine (tmpl_May.calls k At ct t _ _ HC0.out K0.out HM.out).mono ?_; rintro e w1 ⟨rfl, hb1⟩; have HB1 := Lib.hid hb1; clear hb1)
    go_ret2
    exact ⟨rfl, HB1.out⟩
  · rw [if_neg (by simp [hneg])] at h
    by_cases hlen : t.length < 8796093022208
    case neg => rw [if_neg hlen] at h; cases h
    rw [if_pos hlen] at h
    obtain ⟨R, hR, h⟩ := Option.map_eq_some_iff.1 h
    have HR := Lib.hid hR
    have HE := Lib.hid h
    clear hR h
    have hn2 : decide (most < 0) = false := by simpa using hneg
    go_enter Tryz.func22, Tryz.ntmps22
    go_wp2_with (go_at_call 48; refine (tmpl_May.calls k At ct t _ _ HC0.out K0.out HM.out).mono ?_; rintro e w1 ⟨rfl, hb1⟩; have HB1 := Lib.hid hb1; clear hb1)
    obtain ⟨b, hb⟩ : ∃ b, b = w1.heap.size := ⟨_, rfl⟩
    rw [← hb]
    have hbw : w.heap.size ≤ b := by rw [hb]; exact HB1.out.size
    have HI0 := Lib.hid (IsB_made w1)
    rw [← hb] at HI0
    have HB0 := Lib.hid (HB1.out.alloc HB1.out.size (.cells #[.pointer none, .slice none 0 0] 100))
    clear hb HB1
    go_loopw [22] (fun i wr => ∃ (m : Nat) (acc : List UInt8), m ≤ t.length ∧ i = .int .i64 (m : Int) ∧ Hid (allO k a (t.drop m) acc = some R) ∧ Hid (IsB b acc wr) ∧ Hid (Below w.heap.size w wr)) (fun i _ => t.length - (intOf i).toNat)
    case atStart => exact ⟨0, [], Nat.zero_le _, rfl, HR, HI0, HB0⟩
    case round =>
     obtain ⟨m, acc, hm, rfl, HA, HI, HB⟩ := hrel
     by_cases hlt : m < t.length
     · obtain ⟨y, hy, hd⟩ := part_at t m hlt
       have ha := HA.out
       rw [hd] at ha
       unfold allO at ha
       obtain ⟨⟨s, e⟩, hp, ha⟩ := Option.bind_eq_some_iff.1 ha
       dsimp only at ha
       obtain ⟨ad, A2, c2, rfl, x0, x1, x2, hl2, hC2⟩ := at_T31 (Kd.C_below HC0.out HB.out) (m : Int) (by omega) (by omega)
       rw [hy] at x0 x1 x2 hl2 hC2
       simp only [Int.toNat_natCast] at x0 x1 x2
       have HP := Lib.hid hp
       have HC2 := Lib.hid hC2
       have HL2 := Lib.hid hl2
       clear hy hd hp hC2 hl2
       by_cases he : e = 0
       · subst he
         rw [if_neg (by simp)] at ha
         by_cases hsz : acc.length + s.size ≤ 140737488355328
         case neg => rw [if_neg hsz] at ha; cases ha
         rw [if_pos hsz] at ha
         have HN := Lib.hid ha
         clear ha
         go_wp2_with (first
          | (go_at_call 18; refine (expand_Part.calls k y.f0 y.f1 A2 c2 y.f2 Aa ca a s 0 _ (Kd.C_below HC2.out ((Below.refl _ _).alloc (Nat.le_refl _) _)) HL2.out (Kd.C_below HC1.out (HB.out.alloc HB.out.size _)) K1.out HP.out).mono ?_; rintro e w2 ⟨rfl, hb2⟩; have hbA : Below wr.heap.size wr w2 := below_step ((Below.refl wr.heap.size wr).alloc (Nat.le_refl _) _) hb2; have HI2 := Lib.hid (HI.out.kept hbA); have HB2 := Lib.hid (below_step HB.out hbA); clear hb2 hbA)
          | (go_at_call 55; refine (B_WriteString b acc s _ HI2.out hsz).mono ?_; rintro e w3 ⟨rfl, hi3, hb3, ho3⟩; have HI3 := Lib.hid hi3; have HB3 := Lib.hid (HB2.out.trans (hb3.mono hbw)); clear hi3 hb3 ho3))
         go_roundw
         case rel => exact ⟨m + 1, _, hlt, by go_num, HN, HI3, HB3⟩
         case measure => simp [intOf]; omega
       · rw [if_pos (by simpa using he)] at ha
         injection ha with ha
         have hr : r1 = ⟨#[]⟩ ∧ r2 = e := by
          have h2 := HE.out
          rw [← ha] at h2
          unfold allEnds at h2
          rw [if_pos (by simpa using he)] at h2
          injection h2 with h3 h4
          exact ⟨h3.symm, h4.symm⟩
         obtain ⟨rfl, rfl⟩ := hr
         clear ha HE
         go_wp2_with (go_at_call 18; refine (expand_Part.calls k y.f0 y.f1 A2 c2 y.f2 Aa ca a s _ _ (Kd.C_below HC2.out ((Below.refl _ _).alloc (Nat.le_refl _) _)) HL2.out (Kd.C_below HC1.out (HB.out.alloc HB.out.size _)) K1.out HP.out).mono ?_; rintro e w2 ⟨rfl, hb2⟩; have hbA : Below wr.heap.size wr w2 := below_step ((Below.refl wr.heap.size wr).alloc (Nat.le_refl _) _) hb2; have HB2 := Lib.hid (below_step HB.out hbA); clear hb2 hbA)
         go_ret2
         exact ⟨rfl, HB2.out⟩
     · have ha := HA.out
       rw [List.drop_eq_nil_of_le (by omega)] at ha
       unfold allO at ha
       injection ha with ha
       have he := HE.out
       rw [← ha] at he
       unfold allEnds at he
       rw [if_neg (by simp)] at he
       dsimp only at he
       by_cases hlong : (acc.length : Int) > most
       · rw [if_pos hlong] at he
         injection he with e1 e2
         subst e1 e2
         clear ha HE
         go_wp2_with (go_at_call 56; refine (B_Len b acc _ HI.out).mono ?_; rintro e w2 ⟨rfl, rfl⟩)
         go_ret2
         exact ⟨rfl, HB.out⟩
       · rw [if_neg hlong] at he
         injection he with e1 e2
         subst e1 e2
         clear ha HE
         go_wp2_with (first
          | (go_at_call 56; refine (B_Len b acc _ HI.out).mono ?_; rintro e w2 ⟨rfl, rfl⟩)
          | (go_at_call 57; refine (B_String b acc _ HI.out).mono ?_; rintro e w2 ⟨rfl, hb2⟩; have HB2 := Lib.hid (HB.out.trans (hb2.mono hbw)); clear hb2))
         go_ret2
         exact ⟨rfl, HB2.out⟩
end Go.Proofs.YtlocbpaikdgmbaaGreatDoor.P
end
section
namespace Go.Proofs.YtlocbpaikdgmbaaGreatDoor.P
open Go.RowKit Go.Proofs.YtlocbpaikdgmbaaGreatDoorW.PrintWords Go.Proofs.YtlocbpaikdgmbaaGreatDoorW.PrintLast Go.Proofs.YtlocbpaikdgmbaaGreatDoorW.PrintMore
set_option linter.unusedVariables false
set_option linter.unusedSimpArgs false
def C3 (w : World) (g : Nat) (T : TypeId) (x y z : Value) : Prop := w.heap[g]? = some (.cells #[x, y, z] T (0, 0))
section
variable {w : World} {g : Nat} {T : TypeId} {x y z : Value}
theorem C3.cell0 (h : C3 w g T x y z) : w.cell? ⟨g, 0, none⟩ = some x := by unfold C3 at h; rw [Lib.cell_of_heap h]; rfl
theorem C3.cell1 (h : C3 w g T x y z) : w.cell? ⟨g, 1, none⟩ = some y := by unfold C3 at h; rw [Lib.cell_of_heap h]; rfl
theorem C3.cell2 (h : C3 w g T x y z) : w.cell? ⟨g, 2, none⟩ = some z := by unfold C3 at h; rw [Lib.cell_of_heap h]; rfl
theorem C3.free (h : C3 w g T x y z) (j : Nat) : w.frozen? ⟨g, j, none⟩ = false := Lib.frozen_of_heap h j
theorem C3.lt (h : C3 w g T x y z) : g < w.heap.size := (Array.getElem?_eq_some_iff.1 h).1
theorem C3.but {w' : World} {b : Nat} (h : C3 w g T x y z) (hb : But b w w') (hn : g ≠ b) : C3 w' g T x y z := (hb.block g h.lt hn).trans h
theorem C3.grown {w' : World} {row : Option Nat} (h : C3 w g T x y z) (hg : w.grownBy w' row) (hn : some g ≠ row) : C3 w' g T x y z := (hg.block g h.lt hn).trans h
theorem C3.far (h : C3 w g T x y z) {p : Addr} (hp : g ≠ p.block) (u : Value) : C3 (w.setCell p u) g T x y z := (Below.heap_setCell w p u g hp).trans h
theorem C3.set0 (h : C3 w g T x y z) (u : Value) : C3 (w.setCell ⟨g, 0, none⟩ u) g T u y z := heap_setCell_same _ _ 0 _ _ _ h
theorem C3.set1 (h : C3 w g T x y z) (u : Value) : C3 (w.setCell ⟨g, 1, none⟩ u) g T x u z := heap_setCell_same _ _ 1 _ _ _ h
theorem C3.set2 (h : C3 w g T x y z) (u : Value) : C3 (w.setCell ⟨g, 2, none⟩ u) g T x y u := heap_setCell_same _ _ 2 _ _ _ h
end
theorem Rd.grown {w w' : World} {g : Nat} {s : ByteArray} {a : Int} {v : Value} {row : Option Nat} (h : Rd w g s a v) (hg : w.grownBy w' row) (hn : some g ≠ row) : Rd w' g s a v := (hg.block g h.lt hn).trans h
theorem But.grown {g : Nat} {w w1 w2 : World} {row : Option Nat} (h : But g w w1) (hg : w1.grownBy w2 row) (hr : ∀ k, row = some k → w.heap.size ≤ k) : But g w w2 :=
 ⟨hg.os.trans h.os, hg.tape.trans h.tape, hg.output.trans h.output, Nat.le_trans h.size hg.size, fun i hi hn => (hg.block i (Nat.lt_of_lt_of_le hi h.size) (fun e => by have := hr i e.symm; omega)).trans (h.block i hi hn)⟩
def exprFrom (s : ByteArray) : Nat → Int → List S55 → Option (Bool × List S55 × Int)
 | 0, _, _ => none
 | d + 1, a, l => (reader_spec.f s a).bind fun t =>
  if t.1 = true then (if t.2.2.1 = 125 then some (true, l ++ [⟨t.2.1.1, t.2.1.2.1, t.2.1.2.2⟩], t.2.2.2) else exprFrom s d t.2.2.2 (l ++ [⟨t.2.1.1, t.2.1.2.1, t.2.1.2.2⟩]))
  else some (false, [], t.2.2.2)
def opOf (r : ByteArray) : Option Int :=
 if r.toList = [] then some 0 else if bt r 0 = 0 then some 0 else (tmpl_Operator.f (bt r 0)).map fun b => if b = true then bt r 0 else 0
def reader_expression.f (s : ByteArray) (a : Int) : Option (Int × Bool × List S55 × Int) :=
 (opOf (s.extract a.toNat s.size)).bind fun op => (exprFrom s (s.size + 2) (if op = 0 then a else a + 1) []).map fun t => (op, t)
theorem reader_spec_bounds {s : ByteArray} {a : Int} {ok : Bool} {x : ByteArray × Int × Bool} {c a' : Int} (h0 : 0 ≤ a) (h1 : a ≤ s.size) (h : reader_spec.f s a = some (ok, x, c, a')) : a ≤ a' ∧ a' ≤ s.size ∧ (ok = true → a + 1 ≤ a' ∧ (c = 44 ∨ c = 125)) := by
 unfold reader_spec.f at h
 obtain ⟨⟨nm1, m1, st1, n, bad⟩, hta, h⟩ := Option.bind_eq_some_iff.1 h
 have htb := take_bounds hta
 have hsp := anyFrom_spec (s.extract a.toNat s.size) (s.extract a.toNat s.size).size 0
 have hsz : (s.extract a.toNat s.size).size = s.size - a.toNat := by rw [ByteArray.size_extract]; omega
 obtain ⟨i, hi⟩ : ∃ i, i = anyFrom (s.extract a.toNat s.size) (s.extract a.toNat s.size).size 0 := ⟨_, rfl⟩
 simp only [← hi] at h htb hsp
 split at h
 · rename_i hc
   simp only [Option.some.injEq, Prod.mk.injEq] at h
   obtain ⟨_, _, hc1, ha1⟩ := h
   rcases hsp with hsp | ⟨h2, h3, h4⟩
   · omega
   · rw [if_pos hc.2, ByteArray.size_extract] at htb
     refine ⟨by omega, by omega, fun _ => ⟨by omega, ?_⟩⟩
     rw [← hc1]
     exact h4
 · simp only [Option.some.injEq, Prod.mk.injEq] at h
   obtain ⟨hok, _, _, ha1⟩ := h
   have h5 : n ≤ (s.extract a.toNat s.size).size := by
    split at htb
    · rw [ByteArray.size_extract] at htb
      omega
    · exact htb.2.1
   exact ⟨by omega, by omega, fun h => by rw [← hok] at h; cases h⟩
def atOf (w : World) (g : Nat) : Nat := match w.cell? ⟨g, 1, none⟩ with | some (.int _ a) => a.toNat | _ => 0
theorem Rd.atOf_eq {w : World} {g : Nat} {s : ByteArray} {a : Int} {v : Value} (h : Rd w g s a v) : atOf w g = a.toNat := by unfold atOf; rw [h.cell1]
structure ExprAt (w W : World) (g : Nat) (s : ByteArray) (a : Int) (pv : Value) (op : Int) (v : Value) (l : List S55) : Prop where
 rd : Rd W g s a pv
 out : C3 W w.heap.size 31 (.string ⟨#[]⟩) (.int .u8 0) (.slice none 0 0)
 p : C3 W (w.heap.size + 1) 31 (.string ⟨#[]⟩) (.int .u8 op) v
 row : Kd.R k55 55 W (w.heap.size + 2) (fun _ => True) v l
 but : But g w W
 sz : w.heap.size + 2 ≤ W.heap.size
theorem ExprAt.row_step {w W W' : World} {g : Nat} {v : Value} {l : List S55} (hrow : Kd.R k55 55 W (w.heap.size + 2) (fun _ => True) v l) (hm : ∀ k, w.heap.size + 2 ≤ k → k < W.heap.size → W'.heap[k]? = W.heap[k]?) : Kd.R k55 55 W' (w.heap.size + 2) (fun _ => True) v l :=
 Kd.R_mono (Kd.R_move (Kd.R_bound hrow) (fun k hk => hm k hk.2.1 hk.2.2.1)) (fun _ _ => trivial)
theorem ExprAt.start {w : World} {g : Nat} {s : ByteArray} {a : Int} {pv : Value} (hr : Rd w g s a pv) :
 ExprAt w ((w.alloc (.cells #[.string ⟨#[]⟩, .int .u8 0, .slice none 0 0] 31)).alloc (.cells #[.string ⟨#[]⟩, .int .u8 0, .slice none 0 0] 31)) g s a pv 0 (.slice none 0 0) [] :=
 ⟨hr.keep (((Below.refl _ _).alloc (Nat.le_refl _) _).alloc (by simp) _), heap_alloc2_old w _ _, heap_alloc2_new w _ _, Kd.R_nil _ _ _ _ _, ((But.refl g w).alloc _).alloc _, by simp⟩
theorem ExprAt.step {w W W' : World} {g : Nat} {s : ByteArray} {a a' : Int} {pv : Value} {op : Int} {v : Value} {l : List S55} (h : ExprAt w W g s a pv op v l) (hg : g < w.heap.size) (hr : Rd W' g s a' pv) (hb : But g W W') : ExprAt w W' g s a' pv op v l :=
 ⟨hr, h.out.but hb (by omega), h.p.but hb (by omega), ExprAt.row_step (g := g) h.row (fun k hk hl => hb.block k hl (by omega)), h.but.trans hb, Nat.le_trans h.sz hb.size⟩
theorem ExprAt.below {w W W' : World} {g : Nat} {s : ByteArray} {a : Int} {pv : Value} {op : Int} {v : Value} {l : List S55} (h : ExprAt w W g s a pv op v l) (hg : g < w.heap.size) (hb : Below W.heap.size W W') : ExprAt w W' g s a pv op v l := h.step hg (h.rd.keep hb) (But.of hb)
theorem ExprAt.opened {w W : World} {g : Nat} {s : ByteArray} {a : Int} {pv : Value} {op : Int} {v : Value} {l : List S55} (h : ExprAt w W g s a pv op v l) (hg : g < w.heap.size) (c : Int) :
 ExprAt w ((W.setCell ⟨w.heap.size + 1, 1, none⟩ (.int .u8 c)).setCell ⟨g, 1, none⟩ (.int .i64 (a + 1))) g s (a + 1) pv c v l :=
 ⟨(h.rd.far (by show g ≠ w.heap.size + 1; omega) _).setAt _,
  (h.out.far (by show w.heap.size ≠ w.heap.size + 1; omega) _).far (by show w.heap.size ≠ g; omega) _,
  (h.p.set1 _).far (by show w.heap.size + 1 ≠ g; omega) _,
  ExprAt.row_step (g := g) h.row (fun k hk _ => by rw [Below.heap_setCell _ _ _ k (by show k ≠ g; omega), Below.heap_setCell _ _ _ k (by show k ≠ w.heap.size + 1; omega)]),
  (h.but.far (p := ⟨w.heap.size + 1, 1, none⟩) (by show w.heap.size ≤ w.heap.size + 1; omega) _).set 1 _,
  by simpa [World.setCell] using h.sz⟩
theorem ExprAt.own {w W : World} {g : Nat} {s : ByteArray} {a : Int} {pv : Value} {op : Int} {v : Value} {l : List S55} (h : ExprAt w W g s a pv op v l) : ∀ k, v.ownBlock = some k → w.heap.size + 2 ≤ k := fun k hk => Kd.R_base h.row k hk
theorem ExprAt.appended {w W W' : World} {g : Nat} {s : ByteArray} {a : Int} {pv : Value} {op : Int} {v v1 : Value} {l l1 : List S55} (h : ExprAt w W g s a pv op v l) (hgl : g < w.heap.size) (hr : Kd.R k55 55 W' (w.heap.size + 2) (fun _ => True) v1 l1) (hg : W.grownBy W' v.ownBlock) :
 ExprAt w (W'.setCell ⟨w.heap.size + 1, 2, none⟩ v1) g s a pv op v1 l1 :=
 ⟨(h.rd.grown hg (fun e => by have := h.own g e.symm; omega)).far (by show g ≠ w.heap.size + 1; omega) _,
  (h.out.grown hg (fun e => by have := h.own _ e.symm; omega)).far (by show w.heap.size ≠ w.heap.size + 1; omega) _,
  (h.p.grown hg (fun e => by have := h.own _ e.symm; omega)).set2 _,
  ExprAt.row_step (g := g) hr (fun k hk _ => Below.heap_setCell W' ⟨w.heap.size + 1, 2, none⟩ v1 k (by show k ≠ w.heap.size + 1; omega)),
  (h.but.grown hg (fun k hk => by have := h.own k hk; omega)).far (p := ⟨w.heap.size + 1, 2, none⟩) (by show w.heap.size ≤ w.heap.size + 1; omega) _,
  by simpa [World.setCell] using Nat.le_trans h.sz hg.size⟩
theorem ExprAt.done {w W : World} {g : Nat} {s : ByteArray} {a : Int} {pv : Value} {op : Int} {v : Value} {l : List S55} (h : ExprAt w W g s a pv op v l) (hg : g < w.heap.size) :
 C3 (((W.setCell ⟨w.heap.size, 0, none⟩ (.string ⟨#[]⟩)).setCell ⟨w.heap.size, 1, none⟩ (.int .u8 op)).setCell ⟨w.heap.size, 2, none⟩ v) w.heap.size 31 (.string ⟨#[]⟩) (.int .u8 op) v ∧ Rd (((W.setCell ⟨w.heap.size, 0, none⟩ (.string ⟨#[]⟩)).setCell ⟨w.heap.size, 1, none⟩ (.int .u8 op)).setCell ⟨w.heap.size, 2, none⟩ v) g s a pv ∧ But g w (((W.setCell ⟨w.heap.size, 0, none⟩ (.string ⟨#[]⟩)).setCell ⟨w.heap.size, 1, none⟩ (.int .u8 op)).setCell ⟨w.heap.size, 2, none⟩ v) ∧ Kd.R k55 55 (((W.setCell ⟨w.heap.size, 0, none⟩ (.string ⟨#[]⟩)).setCell ⟨w.heap.size, 1, none⟩ (.int .u8 op)).setCell ⟨w.heap.size, 2, none⟩ v) w.heap.size (fun _ => True) v l :=
 ⟨((h.out.set0 _).set1 _).set2 _,
  ((h.rd.far (by show g ≠ w.heap.size; omega) _).far (by show g ≠ w.heap.size; omega) _).far (by show g ≠ w.heap.size; omega) _,
  ((h.but.far (p := ⟨w.heap.size, 0, none⟩) (Nat.le_refl _) _).far (p := ⟨w.heap.size, 1, none⟩) (Nat.le_refl _) _).far (p := ⟨w.heap.size, 2, none⟩) (Nat.le_refl _) _,
  Kd.R_lower (ExprAt.row_step (g := g) h.row (fun k hk _ => by
   rw [Below.heap_setCell _ _ _ k (by show k ≠ w.heap.size; omega), Below.heap_setCell _ _ _ k (by show k ≠ w.heap.size; omega), Below.heap_setCell _ _ _ k (by show k ≠ w.heap.size; omega)])) (by omega)⟩
def exprEnd (w : World) (op : Int) (ok : Bool) (l : List S55) (a' : Int) (e : Ending) (w' : World) : Prop :=
 if ok = true then ∃ v, e = .returned (.agg #[.string ⟨#[]⟩, .int .u8 op, v]) ∧ Kd.R k55 55 w' w.heap.size (fun _ => True) v l else e = wrongAt a'
theorem info_spec : (Tryz.prog.info? 55).map (fun i => (i.zero, i.size, i.bytes)) = some (some (.agg #[.string ⟨#[]⟩, .int .i64 0, .bool false]), 3, 32) := by kernel_rfl
set_option maxRecDepth 100000 in
set_option maxHeartbeats 4000000 in
theorem reader_expression.calls (w : World) (g : Nat) (s : ByteArray) (a : Int) (pv : Value) (op : Int) (ok : Bool) (l : List S55) (a' : Int) (hr : Rd w g s a pv) (h0 : 0 ≤ a) (h1 : a ≤ s.size) (hs : s.size ≤ 1099511627776) (hG : Gl w)
 (hg1 : g ≠ 3) (hg2 : g ≠ 1) (h : reader_expression.f s a = some (op, ok, l, a')) :
 Calls Tryz.prog 99 #[.pointer (some ⟨g, 0, none⟩)] w fun e w' =>
  exprEnd w op ok l a' e w' ∧ Rd w' g s a' pv ∧ But g w w' := by
 unfold reader_expression.f at h
 obtain ⟨r, hr'⟩ : ∃ r, r = s.extract a.toNat s.size := ⟨_, rfl⟩
 have hrsz : r.size = s.size - a.toNat := by rw [hr', ByteArray.size_extract]; omega
 rw [← hr'] at h
 obtain ⟨op1, hop, h⟩ := Option.bind_eq_some_iff.1 h
 obtain ⟨⟨ok1, l1, a1⟩, hex, h⟩ := Option.map_eq_some_iff.1 h
 simp only [Prod.mk.injEq] at h
 obtain ⟨rfl, rfl, rfl, rfl⟩ := h
 have HR := Lib.hid hr'
 have HS := Lib.hid hrsz
 have HRd := Lib.hid hr
 have HG := Lib.hid hG
 have hglt := hr.lt
 have HEx := Lib.hid hex
 clear hr' hr hG hex hrsz
 unfold opOf at hop
 by_cases hr0 : r.toList = []
 case' pos =>
  rw [if_pos hr0] at hop
  have q1 : (r.toList == ([] : List UInt8)) = true := beq_iff_eq.2 hr0
  have ho := Option.some.inj hop
  have HO := Lib.hid ho
  have hex := HEx.out
  rw [if_pos ho.symm] at hex
  have ha0 := h0
  have ha1 := h1
  have HEx := Lib.hid hex
  clear hop hr0 hex ho
  go_enter Tryz.func99, Tryz.ntmps99
  go_wp2_with fail
  refine (text_rest.calls _ g s a pv (HRd.out.keep (((Below.refl _ _).alloc (Nat.le_refl _) _).alloc (by simp) _)) h0 h1 hs).mono ?_
  rintro e w1 ⟨rfl, hb1⟩
  rw [← HR.out]
  have hx1 : ExprAt w w1 g s a pv 0 (.slice none 0 0) [] := (ExprAt.start HRd.out).below hglt hb1.below
  rw [HO.out] at hx1
  have HX1 := Lib.hid hx1
  clear hb1 hx1
  go_wp2
 case' neg =>
  rw [if_neg hr0] at hop
  have q1 : (r.toList == ([] : List UInt8)) = false := beq_eq_false_iff_ne.2 hr0
  have hpos : 0 < r.size := Nat.pos_of_ne_zero (fun e => hr0 ((toList_nil_iff r).2 e))
  have hix : ∀ h : 0 < r.size, ((r[0]'h).toNat : Int) = bt r 0 := fun h => bt_at r 0 h
  obtain ⟨c, hc⟩ : ∃ c, c = bt r 0 := ⟨_, rfl⟩
  rw [← hc] at hop hix
  clear hc hr0
  by_cases hc0 : c = 0
  case' pos =>
   rw [if_pos hc0] at hop
   have q2 : (c == 0) = true := beq_iff_eq.2 hc0
   have ho := Option.some.inj hop
   have HO := Lib.hid ho
   have hex := HEx.out
   rw [if_pos ho.symm] at hex
   have ha0 := h0
   have ha1 := h1
   have HEx := Lib.hid hex
   have q3 : (c != 0) = false := by simp [hc0]
   clear hop hex ho hc0
   go_enter Tryz.func99, Tryz.ntmps99
   go_wp2_with fail
   refine (text_rest.calls _ g s a pv (HRd.out.keep (((Below.refl _ _).alloc (Nat.le_refl _) _).alloc (by simp) _)) h0 h1 hs).mono ?_
   rintro e w1 ⟨rfl, hb1⟩
   rw [← HR.out]
   have hx1 : ExprAt w w1 g s a pv 0 (.slice none 0 0) [] := (ExprAt.start HRd.out).below hglt hb1.below
   rw [HO.out] at hx1
   have HX1 := Lib.hid hx1
   clear hb1 hx1
   go_wp2
  case' neg =>
   rw [if_neg hc0] at hop
   have q2 : (c == 0) = false := beq_eq_false_iff_ne.2 hc0
   obtain ⟨b, hb, ho1⟩ := Option.map_eq_some_iff.1 hop
   have HOp := Lib.hid hb
   cases b
   case' false =>
    have hop : some (0 : Int) = some op1 := by rw [← ho1]; rfl
    have ho := Option.some.inj hop
    have HO := Lib.hid ho
    have hex := HEx.out
    rw [if_pos ho.symm] at hex
    have ha0 := h0
    have ha1 := h1
    have HEx := Lib.hid hex
    have q3 : (c != 0) = true := bne_iff_ne.2 hc0
    clear hop hex ho hb ho1
    go_enter Tryz.func99, Tryz.ntmps99
    go_wp2_with fail
    refine (text_rest.calls _ g s a pv (HRd.out.keep (((Below.refl _ _).alloc (Nat.le_refl _) _).alloc (by simp) _)) h0 h1 hs).mono ?_
    rintro e w1 ⟨rfl, hb1⟩
    rw [← HR.out]
    have hx1 : ExprAt w w1 g s a pv 0 (.slice none 0 0) [] := (ExprAt.start HRd.out).below hglt hb1.below
    rw [HO.out] at hx1
    go_wp2_with (go_at_call 78; refine (tmpl_Operator.calls c _ _ HOp.out).mono ?_; rintro e w2 ⟨rfl, hb2⟩; have HX1 := Lib.hid (hx1.below hglt hb2.below); clear hb1 hx1 hb2)
   case' true =>
    have ho : c = op1 := by rw [← ho1]; rfl
    have HO := Lib.hid ho
    have hex := HEx.out
    rw [if_neg (by rw [← ho]; exact hc0)] at hex
    have ha1 : a + 1 ≤ s.size := by have := HS.out; omega
    have ha0 : 0 ≤ a + 1 := by omega
    have HEx := Lib.hid hex
    have q3 : (c != 0) = true := bne_iff_ne.2 hc0
    clear hop hex ho hb ho1
    go_enter Tryz.func99, Tryz.ntmps99
    go_wp2_with fail
    refine (text_rest.calls _ g s a pv (HRd.out.keep (((Below.refl _ _).alloc (Nat.le_refl _) _).alloc (by simp) _)) h0 h1 hs).mono ?_
    rintro e w1 ⟨rfl, hb1⟩
    rw [← HR.out]
    have hx1 : ExprAt w w1 g s a pv 0 (.slice none 0 0) [] := (ExprAt.start HRd.out).below hglt hb1.below
    have hn1 : ¬ g = w.heap.size + 1 := by omega
    go_wp2_with (go_at_call 78; refine (tmpl_Operator.calls c _ _ HOp.out).mono ?_; rintro e w2 ⟨rfl, hb2⟩; have hx2 := hx1.below hglt hb2.below; have p1 := hx2.p.cell1; have p2 := hx2.p.free 1; have g1 := hx2.rd.cell1; have g2 := hx2.rd.free 1; have HX1 := Lib.hid (show ExprAt w ((w2.setCell ⟨w.heap.size + 1, 1, none⟩ (.int .u8 c)).setCell ⟨g, 1, none⟩ (.int .i64 (a + 1))) g s (a + 1) pv op1 (.slice none 0 0) [] from (congrArg (fun q => ExprAt w ((w2.setCell ⟨w.heap.size + 1, 1, none⟩ (.int .u8 c)).setCell ⟨g, 1, none⟩ (.int .i64 (a + 1))) g s (a + 1) pv q (.slice none 0 0) []) HO.out).mp (hx2.opened hglt c)); clear hb1 hx1 hb2 hx2)
 all_goals
  go_loopw [5, 6] (fun _ _ wr => ∃ (d : Nat) (x : Int) (v : Value) (l : List S55), 0 ≤ x ∧ x ≤ s.size ∧ (s.size : Int) < x + d ∧ (l.length : Int) ≤ x ∧ Hid (ExprAt w wr g s x pv op1 v l) ∧ Hid (exprFrom s d x l = some (ok1, l1, a1))) (fun _ _ wr => s.size + 1 - atOf wr g)
  case atStart => exact ⟨s.size + 2, _, .slice none 0 0, [], ha0, ha1, by omega, by simp; omega, HX1, HEx⟩
  case round =>
   obtain ⟨d, x, v, l, hx0, hx1, hd, hl, HXr, HE⟩ := hrel
   cases d with
   | zero => omega
   | succ d =>
    have hE := HE.out
    rw [exprFrom] at hE
    obtain ⟨⟨ok2, ⟨nm, m, st⟩, c2, a2⟩, hsp, hE⟩ := Option.bind_eq_some_iff.1 hE
    have hbd := reader_spec_bounds hx0 hx1 hsp
    have HSP := Lib.hid hsp
    simp only at hE
    have HMS := Lib.hid HXr.out.rd.atOf_eq
    clear hsp HE
    cases ok2 with
    | false =>
     rw [if_neg (by simp)] at hE
     have HE1 := Lib.hid (Option.some.inj hE)
     clear hE
     go_wp2_with fail
     refine (reader_spec.calls _ g s x pv false nm m st c2 a2 HXr.out.rd hx0 hx1 hs (HXr.out.but.gl HG.out hg1 hg2) HSP.out).mono ?_
     rintro e w2 ⟨he, hrd, hbt⟩
     rw [if_neg (by simp)] at he
     subst he
     unfold wrongAt
     go_wp2
     refine ⟨rfl, ?_⟩
     have := HE1.out
     simp only [Prod.mk.injEq] at this
     obtain ⟨rfl, rfl, rfl⟩ := this
     exact ⟨rfl, hrd, HXr.out.but.trans hbt⟩
    | true =>
     rw [if_pos rfl] at hE
     obtain ⟨hb1, hb2, hb3⟩ := hbd
     obtain ⟨hb3, hb4⟩ := hb3 rfl
     by_cases hc : c2 = 125
     · have q9 : (c2 == 125) = true := beq_iff_eq.2 hc
       rw [if_pos hc] at hE
       have HE1 := Lib.hid (Option.some.inj hE)
       clear hE hb4 hc
       go_wp2_with fail
       refine (reader_spec.calls _ g s x pv true nm m st c2 a2 HXr.out.rd hx0 hx1 hs (HXr.out.but.gl HG.out hg1 hg2) HSP.out).mono ?_
       rintro e w2 ⟨he, hrd, hbt⟩
       rw [if_pos rfl] at he
       subst he
       have hx2 := HXr.out.step hglt hrd hbt
       have hp2 := hx2.p.cell2
       have hlt2 := hx2.p.lt
       have hxa := hx2.below hglt ((Below.refl _ _).alloc (Nat.le_refl _) (.cells #[.string nm, .int .i64 m, .bool st] 55))
       have HXa := Lib.hid hxa
       have HL := Lib.hid (show (l.length : Int) + 1 ≤ a2 by omega)
       clear hrd hbt hx2 hxa
       go_wp2_with (at_builtin; go_must (refine Kd.R_append k55 (w0 := w2.alloc (.cells #[.string nm, .int .i64 m, .bool st] 55)) (w.heap.size + 2) rfl (.tmp 41) (.tmp 43) 29 55 (.agg #[.string ⟨#[]⟩, .int .i64 0, .bool false]) 32 rfl Tryz.underlying29 info_spec rfl (by decide) (by decide) v l (⟨nm, m, st⟩ : S55) [.string nm, .int .i64 m, .bool st] (fun _ => True) (fun _ => False) rfl (show Value.slice (some ⟨w2.heap.size + 1, 0, none⟩) 1 1 = Value.slice (some ⟨(w2.alloc (.cells #[.string nm, .int .i64 m, .bool st] 55)).heap.size, 0, none⟩) 1 1 by simp) (k55_mkM _ _ _ (⟨nm, m, st⟩ : S55)) (fun _ h => h.elim) (fun _ _ => trivial) HXa.out.row (Below.refl _ _) HXa.out.sz (by omega) ?_))
       intro v1 w3 HR1 _ hgr _
       obtain ⟨A1, cc1, rfl⟩ := Kd.R_slice HR1
       rw [List.length_append, List.length_singleton] at HR1
       have hx4 := HXa.out.appended hglt HR1 hgr
       have hpg := HXa.out.p.grown hgr (fun e => by have := HXa.out.own _ e.symm; omega)
       have e0 := hpg.cell0
       have e1 := hpg.cell1
       have e2 := hpg.cell2
       have f2 := hpg.free 2
       have hog := HXa.out.out.grown hgr (fun e => by have := HXa.out.own _ e.symm; omega)
       have x0 := hog.cell0
       have x1 := hog.cell1
       have x2 := hog.cell2
       have y0 := hog.free 0
       have y1 := hog.free 1
       have y2 := hog.free 2
       have HX4 := Lib.hid hx4
       have hm4 := hx4.rd.atOf_eq
       have HM4 := Lib.hid hm4
       have HRow := Lib.hid HR1
       clear hx4 hpg hog hgr HR1 hm4 hp2
       go_wp2
       obtain ⟨hd1, hd2, hd3, hd4⟩ := HX4.out.done hglt
       obtain ⟨W, hW⟩ : ∃ W, W = ((((w3.setCell ⟨w.heap.size + 1, 2, none⟩ (.slice A1 (l.length + 1) cc1)).setCell ⟨w.heap.size, 0, none⟩ (.string ⟨#[]⟩)).setCell ⟨w.heap.size, 1, none⟩ (.int .u8 op1)).setCell ⟨w.heap.size, 2, none⟩ (.slice A1 (l.length + 1) cc1)) := ⟨_, rfl⟩
       rw [← hW] at hd1 hd2 hd3 hd4 ⊢
       have z0 := hd1.cell0
       have z1 := hd1.cell1
       have z2 := hd1.cell2
       have := HE1.out
       simp only [Prod.mk.injEq] at this
       obtain ⟨rfl, rfl, rfl⟩ := this
       refine bodyPost_ret (v := .agg #[.string ⟨#[]⟩, .int .u8 op1, .slice A1 (l.length + 1) cc1]) (by simp [results, Tryz.results99, go_sem, z0, z1, z2]) rfl ⟨⟨_, rfl, hd4⟩, hd2, hd3⟩
     · have q9 : (c2 == 125) = false := beq_eq_false_iff_ne.2 hc
       rw [if_neg hc] at hE
       have HE1 := Lib.hid hE
       clear hE hb4 hc
       go_wp2_with fail
       refine (reader_spec.calls _ g s x pv true nm m st c2 a2 HXr.out.rd hx0 hx1 hs (HXr.out.but.gl HG.out hg1 hg2) HSP.out).mono ?_
       rintro e w2 ⟨he, hrd, hbt⟩
       rw [if_pos rfl] at he
       subst he
       have hx2 := HXr.out.step hglt hrd hbt
       have hp2 := hx2.p.cell2
       have hlt2 := hx2.p.lt
       have hxa := hx2.below hglt ((Below.refl _ _).alloc (Nat.le_refl _) (.cells #[.string nm, .int .i64 m, .bool st] 55))
       have HXa := Lib.hid hxa
       have HL := Lib.hid (show (l.length : Int) + 1 ≤ a2 by omega)
       clear hrd hbt hx2 hxa
       go_wp2_with (at_builtin; go_must (refine Kd.R_append k55 (w0 := w2.alloc (.cells #[.string nm, .int .i64 m, .bool st] 55)) (w.heap.size + 2) rfl (.tmp 41) (.tmp 43) 29 55 (.agg #[.string ⟨#[]⟩, .int .i64 0, .bool false]) 32 rfl Tryz.underlying29 info_spec rfl (by decide) (by decide) v l (⟨nm, m, st⟩ : S55) [.string nm, .int .i64 m, .bool st] (fun _ => True) (fun _ => False) rfl (show Value.slice (some ⟨w2.heap.size + 1, 0, none⟩) 1 1 = Value.slice (some ⟨(w2.alloc (.cells #[.string nm, .int .i64 m, .bool st] 55)).heap.size, 0, none⟩) 1 1 by simp) (k55_mkM _ _ _ (⟨nm, m, st⟩ : S55)) (fun _ h => h.elim) (fun _ _ => trivial) HXa.out.row (Below.refl _ _) HXa.out.sz (by omega) ?_))
       intro v1 w3 HR1 _ hgr _
       obtain ⟨A1, cc1, rfl⟩ := Kd.R_slice HR1
       rw [List.length_append, List.length_singleton] at HR1
       have hx4 := HXa.out.appended hglt HR1 hgr
       have hpg := HXa.out.p.grown hgr (fun e => by have := HXa.out.own _ e.symm; omega)
       have e0 := hpg.cell0
       have e1 := hpg.cell1
       have e2 := hpg.cell2
       have f2 := hpg.free 2
       have hog := HXa.out.out.grown hgr (fun e => by have := HXa.out.own _ e.symm; omega)
       have x0 := hog.cell0
       have x1 := hog.cell1
       have x2 := hog.cell2
       have y0 := hog.free 0
       have y1 := hog.free 1
       have y2 := hog.free 2
       have HX4 := Lib.hid hx4
       have hm4 := hx4.rd.atOf_eq
       have HM4 := Lib.hid hm4
       have HRow := Lib.hid HR1
       clear hx4 hpg hog hgr HR1 hm4 hp2
       go_wp2
       go_roundw
       case rel => exact ⟨d, a2, _, l ++ [⟨nm, m, st⟩], by omega, hb2, by omega, by rw [List.length_append]; simpa using HL.out, HX4, HE1⟩
       case measure =>
        rw [HMS.out, HM4.out]
        omega
def reader_part.f (k : Nat) (s : ByteArray) (a : Int) : Option (Bool × S31 × Int) :=
  if bt (s.extract a.toNat s.size) 0 = 123 then
    (reader_expression.f s (a + 1)).map fun t => (t.2.1, ⟨⟨#[]⟩, t.1, t.2.2.1⟩, t.2.2.2)
  else (tmpl_pieces.f k (s.extract a.toNat s.size)).bind fun n =>
    if n = 0 then (reader_stop.f k s a).map fun q => (false, z31, q)
    else if 0 ≤ n ∧ n ≤ (s.extract a.toNat s.size).size then some (true, ⟨(s.extract a.toNat s.size).extract 0 n.toNat, 0, []⟩, a + n) else none
structure PartsAt (W : World) (g : Nat) (s : ByteArray) (a : Int) (v : Value) (L : List S31) : Prop where
  rd : Rd W g s a v
  row : Kd.S k31 31 W (g + 1) (fun _ => True) v L
theorem PartsAt.own {W : World} {g : Nat} {s : ByteArray} {a : Int} {v : Value} {L : List S31} (h : PartsAt W g s a v L) : ∀ k, v.ownBlock = some k → g + 1 ≤ k ∧ k < W.heap.size := fun k hk => ⟨Kd.S_base h.row k hk, Kd.S_lt h.row k hk⟩
theorem PartsAt.row_step {W W' : World} {g : Nat} {v : Value} {L : List S31} (h : Kd.S k31 31 W (g + 1) (fun _ => True) v L) (hm : ∀ k, g + 1 ≤ k → k < W.heap.size → W'.heap[k]? = W.heap[k]?) : Kd.S k31 31 W' (g + 1) (fun k => k < W.heap.size) v L :=
  Kd.S_mono (Kd.S_move (Kd.S_bound h) (fun k hk => hm k hk.2.1 hk.2.2.1)) (fun k hk => hk.2.2.1)
def partEnd (g : Nat) (s : ByteArray) (L : List S31) (ok : Bool) (x : S31) (a' : Int) (e : Ending) (w' : World) : Prop :=
  if ok = true then e = .returned (.tuple #[]) ∧ ∃ v, PartsAt w' g s a' v (L ++ [x]) else e = wrongAt a'
theorem partDone {w0 W W2 W3 : World} {g : Nat} {s : ByteArray} {a a' : Int} {v v1 : Value} {L L1 : List S31} (hp : PartsAt W g s a v L) (hb : Below g w0 W) (hr : Rd W2 g s a' v) (h2 : But g W W2) (hg : W2.grownBy W3 v.ownBlock) (hs : Kd.S k31 31 W3 (g + 1) (fun _ => True) v1 L1) :
    PartsAt (W3.setCell ⟨g, 2, none⟩ v1) g s a' v1 L1 ∧ Below g w0 (W3.setCell ⟨g, 2, none⟩ v1) :=
  ⟨⟨(hr.grown hg (fun e => by have := (hp.own g e.symm).1; omega)).setParts _, Kd.S_mono (PartsAt.row_step (g := g) hs (fun k hk _ => Below.heap_setCell _ _ _ k (by show k ≠ g; omega))) (fun _ _ => trivial)⟩,
   ((((h2.below hb (Nat.le_refl _) (Nat.le_of_lt hp.rd.lt)).trans ⟨hg.os, hg.tape, hg.output, hg.size, fun k hk => hg.block k (by have := hp.rd.lt; have := h2.size; omega) (fun e => by have := (hp.own k e.symm).1; omega)⟩))).setCell (p := ⟨g, 2, none⟩) (Nat.le_refl _) _⟩
theorem PartsAt.setAt {W : World} {g : Nat} {s : ByteArray} {a : Int} {v : Value} {L : List S31} (h : PartsAt W g s a v L) (b : Int) : PartsAt (W.setCell ⟨g, 1, none⟩ (.int .i64 b)) g s b v L :=
  ⟨h.rd.setAt b, Kd.S_mono (PartsAt.row_step (g := g) h.row (fun k hk _ => Below.heap_setCell _ _ _ k (by show k ≠ g; omega))) (fun _ _ => trivial)⟩
theorem info_part : (Tryz.prog.info? 31).map (fun i => (i.zero, i.size, i.bytes)) = some (some (.agg #[.string ⟨#[]⟩, .int .u8 0, .slice none 0 0]), 3, 48) := by kernel_rfl
set_option maxRecDepth 100000 in
set_option maxHeartbeats 1000000 in
theorem reader_part.calls (k : Nat) (w : World) (g : Nat) (s : ByteArray) (a : Int) (v : Value) (L : List S31) (ok : Bool) (x : S31) (a' : Int) (hr : PartsAt w g s a v L) (h0 : 0 ≤ a) (h1 : a < s.size) (hs : s.size ≤ 1099511627776) (hL : L.length ≤ 1099511627776) (hG : Gl w)
    (hg1 : g ≠ 3) (hg2 : g ≠ 1) (h : reader_part.f k s a = some (ok, x, a')) :
    Calls Tryz.prog 75 #[.pointer (some ⟨g, 0, none⟩)] w fun e w' => partEnd g s L ok x a' e w' ∧ Below g w w' := by
  unfold reader_part.f at h
  obtain ⟨r, hr'⟩ : ∃ r, r = s.extract a.toNat s.size := ⟨_, rfl⟩
  have hrsz : r.size = s.size - a.toNat := by rw [hr', ByteArray.size_extract]; omega
  rw [← hr'] at h
  have HR := Lib.hid hr'
  have HS := Lib.hid hrsz
  have hrp : 0 < r.size := by omega
  have HP := Lib.hid hr
  have HG := Lib.hid hG
  have hglt := hr.rd.lt
  have hix : ∀ h : 0 < r.size, ((r[0]'h).toNat : Int) = bt r 0 := fun h => bt_at r 0 h
  obtain ⟨c, hc⟩ : ∃ c, c = bt r 0 := ⟨_, rfl⟩
  rw [← hc] at h hix
  clear hr' hrsz hr hG hc
  by_cases hc : c = 123
  · have q1 : (c == 123) = true := beq_iff_eq.2 hc
    rw [if_pos hc] at h
    obtain ⟨⟨op, ok2, l, a2⟩, hex, h⟩ := Option.map_eq_some_iff.1 h
    simp only [Prod.mk.injEq] at h
    obtain ⟨rfl, rfl, rfl⟩ := h
    have HE := Lib.hid hex
    clear hc hex
    cases ok2 with
    | true =>
      go_enter Tryz.func75, Tryz.ntmps75
      go_wp2_with fail
      refine (text_rest.calls _ g s a v HP.out.rd h0 (by omega) hs).mono ?_
      rintro e w1 ⟨rfl, hb1⟩
      rw [← HR.out]
      have hrd1 := HP.out.rd.keep hb1.below
      have r1 := hrd1.cell1
      have r2 := hrd1.cell2
      have z1 := hrd1.free 1
      have HRd1 := Lib.hid hrd1
      have HB1 := Lib.hid hb1.below
      clear hb1 hrd1
      go_wp2_with fail
      obtain ⟨Wb, hWb⟩ : ∃ W, W = w1.setCell ⟨g, 1, none⟩ (.int .i64 (a + 1)) := ⟨_, rfl⟩
      have hpb : PartsAt Wb g s (a + 1) v L := by
        rw [hWb]
        exact ⟨HRd1.out.setAt _, Kd.S_mono (PartsAt.row_step (g := g) HP.out.row (fun k hk hl => by rw [Below.heap_setCell _ _ _ k (by show k ≠ g; omega)]; exact HB1.out.block k hl)) (fun _ _ => trivial)⟩
      have hbb : Below g w Wb := by
        rw [hWb]
        exact (HB1.out.mono (Nat.le_of_lt hglt)).setCell (p := ⟨g, 1, none⟩) (Nat.le_refl _) _
      have hgb : Gl Wb := by
        rw [hWb]
        exact ((But.of HB1.out).set 1 _ : But g w _).gl HG.out hg1 hg2
      rw [← hWb]
      have b2 := hpb.rd.cell2
      have HPb := Lib.hid hpb
      have HBb := Lib.hid hbb
      have HGb := Lib.hid hgb
      have hgltb := hpb.rd.lt
      clear hWb hpb hbb hgb r1 r2 z1
      go_region_law (first
        | (refine goes_ Tryz.func99 (by kernel_rfl) rfl #[.pointer (some ⟨g, 0, none⟩)] (by rfl) rfl rfl (by (try simp only [List.map_toArray, List.map_cons, List.map_nil]); first | done | rfl) ?_; refine (reader_expression.calls _ g s (a + 1) v op true l a2 HPb.out.rd.drew (by omega) (by omega) hs (HGb.out.keep (below_drew (Below.refl _ _))) hg1 hg2 HE.out).mono ?_; rintro e w2 ⟨⟨v2, rfl, hrow2⟩, hrd2, hbt2⟩; obtain ⟨A2, cc2, rfl⟩ := Kd.R_slice hrow2; refine ⟨_, rfl, ?_⟩; have hlt2 := hrd2.lt; have d2 := hrd2.cell2; have e2 := hrd2.free 2; have HRow2 := Lib.hid hrow2; have HRd2 := Lib.hid hrd2; have HBt2 := Lib.hid hbt2; clear hrow2 hrd2 hbt2)
        | (refine Kd.S_append_step k31 (w0 := w2) (g + 1) (by rfl) (.tmp 22) (.tmp 25) 22 31 (.agg #[.string ⟨#[]⟩, .int .u8 0, .slice none 0 0]) 48 rfl Tryz.underlying22 info_part rfl (by decide) (by omega) v L (⟨⟨#[]⟩, op, l⟩ : S31) [.string ⟨#[]⟩, .int .u8 op, .slice A2 l.length cc2] (fun _ => True) (fun k => some k = (Value.slice A2 l.length cc2).ownBlock) rfl rfl ?aP ?aK (fun _ _ => trivial) ?aO (Below.refl _ _) ?aB (by omega) ?_
           case aP => exact k31_mkM _ _ _ (⟨⟨#[]⟩, op, l⟩ : S31) (Kd.R_lower (Kd.R_tight rfl HRow2.out) (by show g + 1 ≤ Wb.heap.size; omega))
           case aK => exact fun k hk => ⟨trivial, fun e => by have h1 := Kd.R_base HRow2.out k hk.symm; have h2 := (HPb.out.own k e.symm).2; exact absurd h2 (Nat.not_lt.2 h1)⟩
           case aO => exact Kd.S_mono (PartsAt.row_step (g := g) HPb.out.row (fun k hk hl => HBt2.out.block k hl (by omega))) (fun k hk => ⟨trivial, fun e => absurd hk (Nat.not_lt.2 (Kd.R_base HRow2.out k e.symm))⟩)
           case aB => exact Nat.le_trans (by show g + 1 ≤ Wb.heap.size; omega) HBt2.out.size
           intro v1 w3 hS3 _ hgr3 _
           have d3 := (HRd2.out.grown hgr3 (fun e => by have := (HPb.out.own g e.symm).1; omega)).cell2
           have e3 := (HRd2.out.grown hgr3 (fun e => by have := (HPb.out.own g e.symm).1; omega)).free 2
           obtain ⟨A3, cc3, rfl⟩ := Kd.S_slice hS3
           have hdn := partDone HPb.out HBb.out HRd2.out ⟨HBt2.out.os, HBt2.out.tape, HBt2.out.output, HBt2.out.size, HBt2.out.block⟩ hgr3 hS3
           rw [List.length_append, List.length_singleton] at hdn
           have HDn := Lib.hid hdn
           clear hS3 hgr3 hdn))
      all_goals
        go_wp2
        refine bodyPost_ret (results_none rfl _ _ _) rfl ?_
        exact ⟨⟨rfl, _, HDn.out.1⟩, HDn.out.2⟩
    | false =>
      go_enter Tryz.func75, Tryz.ntmps75
      go_wp2_with fail
      refine (text_rest.calls _ g s a v HP.out.rd h0 (by omega) hs).mono ?_
      rintro e w1 ⟨rfl, hb1⟩
      rw [← HR.out]
      have hrd1 := HP.out.rd.keep hb1.below
      have r1 := hrd1.cell1
      have r2 := hrd1.cell2
      have z1 := hrd1.free 1
      have HRd1 := Lib.hid hrd1
      have HB1 := Lib.hid hb1.below
      clear hb1 hrd1
      go_wp2_with fail
      obtain ⟨Wb, hWb⟩ : ∃ W, W = w1.setCell ⟨g, 1, none⟩ (.int .i64 (a + 1)) := ⟨_, rfl⟩
      have hpb : PartsAt Wb g s (a + 1) v L := by
        rw [hWb]
        exact ⟨HRd1.out.setAt _, Kd.S_mono (PartsAt.row_step (g := g) HP.out.row (fun k hk hl => by rw [Below.heap_setCell _ _ _ k (by show k ≠ g; omega)]; exact HB1.out.block k hl)) (fun _ _ => trivial)⟩
      have hbb : Below g w Wb := by
        rw [hWb]
        exact (HB1.out.mono (Nat.le_of_lt hglt)).setCell (p := ⟨g, 1, none⟩) (Nat.le_refl _) _
      have hgb : Gl Wb := by
        rw [hWb]
        exact ((But.of HB1.out).set 1 _ : But g w _).gl HG.out hg1 hg2
      rw [← hWb]
      have b2 := hpb.rd.cell2
      have HPb := Lib.hid hpb
      have HBb := Lib.hid hbb
      have HGb := Lib.hid hgb
      have hgltb := hpb.rd.lt
      clear hWb hpb hbb hgb r1 r2 z1
      go_region_dies
      all_goals
        refine (reader_expression.calls _ g s (a + 1) v op false l a2 HPb.out.rd.drew (by omega) (by omega) hs (HGb.out.keep (below_drew (Below.refl _ _))) hg1 hg2 HE.out).mono ?_
        rintro e w2 ⟨he, hrd2, hbt2⟩
        have he1 : e = wrongAt a2 := he
        subst he1
        exact ⟨rfl, rfl, (⟨hbt2.os, hbt2.tape, hbt2.output, hbt2.size, hbt2.block⟩ : But g Wb w2).below HBb.out (Nat.le_refl _) (Nat.le_of_lt hgltb)⟩
  · have q1 : (c == 123) = false := beq_eq_false_iff_ne.2 hc
    rw [if_neg hc] at h
    obtain ⟨n, hn, h⟩ := Option.bind_eq_some_iff.1 h
    have HN := Lib.hid hn
    by_cases hn0 : n = 0
    · have q2 : (n == 0) = true := beq_iff_eq.2 hn0
      rw [if_pos hn0] at h
      obtain ⟨q, hq, h⟩ := Option.map_eq_some_iff.1 h
      simp only [Prod.mk.injEq] at h
      obtain ⟨rfl, rfl, rfl⟩ := h
      have HQ := Lib.hid hq
      clear hc hn hn0 hq
      go_enter Tryz.func75, Tryz.ntmps75
      go_wp2_with fail
      refine (text_rest.calls _ g s a v HP.out.rd h0 (by omega) hs).mono ?_
      rintro e w1 ⟨rfl, hb1⟩
      rw [← HR.out]
      have hrd1 := HP.out.rd.keep hb1.below
      have HRd1 := Lib.hid hrd1
      have HB1 := Lib.hid hb1.below
      clear hb1 hrd1
      go_wp2_with fail
      refine (text_rest.calls _ g s a v HRd1.out h0 (by omega) hs).mono ?_
      rintro e w2 ⟨rfl, hb2⟩
      rw [← HR.out]
      have hrd2 := HRd1.out.keep hb2.below
      have HRd2 := Lib.hid hrd2
      have HB2 := Lib.hid (below_then HB1.out HB1.out.size hb2.below)
      clear hb2 hrd2
      go_wp2_with fail
      refine (tmpl_pieces.calls k r n _ HN.out).mono ?_
      rintro e w3 ⟨rfl, hb3⟩
      have hp3 : PartsAt w3 g s a v L := ⟨HRd2.out.keep hb3, Kd.S_below HP.out.row (below_then HB2.out HB2.out.size hb3)⟩
      have HP3 := Lib.hid hp3
      have HB3 := Lib.hid (below_then HB2.out HB2.out.size hb3)
      clear hb3 hp3
      go_wp2_with fail
      refine (reader_stop.calls k _ g s a v q HP3.out.rd h0 h1 hs HQ.out).mono ?_
      rintro e w4 ⟨rfl, hb4⟩
      have HB4 := Lib.hid (below_then HB3.out HB3.out.size hb4)
      clear hb4
      go_wp2
      exact ⟨rfl, rfl, HB4.out.mono (Nat.le_of_lt hglt)⟩
    · have q2 : (n == 0) = false := beq_eq_false_iff_ne.2 hn0
      rw [if_neg hn0] at h
      by_cases hn1 : 0 ≤ n ∧ n ≤ r.size
      · rw [if_pos hn1] at h
        simp only [Option.some.injEq, Prod.mk.injEq] at h
        obtain ⟨rfl, rfl, rfl⟩ := h
        obtain ⟨hn1, hn2⟩ := hn1
        have hsl : ∀ W : World, (Instr.slice 9 (.string r) none (some (.int .i64 n)) none).run Tryz.prog W = .ok (.string (r.extract 0 n.toNat)) W := fun W => run_slice_string_h W 9 r Tryz.underlying9 .i64 n (by omega) (by omega)
        have hsum : a + n ≤ s.size := by have := HS.out; omega
        clear hc hn hn0
        obtain ⟨lit, hlit⟩ : ∃ x, x = r.extract 0 n.toNat := ⟨_, rfl⟩
        rw [← hlit] at hsl ⊢
        clear hlit
        go_enter Tryz.func75, Tryz.ntmps75
        go_wp2_with fail
        refine (text_rest.calls _ g s a v HP.out.rd h0 (by omega) hs).mono ?_
        rintro e w1 ⟨rfl, hb1⟩
        rw [← HR.out]
        have hrd1 := HP.out.rd.keep hb1.below
        have HRd1 := Lib.hid hrd1
        have HB1 := Lib.hid hb1.below
        clear hb1 hrd1
        go_wp2_with fail
        refine (text_rest.calls _ g s a v HRd1.out h0 (by omega) hs).mono ?_
        rintro e w2 ⟨rfl, hb2⟩
        rw [← HR.out]
        have hrd2 := HRd1.out.keep hb2.below
        have HRd2 := Lib.hid hrd2
        have HB2 := Lib.hid (below_then HB1.out HB1.out.size hb2.below)
        clear hb2 hrd2
        go_wp2_with fail
        refine (tmpl_pieces.calls k r n _ HN.out).mono ?_
        rintro e w3 ⟨rfl, hb3⟩
        have hp3 : PartsAt w3 g s a v L := ⟨HRd2.out.keep hb3, Kd.S_below HP.out.row (below_then HB2.out HB2.out.size hb3)⟩
        have HP3 := Lib.hid hp3
        have HB3 := Lib.hid (below_then HB2.out HB2.out.size hb3)
        clear hb3 hp3
        have b2 := HP3.out.rd.cell2
        have hglt3 := HP3.out.rd.lt
        have hsz3 := HB3.out.size
        go_wp2_with fail
        go_region_law (first
          | (refine goes_ Tryz.func74 (by kernel_rfl) rfl #[.pointer (some ⟨g, 0, none⟩)] (by rfl) rfl rfl (by simp [Act.eval, Act.put]) ?_; refine (text_rest.calls _ g s a v HP3.out.rd.drew h0 (by omega) hs).mono ?_; rintro e w4 ⟨rfl, hb4⟩; rw [← HR.out]; refine ⟨_, rfl, ?_⟩; have hb4 := hb4.below; have hrd4 := HP3.out.rd.drew.keep hb4; have hlt4 := hrd4.lt; have d2 := hrd4.cell2; have HRd4 := Lib.hid hrd4; have HB4 := Lib.hid hb4; clear hrd4 hb4)
          | (refine Kd.S_append_step k31 (w0 := w4) (g + 1) (by rfl) (.tmp 43) (.tmp 51) 22 31 (.agg #[.string ⟨#[]⟩, .int .u8 0, .slice none 0 0]) 48 rfl Tryz.underlying22 info_part rfl (by decide) (by omega) v L (⟨lit, 0, []⟩ : S31) [.string lit, .int .u8 0, .slice none 0 0] (fun _ => True) (fun _ => False) (by simp [Act.eval, Act.put]) (by simp [Act.eval, Act.put]) ?aP ?aK (fun _ _ => trivial) ?aO (Below.refl _ _) ?aB (by omega) ?_
             case aP => exact k31_mkM _ _ _ (⟨lit, 0, []⟩ : S31) (Kd.R_nil _ _ _ _ _)
             case aK => exact fun k hk => hk.elim
             case aO => exact Kd.S_mono (PartsAt.row_step (g := g) HP3.out.row (fun k hk hl => HB4.out.block k hl)) (fun k hk => ⟨trivial, fun e => e.elim⟩)
             case aB => exact Nat.le_trans (by show g + 1 ≤ w3.heap.size; omega) HB4.out.size
             intro v1 w5 hS5 _ hgr5 _
             have hrd5 := HRd4.out.grown hgr5 (fun e => by have := (HP3.out.own g e.symm).1; omega)
             have d3 := hrd5.cell2
             have e3 := hrd5.free 2
             have e4 := hrd5.cell1
             have e5 := hrd5.free 1
             obtain ⟨A3, cc3, rfl⟩ := Kd.S_slice hS5
             have hdn := partDone HP3.out (HB3.out.mono (Nat.le_of_lt hglt)) HRd4.out (⟨HB4.out.os, HB4.out.tape, HB4.out.output, HB4.out.size, fun k hk _ => HB4.out.block k hk⟩ : But g w3 w4) hgr5 hS5
             rw [List.length_append, List.length_singleton] at hdn
             have HDn := Lib.hid hdn
             clear hS5 hgr5 hdn hrd5))
        all_goals
          go_wp2
          go_end0
          exact ⟨⟨rfl, _, HDn.out.1.setAt _⟩, HDn.out.2.setCell (p := ⟨g, 1, none⟩) (Nat.le_refl _) _⟩
      · rw [if_neg hn1] at h
        cases h
def parseFrom (k : Nat) (s : ByteArray) : Nat → Int → List S31 → Option (List S31 × Int × Int)
 | 0, _, _ => none
 | d + 1, a, L => if a < s.size then (reader_part.f k s a).bind fun t => if t.1 = true then (if a < t.2.2 ∧ t.2.2 ≤ s.size then parseFrom k s d t.2.2 (L ++ [t.2.1]) else none) else some ([], t.2.2, 2)
  else some (L, s.size, 0)
def tmpl_Parse.f (k : Nat) (s : ByteArray) : Option (List S31 × Int × Int) := if s.size ≤ 1099511627776 then parseFrom k s (s.size + 1) 0 [] else none
theorem assert_wrong (n : Int) (w : World) : (Instr.typeAssert (.iface 130 (.int .i64 n)) 20 130 true).run Tryz.prog w = .ok (.tuple #[.int .i64 n, .bool true]) w := by kernel_rfl
theorem assert_nil (w : World) : (Instr.typeAssert .nilIface 20 130 true).run Tryz.prog w = .ok (.tuple #[.int .i64 0, .bool false]) w := by kernel_rfl
set_option maxRecDepth 100000 in
theorem parse_catch (p2 p3 p4 : Addr) (x2 x3 x4 : Value) (n : Int) (w : World) (h2 : w.cell? p2 = some x2) (h3 : w.cell? p3 = some x3) (h4 : w.cell? p4 = some x4) (f2 : w.frozen? p2 = false) (f3 : w.frozen? p3 = false) (f4 : w.frozen? p4 = false)
 (n23 : p2 ≠ p3) (n24 : p2 ≠ p4) (n34 : p3 ≠ p4) :
 CallsD Tryz.prog 73 #[.pointer (some p2), .pointer (some p3), .pointer (some p4)] (.panicking ({ v := .iface 130 (.int .i64 n), recovered := false } :: [])) w fun e u' w' =>
  e = .returned (.tuple #[]) ∧ u' = .panicking ({ v := .iface 130 (.int .i64 n), recovered := true } :: []) ∧ w' = ((w.setCell p2 (.slice none 0 0)).setCell p3 (.int .i64 n)).setCell p4 (.int .i64 2) := by
 have hta := assert_wrong n
 refine callsD_of_wpS Tryz.func73 rfl fun c₀ cs hu => ?_
 rw [Tryz.ntmps73, show (#[.pointer (some p2), .pointer (some p3), .pointer (some p4)] : Array Value) ++ Array.replicate (12 - #[Value.pointer (some p2), Value.pointer (some p3), Value.pointer (some p4)].size) undef = #[.pointer (some p2), .pointer (some p3), .pointer (some p4), undef, undef, undef, undef, undef, undef, undef, undef, undef] from rfl]
 apply wpS_seq
 apply wpS_region
 simp [wpOpsS, go_sem, recoverD, hu, hta, Exit.thenS]
 apply wpS_seq
 apply wpS_region
 simp [wpOpsS, go_sem, Exit.thenS]
 refine wpS_cond (t := true) (by simp [Act.eval]) ?_
 simp only [if_true]
 apply wpS_region
 have g3 : (w.setCell p2 (.slice none 0 0)).cell? p3 = some x3 := (World.cell?_setCell_other _ _ _ _ n23).trans h3
 have g4 : ((w.setCell p2 (.slice none 0 0)).setCell p3 (.int .i64 n)).cell? p4 = some x4 := (World.cell?_setCell_other _ _ _ _ n34).trans ((World.cell?_setCell_other _ _ _ _ n24).trans h4)
 simp [wpOpsS, go_sem, h2, g3, g4, f2, f3, f4, bodyPostS, results, Tryz.results73]
set_option maxRecDepth 100000 in
theorem parse_idle (p2 p3 p4 : Addr) (w : World) :
 CallsD Tryz.prog 73 #[.pointer (some p2), .pointer (some p3), .pointer (some p4)] .returning w fun e u' w' => e = .returned (.tuple #[]) ∧ u' = .returning ∧ w' = w := by
 have hta := assert_nil
 refine callsD_of_wpS Tryz.func73 rfl fun c₀ cs hu => ?_
 rw [Tryz.ntmps73, show (#[.pointer (some p2), .pointer (some p3), .pointer (some p4)] : Array Value) ++ Array.replicate (12 - #[Value.pointer (some p2), Value.pointer (some p3), Value.pointer (some p4)].size) undef = #[.pointer (some p2), .pointer (some p3), .pointer (some p4), undef, undef, undef, undef, undef, undef, undef, undef, undef] from rfl]
 apply wpS_seq
 apply wpS_region
 simp [wpOpsS, go_sem, recoverD, hu, hta, Exit.thenS]
 apply wpS_seq
 apply wpS_region
 simp [wpOpsS, go_sem, Exit.thenS]
 refine wpS_cond (t := false) (by simp [Act.eval]) ?_
 simp only [Bool.false_eq_true, if_false]
 refine wpS_of_wp (wp_skip ?_)
 cases c₀
 simp_all [bodyPostS, results, Tryz.results73]
def parseW (w : World) (s : ByteArray) : World :=
 (((w.alloc (.cells #[.slice none 0 0] 22)).alloc (.cells #[.int .i64 0] 3)).alloc (.cells #[.int .i64 0] 26)).alloc (.cells #[.string s, .int .i64 0, .slice none 0 0] 129)
theorem parse_start (w : World) (s : ByteArray) : PartsAt (parseW w s) (w.heap.size + 3) s 0 (.slice none 0 0) [] :=
 ⟨by unfold Rd parseW; rw [show w.heap.size + 3 = (((w.alloc (.cells #[.slice none 0 0] 22)).alloc (.cells #[.int .i64 0] 3)).alloc (.cells #[.int .i64 0] 26)).heap.size by simp]; exact heap_alloc_new _ _, Kd.S_nil _ _ _ _ _⟩
theorem parse_below {w W : World} {s : ByteArray} (h : Below (w.heap.size + 3) (parseW w s) W) : Below w.heap.size w W :=
 (((((Below.refl _ _).alloc (Nat.le_refl _) _).alloc (by simp) _).alloc (by simp; omega) _).alloc (by simp; omega) _).trans (h.mono (by omega))
theorem parse_cells {w W : World} {s : ByteArray} (h : Below (w.heap.size + 3) (parseW w s) W) :
 W.heap[w.heap.size]? = some (.cells #[.slice none 0 0] 22 (0, 0)) ∧ W.heap[w.heap.size + 1]? = some (.cells #[.int .i64 0] 3 (0, 0)) ∧ W.heap[w.heap.size + 1 + 1]? = some (.cells #[.int .i64 0] 26 (0, 0)) := by
 refine ⟨(h.block _ (by omega)).trans ?_, (h.block _ (by omega)).trans ?_, (h.block _ (by omega)).trans ?_⟩
 · unfold parseW
   rw [heap_alloc_old _ _ (by simp <;> omega), heap_alloc_old _ _ (by simp <;> omega), heap_alloc_old _ _ (by simp)]
   exact heap_alloc_new _ _
 · unfold parseW
   rw [heap_alloc_old _ _ (by simp <;> omega), heap_alloc_old _ _ (by simp)]
   have := heap_alloc_new (w.alloc (.cells #[.slice none 0 0] 22)) (.cells #[.int .i64 0] 3)
   simpa using this
 · unfold parseW
   rw [heap_alloc_old _ _ (by simp)]
   have := heap_alloc_new ((w.alloc (.cells #[.slice none 0 0] 22)).alloc (.cells #[.int .i64 0] 3)) (.cells #[.int .i64 0] 26)
   simpa using this
theorem parse_stored {w W : World} {s : ByteArray} (h : Below (w.heap.size + 3) (parseW w s) W) (x : Value) (n e : Int) :
 (((W.setCell ⟨w.heap.size, 0, none⟩ x).setCell ⟨w.heap.size + 1, 0, none⟩ (.int .i64 n)).setCell ⟨w.heap.size + 1 + 1, 0, none⟩ (.int .i64 e)).cell? ⟨w.heap.size, 0, none⟩ = some x ∧
 (((W.setCell ⟨w.heap.size, 0, none⟩ x).setCell ⟨w.heap.size + 1, 0, none⟩ (.int .i64 n)).setCell ⟨w.heap.size + 1 + 1, 0, none⟩ (.int .i64 e)).cell? ⟨w.heap.size + 1, 0, none⟩ = some (.int .i64 n) ∧
 (((W.setCell ⟨w.heap.size, 0, none⟩ x).setCell ⟨w.heap.size + 1, 0, none⟩ (.int .i64 n)).setCell ⟨w.heap.size + 1 + 1, 0, none⟩ (.int .i64 e)).cell? ⟨w.heap.size + 1 + 1, 0, none⟩ = some (.int .i64 e) ∧
 Below w.heap.size w (((W.setCell ⟨w.heap.size, 0, none⟩ x).setCell ⟨w.heap.size + 1, 0, none⟩ (.int .i64 n)).setCell ⟨w.heap.size + 1 + 1, 0, none⟩ (.int .i64 e)) := by
 obtain ⟨h0, h1, h2⟩ := parse_cells h
 have e0 := one_setCell h0 (u := x)
 have e1 := one_setCell (w := W.setCell ⟨w.heap.size, 0, none⟩ x) ((Below.heap_setCell W ⟨w.heap.size, 0, none⟩ x (w.heap.size + 1) (by show w.heap.size + 1 ≠ w.heap.size; omega)).trans h1) (u := .int .i64 n)
 have e2 := one_setCell (w := (W.setCell ⟨w.heap.size, 0, none⟩ x).setCell ⟨w.heap.size + 1, 0, none⟩ (.int .i64 n)) ((Below.heap_setCell _ ⟨w.heap.size + 1, 0, none⟩ (.int .i64 n) (w.heap.size + 1 + 1) (by show w.heap.size + 1 + 1 ≠ w.heap.size + 1; omega)).trans ((Below.heap_setCell W ⟨w.heap.size, 0, none⟩ x (w.heap.size + 1 + 1) (by show w.heap.size + 1 + 1 ≠ w.heap.size; omega)).trans h2)) (u := .int .i64 e)
 refine ⟨cell_of_one ((Below.heap_setCell _ _ _ w.heap.size (by show w.heap.size ≠ w.heap.size + 1 + 1; omega)).trans ((Below.heap_setCell _ _ _ w.heap.size (by show w.heap.size ≠ w.heap.size + 1; omega)).trans e0)), cell_of_one ((Below.heap_setCell _ _ _ (w.heap.size + 1) (by show w.heap.size + 1 ≠ w.heap.size + 1 + 1; omega)).trans e1), cell_of_one e2, ?_⟩
 exact (((parse_below h).setCell (p := ⟨w.heap.size, 0, none⟩) (Nat.le_refl _) _).setCell (p := ⟨w.heap.size + 1, 0, none⟩) (by show w.heap.size ≤ w.heap.size + 1; omega) _).setCell (p := ⟨w.heap.size + 1 + 1, 0, none⟩) (by show w.heap.size ≤ w.heap.size + 1 + 1; omega) _
theorem Gl.apart {w : World} (h : Gl w) : 3 < w.heap.size ∧ 1 < w.heap.size := by
 have hh : ∀ k cs, heldAt w k = some cs → k < w.heap.size := fun k cs hc => by
  rcases Nat.lt_or_ge k w.heap.size with h' | h'
  · exact h'
  · simp [heldAt, Array.getElem?_eq_none h'] at hc
 obtain ⟨te, pe, he⟩ := h.err
 exact ⟨hh _ _ h.tab, hh _ _ he⟩
set_option maxRecDepth 100000 in
set_option maxHeartbeats 1000000 in
theorem tmpl_Parse.calls (k : Nat) (s : ByteArray) (r1 : List S31) (r2 r3 : Int) (w : World) (hG : Gl w) (h : tmpl_Parse.f k s = some (r1, r2, r3)) :
 Calls Tryz.prog 47 #[.string s] w fun e w' => ∃ v0_ : Value, e = .returned (.tuple #[v0_, .int .i64 r2, .int .i64 r3]) ∧ Kd.S k31 31 w' w.heap.size (fun _ => True) v0_ r1 ∧ Below w.heap.size w w' := by
 unfold tmpl_Parse.f at h
 split at h
 · rename_i hs
   have HF := Lib.hid h
   have HG := Lib.hid hG
   clear h hG
   have hmf : ∀ (fn : Fn) (first cap : Array Value) (w : World), (Instr.makeFunc fn first cap).run Tryz.prog w = .ok (.func fn first cap) w := fun _ _ _ _ => rfl
   go_enter_defers Tryz.func47, Tryz.ntmps47
   go_wp2
   go_loopw [] (fun wr => ∃ (d : Nat) (a : Int) (L : List S31) (v : Value), 0 ≤ a ∧ a ≤ s.size ∧ (L.length : Int) ≤ a ∧ (s.size : Int) < a + d ∧ Hid (PartsAt wr (w.heap.size + 3) s a v L) ∧ Hid (Below (w.heap.size + 3) (parseW w s) wr) ∧ Hid (parseFrom k s d a L = some (r1, r2, r3))) (fun wr => s.size + 1 - atOf wr (w.heap.size + 3))
   case atStart =>
    exact ⟨s.size + 1, 0, [], .slice none 0 0, by omega, by omega, by simp, by omega, Lib.hid (parse_start w s), Lib.hid (by simpa [parseW] using Below.refl (w.heap.size + 3) (parseW w s)), HF⟩
   case round =>
    obtain ⟨d, a, L, v, h0, h1, hl, hd, HP, HBr, HF1⟩ := hrel
    cases d with
    | zero => omega
    | succ d =>
    have hF := HF1.out
    rw [parseFrom] at hF
    have HBw := Lib.hid (parse_below HBr.out)
    have HGr := Lib.hid (HG.out.keep HBw.out)
    have HM := Lib.hid HP.out.rd.atOf_eq
    obtain ⟨hn1, hn2⟩ := HG.out.apart
    have hg1 : w.heap.size + 3 ≠ 3 := by omega
    have hg2 : w.heap.size + 3 ≠ 1 := by omega
    clear HF1
    by_cases hlt : a < s.size
    · rw [if_pos hlt] at hF
      obtain ⟨⟨ok, x, a'⟩, hpt, hF⟩ := Option.bind_eq_some_iff.1 hF
      have HPt := Lib.hid hpt
      have q1 : ((s.extract a.toNat s.size).toList == ([] : List UInt8)) = false := beq_eq_false_iff_ne.2 (fun e => by
       have := (toList_nil_iff _).1 e
       rw [ByteArray.size_extract] at this
       omega)
      simp only at hF
      clear hpt
      cases ok with
      | true =>
       rw [if_pos rfl] at hF
       by_cases hb : a < a' ∧ a' ≤ s.size
       · rw [if_pos hb] at hF
         obtain ⟨hb1, hb2⟩ := hb
         have HF2 := Lib.hid hF
         clear hF
         go_wp2_with fail
         refine (text_rest.calls _ (w.heap.size + 3) s a v HP.out.rd h0 h1 hs).mono ?_
         rintro e w2 ⟨rfl, hb2'⟩
         have HP2 := Lib.hid (show PartsAt w2 (w.heap.size + 3) s a v L from ⟨HP.out.rd.keep hb2'.below, Kd.S_below HP.out.row hb2'.below⟩)
         have HB2 := Lib.hid (below_then HBr.out (by have := HP.out.rd.lt; omega) hb2'.below)
         have HG2 := Lib.hid (HGr.out.keep hb2'.below)
         clear hb2'
         go_wp2_with fail
         refine (reader_part.calls k _ (w.heap.size + 3) s a v L true x a' HP2.out h0 hlt hs (by omega) HG2.out hg1 hg2 HPt.out).mono ?_
         rintro e w3 ⟨⟨rfl, v', hp3⟩, hb3⟩
         have HP3 := Lib.hid hp3
         have hm3 := hp3.rd.atOf_eq
         have HM3 := Lib.hid hm3
         have HB3 := Lib.hid (HB2.out.trans hb3)
         clear hp3 hb3 hm3
         go_wp2
         go_roundw
         case rel => exact ⟨d, a', L ++ [x], v', by omega, hb2, by rw [List.length_append, List.length_singleton]; omega, by omega, HP3, HB3, HF2⟩
         case measure =>
          rw [HM.out, HM3.out]
          omega
       · rw [if_neg hb] at hF
         cases hF
      | false =>
       rw [if_neg (by simp)] at hF
       have HF2 := Lib.hid (Option.some.inj hF)
       clear hF
       go_wp2_with fail
       refine (text_rest.calls _ (w.heap.size + 3) s a v HP.out.rd h0 h1 hs).mono ?_
       rintro e w2 ⟨rfl, hb2'⟩
       have HP2 := Lib.hid (show PartsAt w2 (w.heap.size + 3) s a v L from ⟨HP.out.rd.keep hb2'.below, Kd.S_below HP.out.row hb2'.below⟩)
       have HB2 := Lib.hid (below_then HBr.out (by have := HP.out.rd.lt; omega) hb2'.below)
       have HG2 := Lib.hid (HGr.out.keep hb2'.below)
       clear hb2'
       go_wp2_with fail
       refine (reader_part.calls k _ (w.heap.size + 3) s a v L false x a' HP2.out h0 hlt hs (by omega) HG2.out hg1 hg2 HPt.out).mono ?_
       rintro e w3 ⟨he, hb3⟩
       have he1 : e = wrongAt a' := he
       subst he1
       have HB3 := Lib.hid (HB2.out.trans hb3)
       clear hb3
       unfold wrongAt
       go_wp2
       refine leaves_cons (f := 73) (args := #[.pointer (some ⟨w.heap.size, 0, none⟩), .pointer (some ⟨w.heap.size + 1, 0, none⟩), .pointer (some ⟨w.heap.size + 1 + 1, 0, none⟩)]) (by simp) (by simp [go_sem]) ?_
       obtain ⟨b0, b1, b2⟩ := parse_cells HB3.out
       refine (parse_catch ⟨w.heap.size, 0, none⟩ ⟨w.heap.size + 1, 0, none⟩ ⟨w.heap.size + 1 + 1, 0, none⟩ _ _ _ a' _ (cell_of_one b0) (cell_of_one b1) (cell_of_one b2) (free_of_one b0) (free_of_one b1) (free_of_one b2) (by simp) (by simp <;> omega) (by simp)).mono ?_
       rintro e u' w4 ⟨rfl, rfl, rfl⟩
       obtain ⟨f0, f1, f2, hbl⟩ := parse_stored HB3.out (.slice none 0 0) a' 2
       have hR := HF2.out
       simp only [Prod.mk.injEq] at hR
       obtain ⟨rfl, rfl, rfl⟩ := hR
       exact ⟨_, by simp [results, Tryz.results47, go_sem, f0, f1, f2], .slice none 0 0, rfl, Kd.S_nil _ _ _ _ _, hbl⟩
    · rw [if_neg hlt] at hF
      have HF2 := Lib.hid (Option.some.inj hF)
      have q1 : ((s.extract a.toNat s.size).toList == ([] : List UInt8)) = true := beq_iff_eq.2 ((toList_nil_iff _).2 (by rw [ByteArray.size_extract]; omega))
      clear hF
      go_wp2_with fail
      refine (text_rest.calls _ (w.heap.size + 3) s a v HP.out.rd h0 h1 hs).mono ?_
      rintro e w2 ⟨rfl, hb2'⟩
      have hb2 := hb2'.below
      have hrd2 := HP.out.rd.keep hb2
      have HS2 := Lib.hid (Kd.S_below HP.out.row hb2)
      have HB2 := Lib.hid (below_then HBr.out (by have := HP.out.rd.lt; omega) hb2)
      obtain ⟨b0, b1, b2⟩ := parse_cells HB2.out
      have r2 := hrd2.cell2
      have d0 := cell_of_one b0
      have d1 := cell_of_one b1
      have d2 := cell_of_one b2
      have e0 := free_of_one b0
      have e1 := free_of_one b1
      have e2 := free_of_one b2
      obtain ⟨A3, cc3, rfl⟩ := Kd.S_slice HS2.out
      have hL := HF2.out
      clear hb2' hb2 hrd2 b0 b1 b2 hL
      go_wp2
      refine leaves_cons (f := 73) (args := #[.pointer (some ⟨w.heap.size, 0, none⟩), .pointer (some ⟨w.heap.size + 1, 0, none⟩), .pointer (some ⟨w.heap.size + 1 + 1, 0, none⟩)]) (by simp) (by simp [go_sem]) ?_
      refine (parse_idle ⟨w.heap.size, 0, none⟩ ⟨w.heap.size + 1, 0, none⟩ ⟨w.heap.size + 1 + 1, 0, none⟩ _).mono ?_
      rintro e u' w4 ⟨rfl, rfl, rfl⟩
      obtain ⟨f0, f1, f2, hbl⟩ := parse_stored HB2.out (.slice A3 L.length cc3) s.size 0
      have hSf := Kd.S_lower (Kd.S_mono (ok' := fun _ => True) (PartsAt.row_step (g := w.heap.size + 3) (W' := (((w2.setCell ⟨w.heap.size, 0, none⟩ (.slice A3 L.length cc3)).setCell ⟨w.heap.size + 1, 0, none⟩ (.int .i64 s.size)).setCell ⟨w.heap.size + 1 + 1, 0, none⟩ (.int .i64 0))) HS2.out (fun k hk _ => by
       rw [Below.heap_setCell _ _ _ k (by show k ≠ w.heap.size + 1 + 1; omega), Below.heap_setCell _ _ _ k (by show k ≠ w.heap.size + 1; omega), Below.heap_setCell _ _ _ k (by show k ≠ w.heap.size; omega)])) (fun _ _ => trivial)) (show w.heap.size ≤ w.heap.size + 3 + 1 by omega)
      have hR := HF2.out
      simp only [Prod.mk.injEq] at hR
      obtain ⟨rfl, rfl, rfl⟩ := hR
      exact ⟨_, by simp [results, Tryz.results47, go_sem, f0, f1, f2], .slice A3 L.length cc3, rfl, hSf, hbl⟩
 · cases h
theorem isTriplet_bs (s : ByteArray) : isTriplet s = trip (bs s) := by
 unfold isTriplet
 by_cases h : 3 ≤ s.size
 · obtain ⟨a, a1, a2, a3⟩ := bs_get s 0 (by omega)
   obtain ⟨b, b1, b2, b3⟩ := bs_get s 1 (by omega)
   obtain ⟨c, c1, c2, c3⟩ := bs_get s 2 (by omega)
   have e : bs s = a :: b :: c :: (bs s).drop 3 := by
    rw [← c3, ← b3, ← a3]
    rfl
   have a2' : bt s 0 = (a : Int) := a2
   have b2' : bt s 1 = (b : Int) := b2
   have c2' : bt s 2 = (c : Int) := c2
   rw [e, a2', b2', c2', decide_eq_true h, Bool.true_and]
   simp only [trip, Int.toNat_natCast]
   congr 1
   rw [Bool.eq_iff_iff, beq_iff_eq, beq_iff_eq]
   omega
 · rw [decide_eq_false h, Bool.false_and, trip_short (by rw [bs_length]; omega)]
theorem scan_n {q : Q} {b : Nat} (h : nstep q b = some .n) (a e : Nat) (r : List Nat) : scan q a e (b :: r) = scan .n (a + 1) (a + 1) r := scan_some h a e r
theorem scan_np1 {q : Q} {b : Nat} (h : nstep q b = some .np1) (a e : Nat) (r : List Nat) : scan q a e (b :: r) = scan .np1 (a + 1) e r := scan_some h a e r
theorem scan_np2 {q : Q} {b : Nat} (h : nstep q b = some .np2) (a e : Nat) (r : List Nat) : scan q a e (b :: r) = scan .np2 (a + 1) e r := scan_some h a e r
theorem scan_point {q : Q} {b : Nat} (h : nstep q b = some .nd) (a e : Nat) (r : List Nat) : scan q a e (b :: r) = scan .nd (a + 1) e r := scan_some h a e r
theorem scan_nd (a e : Nat) (l : List Nat) : scan .nd a e l = scan .ns a e l := by
 cases l with
 | nil => rfl
 | cons b r => rfl
theorem prog_ends_from (s : ByteArray) : ∀ (k a e : Nat), a ≤ s.size → s.size - a < k → e ≤ a → endsFrom s k (a : Int) (e : Int) = (((scan (if 0 < a ∧ a = e then .n else .ns) a e ((bs s).drop a)).1 : Int), ((scan (if 0 < a ∧ a = e then .n else .ns) a e ((bs s).drop a)).2 : Int))
 | 0, a, e, _, h, _ => by omega
 | k + 1, a, e, ha, h, he => by
  rw [endsFrom]
  by_cases hlt : a < s.size
  · obtain ⟨b, hb, hbt, hd⟩ := bs_get s a hlt
    rw [if_pos (by omega), hbt, hd, Int.toNat_natCast, Int.toNat_natCast]
    have hq : (if 0 < a ∧ a = e then Q.n else Q.ns) = .n ∨ (if 0 < a ∧ a = e then Q.n else Q.ns) = .ns := by split <;> simp
    by_cases hw : isWord b = true
    · rw [if_pos hw]
      have hn : nstep (if 0 < a ∧ a = e then Q.n else Q.ns) b = some .n := by split <;> simp [nstep, nsStep, hw]
      have ih := prog_ends_from s k (a + 1) (a + 1) (by omega) (by omega) (Nat.le_refl _)
      rw [scan_n hn]
      rw [if_pos ⟨by omega, rfl⟩] at ih
      exact ih
    rw [if_neg hw]
    by_cases h46 : b = 46 ∧ 0 < a ∧ a = e
    · rw [if_pos ⟨by omega, by omega, by omega⟩, if_pos h46.2]
      have hn : nstep .n b = some .nd := by
       rw [h46.1] at hw ⊢
       simp [nstep, hw]
      have ih := prog_ends_from s k (a + 1) e (by omega) (by omega) (by omega)
      rw [if_neg (by omega)] at ih
      rw [scan_point hn, scan_nd]
      exact ih
    rw [if_neg (by omega)]
    have htr : isTriplet (s.extract a s.size) = trip (b :: (bs s).drop (a + 1)) := by rw [isTriplet_bs, bs_from, hd]
    rw [htr]
    by_cases ht : trip (b :: (bs s).drop (a + 1)) = true
    · rw [if_pos ht]
      have hsz : a + 3 ≤ s.size := by
       refine Classical.byContradiction fun g => ?_
       rw [trip_short (by rw [List.length_cons, List.length_drop, bs_length]; omega)] at ht
       cases ht
      obtain ⟨c, hc, -, hdc⟩ := bs_get s (a + 1) (by omega)
      obtain ⟨d, hdd, -, hdd2⟩ := bs_get s (a + 1 + 1) (by omega)
      rw [hdc, hdd2] at ht ⊢
      simp only [trip, Bool.and_eq_true, beq_iff_eq] at ht
      obtain ⟨rfl, hc2, hd2⟩ := ht
      have s1 : nstep (if 0 < a ∧ a = e then Q.n else Q.ns) 37 = some .np1 := by split <;> simp [nstep, nsStep, hw]
      have s2 : nstep .np1 c = some .np2 := by simp only [nstep]; rw [if_pos hc2]
      have s3 : nstep .np2 d = some .n := by simp only [nstep]; rw [if_pos hd2]
      have ih := prog_ends_from s k (a + 3) (a + 3) (by omega) (by omega) (Nat.le_refl _)
      rw [if_pos ⟨by omega, rfl⟩] at ih
      rw [scan_np1 s1, scan_np2 s2, scan_n s3]
      exact ih
    rw [if_neg ht]
    by_cases h37 : b = 37
    · rw [if_pos (by omega)]
      subst h37
      have s1 : nstep (if 0 < a ∧ a = e then Q.n else Q.ns) 37 = some .np1 := by split <;> simp [nstep, nsStep, hw]
      rw [scan_np1 s1]
      by_cases h1 : a + 1 < s.size
      · obtain ⟨c, hc, hcbt, hdc⟩ := bs_get s (a + 1) h1
        have hcbt' : bt s ((a : Int) + 1) = (c : Int) := hcbt
        rw [hdc, hcbt', Int.toNat_natCast]
        by_cases hx : isHex c = true
        · have s2 : nstep .np1 c = some .np2 := by simp only [nstep]; rw [if_pos hx]
          rw [if_pos ⟨by omega, hx⟩, scan_np2 s2]
          have e2 : scan .np2 (a + 1 + 1) e ((bs s).drop (a + 1 + 1)) = (a + 2, e) := by
           by_cases h2 : a + 1 + 1 < s.size
           · obtain ⟨d, hd1, -, hdd⟩ := bs_get s (a + 1 + 1) h2
             rw [hdd, scan_none]
             simp only [nstep]
             rw [if_neg]
             intro g
             rw [hdc, hdd] at ht
             exact ht (by simp [trip, hx, g])
           · rw [List.drop_eq_nil_of_le (by rw [bs_length]; omega)]
             rfl
          rw [e2]
          rfl
        · rw [if_neg fun g => hx g.2, scan_none (by simp only [nstep]; rw [if_neg hx])]
          rfl
      · rw [if_neg fun g => h1 (by omega), List.drop_eq_nil_of_le (by rw [bs_length]; omega)]
        rfl
    · rw [if_neg (by omega), scan_none]
      by_cases g : 0 < a ∧ a = e
      · rw [if_pos g]
        have : b ≠ 46 := fun k => h46 ⟨k, g⟩
        simp [nstep, hw, h37, this]
      · rw [if_neg g]
        simp [nstep, nsStep, hw, h37]
  · rw [if_neg (by omega), List.drop_eq_nil_of_le (by rw [bs_length]; omega)]
    rfl
theorem prog_ends_f (s : ByteArray) (hs : s.size ≤ 1099511627776) : vname_ends.f s = some (((scan .ns 0 0 (bs s)).1 : Int), ((scan .ns 0 0 (bs s)).2 : Int)) := by
 unfold vname_ends.f
 have := prog_ends_from s (s.size + 1) 0 0 (by omega) (by omega) (by omega)
 rw [if_neg (by omega), List.drop_zero] at this
 rw [if_pos hs]
 exact congrArg some this
theorem prog_oper {b : Nat} (h : b < 256) : tmpl_Operator.f (b : Int) = some (b == 0 || isOp b) := by
  have : ∀ b : Fin 256, tmpl_Operator.f ((b.1 : Nat) : Int) = some (b.1 == 0 || isOp b.1) := by decide +kernel
  exact this ⟨b, h⟩
theorem prog_name (s : ByteArray) (hs : s.size ≤ 1099511627776) : ∃ b, vname_May.f s = some b ∧ (b = true ↔ run nstep .ns (bs s) = some .n) := by
 unfold vname_May.f
 by_cases h0 : s.toList = []
 · rw [if_pos h0]
   refine ⟨false, rfl, ?_⟩
   rw [toList_nil.1 h0]
   simp [run]
 · rw [if_neg h0]
   unfold vname_End.f
   rw [prog_ends_f s hs]
   refine ⟨_, rfl, ?_⟩
   have hn : (bs s).length ≠ 0 := fun e => h0 (toList_nil.2 (List.eq_nil_of_length_eq_zero e))
   have hsz := bs_length s
   show (((nameEnd (bs s) : Nat) : Int) == (s.size : Int)) = true ↔ _
   rw [beq_iff_eq, ← hsz]
   constructor
   · intro h
     have h : nameEnd (bs s) = (bs s).length := by omega
     have := nameEnd_is (bs s) (by omega)
     rw [h, List.take_length] at this
     exact this
   · intro h
     have := nameEnd_put (t := []) h (.inl rfl)
     rw [List.append_nil] at this
     rw [this]
theorem prog_may6 {v : S55} (hs : v.f0.size ≤ 1099511627776) : ∃ b, spec_May.f v.f0 v.f1 v.f2 = some b ∧ (b = true ↔ GoodV (vM v)) := by
 obtain ⟨b, hb, hiff⟩ := prog_name v.f0 hs
 unfold spec_May.f
 rw [hb, Option.bind_some]
 show ∃ b', _ ∧ (b' = true ↔ run nstep .ns (bs v.f0) = some .n ∧ 0 ≤ v.f1 ∧ v.f1 ≤ 9999 ∧ (v.f2 = true → v.f1 = 0))
 rw [← hiff]
 by_cases h1 : b = true
 · rw [if_pos h1]
   by_cases h2 : v.f1 ≥ 0
   · rw [if_pos h2]
     by_cases h3 : v.f1 ≤ 9999
     · rw [if_pos h3]
       by_cases h4 : v.f2 = true
       · rw [if_pos h4]
         refine ⟨_, rfl, ?_⟩
         rw [h4]
         simp only [Bool.not_eq_true', decide_eq_false_iff_not]
         constructor
         · intro g
           exact ⟨h1, h2, h3, fun _ => by omega⟩
         · rintro ⟨-, -, -, g⟩
           have := g trivial
           omega
       · rw [if_neg h4]
         exact ⟨_, rfl, fun _ => ⟨h1, h2, h3, fun g => absurd g h4⟩, fun _ => rfl⟩
     · rw [if_neg h3]
       exact ⟨_, rfl, fun g => (by cases g), fun g => absurd g.2.2.1 h3⟩
   · rw [if_neg h2]
     exact ⟨_, rfl, fun g => (by cases g), fun g => absurd g.2.1 h2⟩
 · rw [if_neg h1]
   exact ⟨_, rfl, fun g => (by cases g), fun g => absurd g.1 h1⟩
theorem goodV_iff {v : S55} (hs : v.f0.size ≤ 1099511627776) : goodV v = true ↔ GoodV (vM v) := by
 obtain ⟨b, hb, hiff⟩ := prog_may6 hs
 rw [← hiff]
 unfold goodV
 rw [hb]
def OKP (x : S31) : Prop := x.f0.size ≤ 1099511627776 ∧ 0 ≤ x.f1 ∧ x.f1 ≤ 255 ∧ x.f2.length ≤ 1099511627776 ∧ ∀ v ∈ x.f2, v.f0.size ≤ 1099511627776
theorem all_good {l : List S55} (hs : ∀ v ∈ l, v.f0.size ≤ 1099511627776) : l.all goodV = true ↔ ∀ v ∈ l.map vM, GoodV v := by
 rw [List.all_eq_true]
 constructor
 · intro h v hv
   obtain ⟨x, hx, rfl⟩ := List.mem_map.1 hv
   exact (goodV_iff (hs x hx)).1 (h x hx)
 · intro h x hx
   exact (goodV_iff (hs x hx)).2 (h (vM x) (List.mem_map_of_mem hx))
theorem prog_oper2 {n : Int} (h0 : 0 ≤ n) (h1 : n ≤ 255) : ∃ b, tmpl_Operator.f n = some b ∧ (b = true ↔ GoodOp n) := by
 obtain ⟨m, rfl⟩ : ∃ m : Nat, n = (m : Int) := ⟨n.toNat, by omega⟩
 refine ⟨_, prog_oper (by omega), ?_⟩
 rw [Bool.or_eq_true, beq_iff_eq]
 constructor
 · rintro (h | h)
   · exact .inl (by omega)
   · exact .inr ⟨m, h, rfl⟩
 · rintro (h | ⟨b, h, e⟩)
   · exact .inl (by omega)
   · exact .inr (by rw [show m = b by omega]; exact h)
theorem fine_iff {x : S31} (h : OKP x) : fineB x.f0 x.f1 x.f2 = true ↔ GoodP (pM x) := by
 obtain ⟨lit, op, sp⟩ := x
 obtain ⟨h1, h2, h3, h4, h5⟩ := h
 simp only at h1 h2 h3 h4 h5
 have hgp : GoodP (pM ⟨lit, op, sp⟩) ↔ (sp.map vM = [] → op = 0 ∧ bs lit ≠ [] ∧ piecesN ((bs lit).length + 1) (bs lit) = (bs lit).length) ∧ (sp.map vM ≠ [] → bs lit = [] ∧ GoodOp op ∧ ∀ v ∈ sp.map vM, GoodV v) := Iff.rfl
 rw [hgp]
 unfold fineB
 have hsz := bs_length lit
 by_cases hl : sp.length = 0
 · obtain rfl := List.eq_nil_of_length_eq_zero hl
   rw [if_pos hl]
   simp only [Bool.and_eq_true, beq_iff_eq, bne_iff_ne, ne_eq, List.map_nil, forall_const, not_true_eq_false, false_implies, and_true, toList_nil, hsz]
   constructor
   · rintro ⟨a, b, c⟩
     exact ⟨a, b, by omega⟩
   · rintro ⟨a, b, c⟩
     exact ⟨a, b, by omega⟩
 · rw [if_neg hl]
   have hne : sp.map vM ≠ [] := by
    intro e
    exact hl (by simpa using congrArg List.length e)
   obtain ⟨b, hb, hbi⟩ := prog_oper2 h2 h3
   rw [hb]
   simp only [Bool.and_eq_true, beq_iff_eq, all_good h5, hbi, toList_nil]
   constructor
   · rintro ⟨a, b, c⟩
     exact ⟨fun e => absurd e hne, fun _ => ⟨a, b, c⟩⟩
   · rintro ⟨-, g⟩
     obtain ⟨a, b, c⟩ := g hne
     exact ⟨a, b, c⟩
theorem prog_fine {x : S31} (h : OKP x) : tmpl_fine.f x.f0 x.f1 x.f2 = some (fineB x.f0 x.f1 x.f2) := by
 obtain ⟨h1, h2, h3, h4, h5⟩ := h
 unfold tmpl_fine.f
 rw [if_pos ⟨h1, h2, h3, h4, List.all_eq_true.2 fun v hv => decide_eq_true (h5 v hv)⟩]
theorem rd_part (l : List S31) (i : Nat) (h : i < l.length) : rd_T31 l (i : Int) = l[i] := by
 unfold rd_T31
 rw [Int.toNat_natCast, List.getD_eq_getElem?_getD, List.getElem?_eq_getElem h]
 rfl
theorem may_loop (l : List S31) (hb : ∀ x ∈ l, OKP x) (hl : l.length ≤ 1099511627776) : ∀ (d k i : Nat), i + d = l.length → d < k →
 ∃ b, tmpl_May.l0 k l l (l.length : Int) (i : Int) = some b ∧ (b = true ↔ (∀ y z, 0 < i → l[i - 1]? = some y → l[i]? = some z → y.f2 = [] → z.f2 ≠ []) ∧ MayT ((l.drop i).map pM))
 | d, 0, _, _, h => by omega
 | 0, k + 1, i, h, _ => by
  simp only [tmpl_May.l0]
  rw [if_neg (by omega)]
  refine ⟨true, rfl, fun _ => ⟨fun y z _ _ hz => ?_, ?_⟩, fun _ => rfl⟩
  · rw [List.getElem?_eq_none (by omega)] at hz
    cases hz
  · rw [List.drop_eq_nil_of_le (by omega)]
    trivial
 | d + 1, k + 1, i, h, hk => by
  have hi : i < l.length := by omega
  have hd : l.drop i = l[i] :: l.drop (i + 1) := List.drop_eq_getElem_cons hi
  have hok := hb l[i] (List.getElem_mem hi)
  have hw : wrap64 ((i : Int) + 1) = ((i + 1 : Nat) : Int) := by
   rw [w64 (by omega) (by omega)]
   omega
  obtain ⟨b, hbr, hbi⟩ := may_loop l hb hl d k (i + 1) (by omega) (by omega)
  simp only [tmpl_May.l0]
  rw [if_pos (by omega), if_pos (by omega), if_pos (by omega), rd_part l i hi, prog_fine hok, Option.bind_some]
  have hget : l[i]? = some l[i] := List.getElem?_eq_getElem hi
  have hMay : MayT ((l.drop i).map pM) ↔ GoodP (pM l[i]) ∧ (l[i].f2 = [] → ∀ z, l[i + 1]? = some z → z.f2 ≠ []) ∧ MayT ((l.drop (i + 1)).map pM) := by
   rw [hd]
   show GoodP (pM l[i]) ∧ ((l[i].f2.map vM) = [] → ∀ y, ((l.drop (i + 1)).map pM).head? = some y → y.specs ≠ []) ∧ _ ↔ _
   rw [List.map_eq_nil_iff]
   have hh : ((l.drop (i + 1)).map pM).head? = (l[i + 1]?).map pM := by
    rw [List.head?_map, List.head?_drop]
   rw [hh]
   constructor
   · rintro ⟨a, b, c⟩
     refine ⟨a, fun e z hz hz2 => b e (pM z) (by rw [hz]; rfl) ?_, c⟩
     show z.f2.map vM = []
     rw [hz2]
     rfl
   · rintro ⟨a, b, c⟩
     refine ⟨a, fun e y hy => ?_, c⟩
     obtain ⟨z, hz, rfl⟩ := Option.map_eq_some_iff.1 hy
     intro e2
     exact b e z hz (List.map_eq_nil_iff.1 e2)
  have hrec : (b = true ↔ (l[i].f2 = [] → ∀ z, l[i + 1]? = some z → z.f2 ≠ []) ∧ MayT ((l.drop (i + 1)).map pM)) := by
   rw [hbi]
   constructor
   · rintro ⟨a, c⟩
     exact ⟨fun e z hz => a l[i] z (by omega) hget hz e, c⟩
   · rintro ⟨a, c⟩
     refine ⟨fun y z _ hy hz he => ?_, c⟩
     have hy : l[i]? = some y := hy
     rw [hget] at hy
     cases hy
     exact a he z hz
  have hf := fine_iff hok
  by_cases hfi : fineB l[i].f0 l[i].f1 l[i].f2 = true
  · rw [if_pos hfi, hw]
    have hg := hf.1 hfi
    have hrest : (∀ y z, 0 < i → l[i - 1]? = some y → l[i]? = some z → y.f2 = [] → z.f2 ≠ []) → (b = true ↔ (∀ y z, 0 < i → l[i - 1]? = some y → l[i]? = some z → y.f2 = [] → z.f2 ≠ []) ∧ MayT ((l.drop i).map pM)) := fun hp => by
     rw [hrec, hMay]
     exact ⟨fun ⟨a, c⟩ => ⟨hp, hg, a, c⟩, fun ⟨_, _, a, c⟩ => ⟨a, c⟩⟩
    by_cases h0 : (i : Int) > 0
    · have hw2 : wrap64 ((i : Int) - 1) = ((i - 1 : Nat) : Int) := by
       rw [w64 (by omega) (by omega)]
       omega
      have hi1 : i - 1 < l.length := by omega
      have hget1 : l[i - 1]? = some l[i - 1] := List.getElem?_eq_getElem hi1
      rw [if_pos h0]
      by_cases h1 : (l[i].f2.length : Int) = 0
      · rw [if_pos h1, hw2, if_pos (by omega), if_pos (by omega), rd_part l (i - 1) hi1]
        have e1 : l[i].f2 = [] := List.eq_nil_of_length_eq_zero (by omega)
        by_cases h2 : (l[i - 1].f2.length : Int) = 0
        · rw [if_pos h2]
          have e2 : l[i - 1].f2 = [] := List.eq_nil_of_length_eq_zero (by omega)
          exact ⟨false, rfl, fun e => (by cases e), fun ⟨g, _⟩ => absurd e1 (g _ _ (by omega) hget1 hget e2)⟩
        · rw [if_neg h2, hbr]
          refine ⟨b, rfl, hrest fun y z _ hy hz he => ?_⟩
          rw [hget1] at hy
          cases hy
          rw [he] at h2
          exact absurd rfl h2
      · rw [if_neg h1, hbr]
        refine ⟨b, rfl, hrest fun y z _ hy hz he e => ?_⟩
        rw [hget] at hz
        cases hz
        rw [e] at h1
        exact h1 rfl
    · rw [if_neg h0, hbr]
      exact ⟨b, rfl, hrest fun y z hp => absurd hp (by omega)⟩
  · rw [if_neg hfi]
    refine ⟨false, rfl, fun e => (by cases e), fun ⟨_, g⟩ => ?_⟩
    exact absurd (hf.2 (hMay.1 g).1) hfi
theorem prog_may (l : List S31) (hb : ∀ x ∈ l, OKP x) (hl : l.length ≤ 1099511627776) : ∃ b, (∀ k, l.length < k → tmpl_May.f k l = some b) ∧ (b = true ↔ MayT (l.map pM)) := by
 obtain ⟨b, h1, h2⟩ := may_loop l hb hl l.length (l.length + 1) 0 (by omega) (by omega)
 refine ⟨b, fun k hk => ?_, ?_⟩
 · obtain ⟨b', h1', h2'⟩ := may_loop l hb hl l.length k 0 (by omega) hk
   have : b = b' := by
    rw [Bool.eq_iff_iff, h2, h2']
   rw [this]
   exact h1'
 · rw [h2, List.drop_zero]
   exact ⟨fun h => h.2, fun h => ⟨fun _ _ e => absurd e (by omega), h⟩⟩
end Go.Proofs.YtlocbpaikdgmbaaGreatDoor.P
end
section
namespace Go.Proofs.YtlocbpaikdgmbaaGreatDoor.P
open Go.RowKit Go.Proofs.YtlocbpaikdgmbaaGreatDoorW.PrintWords Go.Proofs.YtlocbpaikdgmbaaGreatDoorW.PrintLast Go.Proofs.YtlocbpaikdgmbaaGreatDoorW.PrintMore
set_option linter.unusedVariables false
theorem bk43_at (l : List S55) (i : Nat) (h : i < l.length) : ∃ y, rd_T55 l (i : Int) = y ∧ l.drop i = y :: l.drop (i + 1) := by
 refine ⟨l[i], ?_, List.drop_eq_getElem_cons h⟩
 unfold rd_T55
 rw [Int.toNat_natCast, List.getD_eq_getElem?_getD, List.getElem?_eq_getElem h]
 rfl
theorem bk41_at (l : List S31) (i : Nat) (h : i < l.length) : ∃ y, rd_T31 l (i : Int) = y ∧ l.drop i = y :: l.drop (i + 1) := by
 refine ⟨l[i], ?_, List.drop_eq_getElem_cons h⟩
 unfold rd_T31
 rw [Int.toNat_natCast, List.getD_eq_getElem?_getD, List.getElem?_eq_getElem h]
 rfl
def FewP (x : S31) : Prop := x.f0.size ≤ 200 ∧ x.f2.length ≤ 20 ∧ ∀ v ∈ x.f2, v.f0.size ≤ 200
theorem few_l1 (l : List S31) (i : Nat) (hi : i < l.length) (h31 : i < 31) (y : S31) (hy : rd_T31 l (i : Int) = y) (hsp : y.f2.length ≤ 20) (b : Bool) (h : Ev (fun k => rf07_Few.l0 k l ((i + 1 : Nat) : Int)) b) :
 ∀ (d j : Nat), j + d = y.f2.length → ∃ b', Ev (fun k => rf07_Few.l1 k l (i : Int) (j : Int)) b' ∧ (b' = true → b = true ∧ ∀ v ∈ y.f2.drop j, v.f0.size ≤ 200)
 | 0, j, hj => by
  have ew : wrap64 ((i : Int) + 1) = ((i + 1 : Nat) : Int) := by rw [w64 (by omega) (by omega)]; omega
  have c1 : (0 ≤ (i : Int)) = True := eq_true (by omega)
  have c2 : ((i : Int) < (l.length : Int)) = True := eq_true (by omega)
  have c3 : ((j : Int) < (y.f2.length : Int)) = False := eq_false (by omega)
  refine ⟨b, Ev.step (f := _) (fun k => ?_) h, fun e => ⟨e, ?_⟩⟩
  · simp only [rf07_Few.l1, c1, c2, hy, c3, if_true, if_false, ew]
  · rw [List.drop_eq_nil_of_le (by omega)]
    intro v hv
    cases hv
 | d + 1, j, hj => by
  have ew : wrap64 ((j : Int) + 1) = ((j + 1 : Nat) : Int) := by rw [w64 (by omega) (by omega)]; omega
  have c1 : (0 ≤ (i : Int)) = True := eq_true (by omega)
  have c2 : ((i : Int) < (l.length : Int)) = True := eq_true (by omega)
  have c3 : ((j : Int) < (y.f2.length : Int)) = True := eq_true (by omega)
  have c4 : (0 ≤ (j : Int)) = True := eq_true (by omega)
  obtain ⟨v, hv1, hv2⟩ := bk43_at y.f2 j (by omega)
  by_cases hs : v.f0.size > 200
  · have c5 : ((v.f0.size : Int) > 200) = True := eq_true (by omega)
    refine ⟨false, Ev.step (f := fun _ => some false) (fun k => ?_) (Ev.now _), fun e => by cases e⟩
    simp only [rf07_Few.l1, c1, c2, hy, c3, c4, hv1, c5, if_true]
  · have c5 : ((v.f0.size : Int) > 200) = False := eq_false (by omega)
    obtain ⟨b', h1, h2⟩ := few_l1 l i hi h31 y hy hsp b h d (j + 1) (by omega)
    refine ⟨b', Ev.step (f := _) (fun k => ?_) h1, fun e => ⟨(h2 e).1, ?_⟩⟩
    · simp only [rf07_Few.l1, c1, c2, hy, c3, c4, hv1, c5, if_true, if_false, ew]
    · rw [hv2]
      intro x hx
      rcases List.mem_cons.1 hx with rfl | hx
      · omega
      · exact (h2 e).2 x hx
theorem few_l0 (l : List S31) : ∀ (d i : Nat), i + d = l.length → i ≤ 31 → ∃ b, Ev (fun k => rf07_Few.l0 k l (i : Int)) b ∧ (b = true → l.length ≤ 30 ∧ ∀ x ∈ l.drop i, FewP x)
 | 0, i, hi, _ => by
  refine ⟨decide ((l.length : Int) ≤ 30), Ev.step (f := fun k => rf07_Few.j1 k l (i : Int) false) (fun k => ?_) (Ev.step (f := fun _ => some (decide ((l.length : Int) ≤ 30))) (fun k => ?_) (Ev.now _)), fun e => ⟨by have := of_decide_eq_true e; omega, ?_⟩⟩
  · simp only [rf07_Few.l0]
    rw [if_neg (by omega)]
  · simp only [rf07_Few.j1]
    rw [if_neg (by simp)]
  · rw [List.drop_eq_nil_of_le (by omega)]
    intro v hv
    cases hv
 | d + 1, i, hi, h31 => by
  have c1 : ((i : Int) < (l.length : Int)) = True := eq_true (by omega)
  have c2 : (0 ≤ (i : Int)) = True := eq_true (by omega)
  by_cases h : i < 31
  · obtain ⟨y, hy, hd⟩ := bk41_at l i (by omega)
    have c3 : decide ((i : Int) < 31) = true := decide_eq_true (by omega)
    have st : ∀ {b : Bool}, Ev (fun k => rf07_Few.j1 k l (i : Int) true) b → Ev (fun k => rf07_Few.l0 k l (i : Int)) b := fun h => Ev.step (f := _) (fun k => by simp only [rf07_Few.l0, c1, c3, if_true]) h
    by_cases hs : y.f0.size > 200
    · have c5 : ((y.f0.size : Int) > 200) = True := eq_true (by omega)
      refine ⟨false, st (Ev.step (f := fun k => rf07_Few.j2 k l (i : Int) true) (fun k => ?_) (Ev.step (f := fun _ => some false) (fun k => ?_) (Ev.now _))), fun e => by cases e⟩
      · simp only [rf07_Few.j1, c1, c2, hy, c5, if_true]
      · simp only [rf07_Few.j2, if_true]
    · have c5 : ((y.f0.size : Int) > 200) = False := eq_false (by omega)
      by_cases hq : y.f2.length > 20
      · have c6 : decide ((y.f2.length : Int) > 20) = true := decide_eq_true (by omega)
        refine ⟨false, st (Ev.step (f := fun k => rf07_Few.j2 k l (i : Int) true) (fun k => ?_) (Ev.step (f := fun _ => some false) (fun k => ?_) (Ev.now _))), fun e => by cases e⟩
        · simp only [rf07_Few.j1, c1, c2, hy, c5, c6, if_true, if_false]
        · simp only [rf07_Few.j2, if_true]
      · have c6 : decide ((y.f2.length : Int) > 20) = false := decide_eq_false (by omega)
        obtain ⟨b, h1, h2⟩ := few_l0 l d (i + 1) (by omega) (by omega)
        obtain ⟨b', h3, h4⟩ := few_l1 l i (by omega) h y hy (by omega) b h1 y.f2.length 0 (Nat.zero_add _)
        refine ⟨b', st (Ev.step (f := fun k => rf07_Few.j2 k l (i : Int) false) (fun k => ?_) (Ev.step (f := _) (fun k => ?_) h3)), fun e => ?_⟩
        · simp only [rf07_Few.j1, c1, c2, hy, c5, c6, if_true, if_false]
        · simp only [rf07_Few.j2, Bool.false_eq_true, if_false]
          rfl
        · obtain ⟨g1, g2⟩ := h4 e
          obtain ⟨g3, g4⟩ := h2 g1
          refine ⟨g3, ?_⟩
          rw [hd]
          intro x hx
          rcases List.mem_cons.1 hx with rfl | hx
          · rw [List.drop_zero] at g2
            exact ⟨by omega, by omega, g2⟩
          · exact g4 x hx
  · have c3 : decide ((i : Int) < 31) = false := decide_eq_false (by omega)
    refine ⟨false, Ev.step (f := fun k => rf07_Few.j1 k l (i : Int) false) (fun k => ?_) (Ev.step (f := fun _ => some false) (fun k => ?_) (Ev.now _)), fun e => by cases e⟩
    · simp only [rf07_Few.l0, c1, c3, if_true]
    · simp only [rf07_Few.j1]
      rw [if_neg (by simp), decide_eq_false (by omega)]
theorem ref_few (l : List S31) : ∃ b, Ev (fun k => rf07_Few.f k l) b ∧ (b = true → l.length ≤ 30 ∧ ∀ x ∈ l, FewP x) := by
 have := few_l0 l l.length 0 (Nat.zero_add _) (by omega)
 rw [List.drop_zero] at this
 exact this
theorem few_ok {x : S31} (hf : FewP x) (h0 : 0 ≤ x.f1) (h1 : x.f1 ≤ 255) : OKP x := by
 obtain ⟨f1, f2, f3⟩ := hf
 exact ⟨by omega, h0, h1, by omega, fun v hv => by have := f3 v hv; omega⟩
end Go.Proofs.YtlocbpaikdgmbaaGreatDoor.P
end
section
namespace Go.Proofs.YtlocbpaikdgmbaaGreatDoor.P
open Go.RowKit Go.Proofs.YtlocbpaikdgmbaaGreatDoorW.PrintWords Go.Proofs.YtlocbpaikdgmbaaGreatDoorW.PrintLast Go.Proofs.YtlocbpaikdgmbaaGreatDoorW.PrintMore
set_option linter.unusedVariables false
set_option linter.unusedSimpArgs false
def txs (v : S44) : List ByteArray := if v.f0 = 1 then [v.f1] else if v.f0 = 2 then v.f2 else if v.f0 = 3 then v.f3.flatMap (fun p => [p.f0, p.f1]) else []
def canonV (v : S44) : S44 := if v.f0 = 1 then ⟨1, v.f1, [], []⟩ else if v.f0 = 2 ∧ v.f2 ≠ [] then ⟨2, ⟨#[]⟩, v.f2, []⟩ else if v.f0 = 3 ∧ v.f3 ≠ [] then ⟨3, ⟨#[]⟩, [], v.f3⟩ else z44
def getV : List S46 → ByteArray → S44 × Bool
 | [], _ => (z44, false)
 | b :: r, s => if b.f0 = s then (if txs b.f1 = [] then (z44, false) else (canonV b.f1, true)) else getV r s
def encB (keep : Bool) (s : ByteArray) : ByteArray := ⟨(encFrom keep s s.size 0).toArray⟩
def prefB (s : ByteArray) (most : Int) : ByteArray := (s.extract 0 (charsFrom s s.size 0).2).extract 0 (prefPos (s.extract 0 (charsFrom s s.size 0).2) most ((s.extract 0 (charsFrom s s.size 0).2).size + 1) 0 0)
def joinT (sep : ByteArray) (l : List ByteArray) : ByteArray := ⟨(joinB l sep).toArray⟩
def textT (R : RuleS) (name : ByteArray) (max : Int) (s : ByteArray) : ByteArray := maybeB R name (encB R.keep (if max > 0 then prefB s max else s))
def pairT (R : RuleS) (p : S154) : ByteArray := if R.named = true then namedB R (encB true p.f0) (encB R.keep p.f1) else (encB R.keep p.f0 ++ ⟨#[61]⟩) ++ encB R.keep p.f1
def starT (R : RuleS) (name : ByteArray) (v : S44) : ByteArray := if v.f0 = 2 then joinT R.sep (v.f2.map fun s => maybeB R name (encB R.keep s)) else joinT R.sep (v.f3.map (pairT R))
def wholeT (R : RuleS) (name : ByteArray) (v : S44) : ByteArray := if R.named = true then (name ++ ⟨#[61]⟩) ++ joinT ⟨#[44]⟩ ((txs v).map (encB R.keep)) else joinT ⟨#[44]⟩ ((txs v).map (encB R.keep))
def oneT (R : RuleS) (x : S55) (v : S44) : ByteArray := if v.f0 = 1 then textT R x.f0 x.f1 v.f1 else if x.f2 = true then starT R x.f0 v else wholeT R x.f0 v
def oneP (op : Int) (x : S55) (v : S44) : ByteArray × Bool × Int :=
 if hasRule op = false then (⟨#[]⟩, false, 1) else if goodV x = false then (⟨#[]⟩, false, 1) else if txs v = [] then (⟨#[]⟩, false, 0) else if x.f1 > 0 ∧ v.f0 ≠ 1 then (⟨#[]⟩, false, 4)
 else if (txs v).all validB = false then (⟨#[]⟩, false, 3) else (oneT (ruleOf op) x v, true, 0)
def textsP (op : Int) (a : List S46) : List S55 → List (ByteArray × Int)
 | [] => []
 | x :: r => if (oneP op x (getV a x.f0).1).2.1 = true ∨ (oneP op x (getV a x.f0).1).2.2 ≠ 0 then ((oneP op x (getV a x.f0).1).1, (oneP op x (getV a x.f0).1).2.2) :: textsP op a r else textsP op a r
def partEndsP (R : RuleS) (xs : List (ByteArray × Int)) : ByteArray × Int :=
 match xs.find? fun x => x.2 != 0 with
 | some x => (⟨#[]⟩, x.2)
 | none => if xs = [] then (⟨#[]⟩, 0) else (R.first ++ joinT R.sep (xs.map (·.1)), 0)
def partP (p : S31) (a : List S46) : ByteArray × Int := if fineB p.f0 p.f1 p.f2 = false then (⟨#[]⟩, 1) else if p.f2 = [] then (encB true p.f0, 0) else partEndsP (ruleOf p.f1) (textsP p.f1 a p.f2)
def allR (a : List S46) : List S31 → List UInt8 → List UInt8 × Int
 | [], acc => (acc, 0)
 | p :: r, acc => if (partP p a).2 ≠ 0 then ([], (partP p a).2) else allR a r (acc ++ (partP p a).1.data.toList)
def allP (m : Bool) (t : List S31) (a : List S46) (most : Int) : ByteArray × Int := if m = false ∨ most < 0 then (⟨#[]⟩, 1) else allEnds most (allR a t [])
def FewV (v : S44) : Prop := v.f1.size ≤ 200 ∧ v.f2.length ≤ 30 ∧ v.f3.length ≤ 30 ∧ (∀ s ∈ v.f2, s.size ≤ 200) ∧ ∀ p ∈ v.f3, p.f0.size ≤ 200 ∧ p.f1.size ≤ 200
def FewA (a : List S46) : Prop := a.length ≤ 20 ∧ ∀ b ∈ a, b.f0.size ≤ 200 ∧ FewV b.f1
theorem fewV_z : FewV z44 := ⟨Nat.zero_le _, Nat.zero_le _, Nat.zero_le _, List.forall_mem_nil _, List.forall_mem_nil _⟩
theorem fewV_canon {v : S44} (h : FewV v) : FewV (canonV v) := by
 obtain ⟨h1, h2, h3, h4, h5⟩ := h
 unfold canonV
 split
 · exact ⟨h1, Nat.zero_le _, Nat.zero_le _, List.forall_mem_nil _, List.forall_mem_nil _⟩
 · split
   · exact ⟨Nat.zero_le _, h2, Nat.zero_le _, h4, List.forall_mem_nil _⟩
   · split
     · exact ⟨Nat.zero_le _, Nat.zero_le _, h3, List.forall_mem_nil _, h5⟩
     · exact fewV_z
theorem fewV_get : ∀ {a : List S46} {s : ByteArray}, (∀ b ∈ a, b.f0.size ≤ 200 ∧ FewV b.f1) → FewV (getV a s).1
 | [], _, _ => fewV_z
 | b :: r, s, h => by
  unfold getV
  split
  · split
    · exact fewV_z
    · exact fewV_canon (h b List.mem_cons_self).2
  · exact fewV_get (fun b hb => h b (List.mem_cons_of_mem _ hb))
theorem txs_few {v : S44} (h : FewV v) : (txs v).length ≤ 60 ∧ ∀ s ∈ txs v, s.size ≤ 200 := by
 obtain ⟨h1, h2, h3, h4, h5⟩ := h
 unfold txs
 split
 · exact ⟨by simp, fun s hs => by rw [List.mem_singleton.1 hs]; exact h1⟩
 · split
   · exact ⟨by omega, h4⟩
   · split
     · refine ⟨?_, fun s hs => ?_⟩
       · rw [List.length_flatMap]
         have : (v.f3.map fun p => ([p.f0, p.f1] : List ByteArray).length).sum ≤ 2 * v.f3.length := by
          generalize v.f3 = l
          induction l with
          | nil => simp
          | cons x r ih => simp only [List.map_cons, List.sum_cons, List.length_cons, List.length_nil] at *; omega
         omega
       · obtain ⟨p, hp, hs⟩ := List.mem_flatMap.1 hs
         rcases List.mem_cons.1 hs with rfl | hs
         · exact (h5 p hp).1
         · rw [List.mem_singleton.1 hs]
           exact (h5 p hp).2
     · exact ⟨by simp, List.forall_mem_nil _⟩
theorem encB_size (keep : Bool) (s : ByteArray) : (encB keep s).size ≤ 3 * s.size := by
 have := encFrom_length keep s s.size 0
 show (encFrom keep s s.size 0).toArray.size ≤ _
 simpa using this
theorem size_append (a b : ByteArray) : (a ++ b).size = a.size + b.size := ByteArray.size_append
theorem prefB_size (s : ByteArray) (most : Int) : (prefB s most).size ≤ s.size := by
 unfold prefB
 rw [ByteArray.size_extract, ByteArray.size_extract]
 omega
theorem maybeB_size (R : RuleS) (name s : ByteArray) : (maybeB R name s).size ≤ name.size + 1 + R.empty.size + s.size := by
 unfold maybeB namedB
 have h1 : (⟨#[61]⟩ : ByteArray).size = 1 := rfl
 repeat' split
 all_goals (try rw [size_append]); (try rw [size_append]); omega
theorem namedB_size (R : RuleS) (name s : ByteArray) : (namedB R name s).size ≤ name.size + 1 + R.empty.size + s.size := by
 unfold namedB
 have h1 : (⟨#[61]⟩ : ByteArray).size = 1 := rfl
 split
 · rw [size_append]; omega
 · rw [size_append, size_append]; omega
theorem pairT_size (R : RuleS) (p : S154) : (pairT R p).size ≤ 3 * p.f0.size + 1 + R.empty.size + 3 * p.f1.size := by
 unfold pairT
 have h1 : (⟨#[61]⟩ : ByteArray).size = 1 := rfl
 have e1 := encB_size true p.f0
 have e2 := encB_size R.keep p.f0
 have e3 := encB_size R.keep p.f1
 split
 · have := namedB_size R (encB true p.f0) (encB R.keep p.f1)
   omega
 · rw [size_append, size_append]
   omega
theorem joinTail_length (sep : List UInt8) : ∀ (r : List (List UInt8)) (B : Nat), (∀ x ∈ r, x.length ≤ B) → (Lib.joinTail sep r).length ≤ r.length * (sep.length + B)
 | [], _, _ => by simp [Lib.joinTail]
 | x :: r, B, h => by
  have ih := joinTail_length sep r B (fun y hy => h y (List.mem_cons_of_mem _ hy))
  have hx := h x List.mem_cons_self
  have e : Lib.joinTail sep (x :: r) = (sep ++ x) ++ Lib.joinTail sep r := by simp [Lib.joinTail]
  rw [e, List.length_append, List.length_append, List.length_cons, Nat.add_mul]
  omega
theorem joinB_length (l : List ByteArray) (sep : ByteArray) (B : Nat) (h : ∀ x ∈ l, x.size ≤ B) : (joinB l sep).length ≤ l.length * (sep.size + B) := by
 unfold joinB
 cases l with
 | nil => simp [Lib.join_nil]
 | cons x r =>
  rw [List.map_cons, Lib.join_cons, List.length_append, List.length_cons, Nat.add_mul]
  have h1 := joinTail_length sep.data.toList (r.map (·.data.toList)) B (fun y hy => by
   obtain ⟨z, hz, rfl⟩ := List.mem_map.1 hy
   exact h z (List.mem_cons_of_mem _ hz))
  have h2 : x.data.toList.length ≤ B := h x List.mem_cons_self
  rw [List.length_map] at h1
  have h3 : sep.data.toList.length = sep.size := rfl
  rw [h3] at h1
  omega
theorem joinT_size (sep : ByteArray) (l : List ByteArray) (B : Nat) (h : ∀ x ∈ l, x.size ≤ B) : (joinT sep l).size ≤ l.length * (sep.size + B) := by
 have := joinB_length l sep B h
 show (joinB l sep).toArray.size ≤ _
 simpa using this
theorem ruleOf_sizes (op : Int) : (ruleOf op).first.size ≤ 1 ∧ (ruleOf op).sep.size ≤ 1 ∧ (ruleOf op).empty.size ≤ 1 := by
 unfold ruleOf
 repeat' split
 all_goals exact ⟨by decide, by decide, by decide⟩
theorem oneT_size {R : RuleS} {x : S55} {v : S44} (hR : R.sep.size ≤ 1 ∧ R.empty.size ≤ 1) (hx : x.f0.size ≤ 200) (hv : FewV v) : (oneT R x v).size ≤ 40000 := by
 have ht := txs_few hv
 obtain ⟨h1, h2, h3, h4, h5⟩ := hv
 unfold oneT
 split
 · unfold textT
   have a1 := maybeB_size R x.f0 (encB R.keep (if x.f1 > 0 then prefB v.f1 x.f1 else v.f1))
   have a2 := encB_size R.keep (if x.f1 > 0 then prefB v.f1 x.f1 else v.f1)
   have a3 : (if x.f1 > 0 then prefB v.f1 x.f1 else v.f1).size ≤ v.f1.size := by
    split
    · exact prefB_size _ _
    · exact Nat.le_refl _
   omega
 · split
   · unfold starT
     split
     · have a := joinT_size R.sep (v.f2.map fun s => maybeB R x.f0 (encB R.keep s)) 802 (fun y hy => by
        obtain ⟨s, hs, rfl⟩ := List.mem_map.1 hy
        have := maybeB_size R x.f0 (encB R.keep s)
        have := encB_size R.keep s
        have := h4 s hs
        omega)
       rw [List.length_map] at a
       have : v.f2.length * (R.sep.size + 802) ≤ 30 * (1 + 802) := Nat.mul_le_mul h2 (by omega)
       omega
     · have a := joinT_size R.sep (v.f3.map (pairT R)) 1202 (fun y hy => by
        obtain ⟨p, hp, rfl⟩ := List.mem_map.1 hy
        have := pairT_size R p
        have := h5 p hp
        omega)
       rw [List.length_map] at a
       have : v.f3.length * (R.sep.size + 1202) ≤ 30 * (1 + 1202) := Nat.mul_le_mul h3 (by omega)
       omega
   · have a := joinT_size ⟨#[44]⟩ ((txs v).map (encB R.keep)) 600 (fun y hy => by
      obtain ⟨s, hs, rfl⟩ := List.mem_map.1 hy
      have := encB_size R.keep s
      have := ht.2 s hs
      omega)
     rw [List.length_map] at a
     have h44 : (⟨#[44]⟩ : ByteArray).size = 1 := rfl
     have h61 : (⟨#[61]⟩ : ByteArray).size = 1 := rfl
     rw [h44] at a
     have : (txs v).length * (1 + 600) ≤ 60 * (1 + 600) := Nat.mul_le_mul ht.1 (Nat.le_refl _)
     unfold wholeT
     split
     · rw [size_append, size_append]
       omega
     · omega
theorem oneP_size {op : Int} {x : S55} {v : S44} (hx : x.f0.size ≤ 200) (hv : FewV v) : (oneP op x v).1.size ≤ 40000 := by
 have h0 : (⟨#[]⟩ : ByteArray).size = 0 := rfl
 unfold oneP
 repeat' split
 all_goals first
  | (show (⟨#[]⟩ : ByteArray).size ≤ _; omega)
  | exact oneT_size ⟨(ruleOf_sizes op).2.1, (ruleOf_sizes op).2.2⟩ hx hv
theorem textsP_few {op : Int} {a : List S46} (ha : ∀ b ∈ a, b.f0.size ≤ 200 ∧ FewV b.f1) : ∀ {sp : List S55}, (∀ x ∈ sp, x.f0.size ≤ 200) → (textsP op a sp).length ≤ sp.length ∧ ∀ y ∈ textsP op a sp, y.1.size ≤ 40000
 | [], _ => ⟨Nat.le_refl _, List.forall_mem_nil _⟩
 | x :: r, h => by
  obtain ⟨h1, h2⟩ := textsP_few (op := op) ha (fun y hy => h y (List.mem_cons_of_mem _ hy))
  unfold textsP
  split
  · refine ⟨by simp only [List.length_cons]; omega, fun y hy => ?_⟩
    rcases List.mem_cons.1 hy with rfl | hy
    · exact oneP_size (h x List.mem_cons_self) (fewV_get ha)
    · exact h2 y hy
  · exact ⟨by simp only [List.length_cons]; omega, h2⟩
theorem partP_size {p : S31} {a : List S46} (hp : FewP p) (ha : FewA a) : (partP p a).1.size ≤ 1000000 := by
 obtain ⟨h1, h2, h3⟩ := hp
 have h0 : (⟨#[]⟩ : ByteArray).size = 0 := rfl
 unfold partP
 split
 · show (⟨#[]⟩ : ByteArray).size ≤ _; omega
 · split
   · have := encB_size true p.f0
     show (encB true p.f0).size ≤ _
     omega
   · obtain ⟨g1, g2⟩ := textsP_few (op := p.f1) ha.2 h3
     unfold partEndsP
     split
     · show (⟨#[]⟩ : ByteArray).size ≤ _; omega
     · split
       · show (⟨#[]⟩ : ByteArray).size ≤ _; omega
       · have a1 := joinT_size (ruleOf p.f1).sep ((textsP p.f1 a p.f2).map (·.1)) 40000 (fun y hy => by
          obtain ⟨z, hz, rfl⟩ := List.mem_map.1 hy
          exact g2 z hz)
         rw [List.length_map] at a1
         have hr := ruleOf_sizes p.f1
         have : (textsP p.f1 a p.f2).length * ((ruleOf p.f1).sep.size + 40000) ≤ 20 * (1 + 40000) := Nat.mul_le_mul (by omega) (by omega)
         show ((ruleOf p.f1).first ++ _).size ≤ _
         rw [size_append]
         omega
theorem allR_length {a : List S46} (ha : FewA a) : ∀ {t : List S31} {acc : List UInt8}, (∀ p ∈ t, FewP p) → (allR a t acc).1.length ≤ acc.length + 1000000 * t.length
 | [], acc, _ => by unfold allR; simp
 | p :: r, acc, h => by
  have hp := partP_size (h p List.mem_cons_self) ha
  unfold allR
  split
  · simp
  · have ih := allR_length ha (acc := acc ++ (partP p a).1.data.toList) (fun y hy => h y (List.mem_cons_of_mem _ hy))
    rw [List.length_append] at ih
    have e : (partP p a).1.data.toList.length = (partP p a).1.size := rfl
    rw [e] at ih
    simp only [List.length_cons]
    omega
theorem pair_at (l : List S154) (i : Nat) (h : i < l.length) : rd_T154 l (i : Int) = l[i] := by
 unfold rd_T154
 rw [Int.toNat_natCast, List.getD_eq_getElem?_getD, List.getElem?_eq_getElem h]
 rfl
theorem prog_texts_from (l : List S154) (hl : l.length ≤ 1000) : ∀ (d k i : Nat) (acc : List ByteArray), i + d = l.length → d < k → acc.length + 2 * d ≤ 10000 →
 value_Texts.l0 k acc l (l.length : Int) (i : Int) = some (acc ++ (l.drop i).flatMap (fun p => [p.f0, p.f1]))
 | 0, k, i, acc, h, hk, _ => by
  obtain ⟨k, rfl⟩ : ∃ m, k = m + 1 := ⟨k - 1, by omega⟩
  simp only [value_Texts.l0]
  rw [if_neg (by omega), List.drop_eq_nil_of_le (by omega)]
  simp
 | d + 1, k, i, acc, h, hk, ha => by
  obtain ⟨k, rfl⟩ : ∃ m, k = m + 1 := ⟨k - 1, by omega⟩
  have hlt : i < l.length := by omega
  simp only [value_Texts.l0]
  rw [if_pos (by omega), if_pos (by omega), if_pos (by omega), pair_at l i hlt]
  simp only [Option.bind_some]
  rw [if_pos (by simp only [List.length_cons, List.length_nil]; omega), w64 (by omega) (by omega), show ((i : Int) + 1) = ((i + 1 : Nat) : Int) by omega,
   prog_texts_from l hl d k (i + 1) _ (by omega) (by omega) (by simp only [List.length_append, List.length_cons, List.length_nil]; omega), List.drop_eq_getElem_cons hlt, List.flatMap_cons, List.append_assoc]
theorem prog_texts8 {v : S44} (hv : FewV v) {k : Nat} (hk : 40 < k) : value_Texts.f k v.f0 v.f1 v.f2 v.f3 = some (txs v) := by
 obtain ⟨h1, h2, h3, h4, h5⟩ := hv
 unfold value_Texts.f txs
 split
 · rfl
 · split
   · unfold slices_Clone_string_string.f
     rw [if_pos (by omega)]
     rfl
   · split
     · have := prog_texts_from v.f3 (by omega) v.f3.length k 0 [] (by omega) (by omega) (by simp only [List.length_nil]; omega)
       simpa using this
     · rfl
theorem prog_defined {v : S44} (hv : FewV v) {k : Nat} (hk : 40 < k) : value_Defined.f k v.f0 v.f1 v.f2 v.f3 = some (!(txs v).isEmpty) := by
 unfold value_Defined.f
 rw [prog_texts8 hv hk]
 simp only [Option.bind_some]
 congr 1
 cases txs v with
 | nil => rfl
 | cons x r => simp
theorem flat_pairs : ∀ (l : List S154), pairsOf (l.flatMap fun p => [p.f0, p.f1]) = l := by
 intro l
 unfold pairsOf
 have hlen : (l.flatMap fun p => [p.f0, p.f1]).length = 2 * l.length := by
  induction l with
  | nil => rfl
  | cons x r ih => simp only [List.flatMap_cons, List.length_append, List.length_cons, List.length_nil, ih]; omega
 rw [hlen, show 2 * l.length / 2 = l.length by omega]
 have hget : ∀ (l : List S154) (k : Nat) (h : k < l.length), pairAt (l.flatMap fun p => [p.f0, p.f1]) k = l[k] := by
  intro l
  induction l with
  | nil => intro k h; simp at h
  | cons x r ih =>
   intro k h
   cases k with
   | zero => rfl
   | succ k =>
    have := ih k (by simpa using h)
    unfold pairAt at this ⊢
    simp only [List.flatMap_cons, List.getElem_cons_succ]
    rw [← this]
    have e1 : 2 * (k + 1) = 2 * k + 1 + 1 := by omega
    rw [e1]
    rfl
 apply List.ext_getElem (by simp)
 intro i h1 h2
 simp only [List.getElem_map, List.getElem_range]
 exact hget l i h2
theorem prog_canon {v : S44} (hv : FewV v) {k : Nat} (hk : 40 < k) : value_Canon.f k v = some (if txs v = [] then z44 else canonV v) := by
 have ht := txs_few hv
 unfold value_Canon.f
 rw [prog_texts8 hv hk]
 simp only [Option.bind_some]
 unfold value_Of.f
 rw [if_pos (by omega)]
 obtain ⟨kd, sv, l, p⟩ := v
 simp only [txs, canonV]
 by_cases h1 : kd = 1
 · subst h1
   simp
 · by_cases h2 : kd = 2
   · subst h2
     cases l with
     | nil => simp
     | cons x r => simp
   · by_cases h3 : kd = 3
     · subst h3
       cases p with
       | nil => simp
       | cons x r =>
        have hf := flat_pairs (x :: r)
        have hlen : ((x :: r).flatMap fun p => [p.f0, p.f1]).length = 2 * (x :: r).length := by
         generalize x :: r = l
         induction l with
         | nil => rfl
         | cons x r ih => simp only [List.flatMap_cons, List.length_append, List.length_cons, List.length_nil, ih]; omega
        have hne : (x :: r).flatMap (fun p => [p.f0, p.f1]) ≠ [] := by
         intro e
         rw [e] at hlen
         simp at hlen
        simp only [show ¬ ((3 : Int) = 1) by decide, show ¬ ((3 : Int) = 2) by decide, false_and, if_false, true_and, if_true, hne, ne_eq, not_false_eq_true, reduceCtorEq]
        rw [if_pos ⟨by rw [hlen]; simp, by rw [hlen]; omega⟩, hf]
        rfl
     · simp [h1, h2, h3]
theorem okB2_few {b : S46} (hb : FewV b.f1) {k : Nat} (hk : 40 < k) : okB2 k b = true := by
 unfold okB2
 rw [prog_defined hb hk]
 cases h : (txs b.f1).isEmpty with
 | true => rfl
 | false =>
  show (value_Canon.f k b.f1).isSome = true
  rw [prog_canon hb hk]
  rfl
theorem getP_few : ∀ {a : List S46} (s : ByteArray) {k : Nat}, (∀ b ∈ a, FewV b.f1) → 40 < k → getP k a s = getV a s
 | [], s, k, _, _ => rfl
 | b :: r, s, k, h, hk => by
  have ih := getP_few s (fun b hb => h b (List.mem_cons_of_mem _ hb)) hk (a := r)
  have hb := h b List.mem_cons_self
  unfold getP getB getV
  by_cases e : b.f0 = s
  · rw [if_pos e, if_pos e, prog_defined hb hk, prog_canon hb hk]
    by_cases ht : txs b.f1 = []
    · rw [if_pos ht, ht]
      rfl
    · rw [if_neg ht]
      have : (txs b.f1).isEmpty = false := by cases h2 : txs b.f1 with | nil => exact absurd h2 ht | cons _ _ => rfl
      rw [this, if_neg ht]
      rfl
  · rw [if_neg e, if_neg e]
    exact ih
theorem prog_get {a : List S46} (ha : FewA a) (s : ByteArray) {k : Nat} (hk : 40 < k) : bind_Get.f k a s = some (getV a s) := by
 unfold bind_Get.f
 rw [if_pos ⟨by have := ha.1; omega, List.all_eq_true.2 fun b hb => okB2_few (ha.2 b hb).2 hk⟩, getP_few s (fun b hb => (ha.2 b hb).2) hk]
theorem prog_enc {s : ByteArray} (keep : Bool) (h : s.size ≤ 1099511627776) : pct_Encode.f s keep = some (encB keep s) := by
 unfold pct_Encode.f
 rw [if_pos h]
 rfl
theorem hasRule_iff {op : Int} (h0 : 0 ≤ op) (h1 : op ≤ 255) : hasRule op = true ↔ GoodOp op := by
 obtain ⟨n, rfl⟩ : ∃ n : Nat, op = (n : Int) := ⟨op.toNat, by omega⟩
 have key : ∀ n : Fin 256, hasRule ((n.1 : Nat) : Int) = (n.1 == 0 || isOp n.1) := by decide +kernel
 have := key ⟨n, by omega⟩
 simp only at this
 rw [this, Bool.or_eq_true, beq_iff_eq]
 constructor
 · rintro (h | h)
   · exact .inl (by omega)
   · exact .inr ⟨n, h, rfl⟩
 · rintro (h | ⟨b, h, e⟩)
   · exact .inl (by omega)
   · exact .inr (by rw [show n = b by omega]; exact h)
theorem prog_of {op : Int} (h0 : 0 ≤ op) (h1 : op ≤ 255) : oper_Of.f op = some (ruleOf op, hasRule op) := by
 obtain ⟨b, hb, hi⟩ := prog_oper2 h0 h1
 unfold oper_Of.f
 rw [hb]
 have : b = hasRule op := by rw [Bool.eq_iff_iff, hi, hasRule_iff h0 h1]
 rw [this]
 simp
theorem mapO_all {T : ByteArray → Option ByteArray} {g : ByteArray → ByteArray} : ∀ {l : List ByteArray}, (∀ s ∈ l, T s = some (g s)) → mapO T l = some (l.map g)
 | [], _ => rfl
 | x :: r, h => by
  unfold mapO
  rw [h x List.mem_cons_self, mapO_all (fun s hs => h s (List.mem_cons_of_mem _ hs))]
  rfl
theorem mapPO_all {R : RuleS} : ∀ {l : List S154}, (∀ p ∈ l, pairO R p.f0 p.f1 = some (pairT R p)) → mapPO R l = some (l.map (pairT R))
 | [], _ => rfl
 | x :: r, h => by
  unfold mapPO
  rw [h x List.mem_cons_self, mapPO_all (fun s hs => h s (List.mem_cons_of_mem _ hs))]
  rfl
theorem prog_join {l : List ByteArray} {sep : ByteArray} (B : Nat) (h1 : l.length ≤ 1000) (h : ∀ x ∈ l, x.size ≤ B) (hb : sep.size + B ≤ 1000000) : strings_Join.f l sep = some (joinT sep l) := by
 have := joinB_length l sep B h
 have h2 : l.length * (sep.size + B) ≤ 1000 * 1000000 := Nat.mul_le_mul h1 hb
 unfold strings_Join.f
 rw [if_pos ⟨by omega, by omega⟩]
 rfl
theorem prog_starO {R : RuleS} {name s : ByteArray} (hR : R.empty.size ≤ 1) (hn : name.size ≤ 200) (hs : s.size ≤ 200) : starO R name s = some (maybeB R name (encB R.keep s)) := by
 unfold starO
 rw [prog_enc _ (by omega)]
 have := encB_size R.keep s
 simp only [Option.bind_some]
 rw [if_pos ⟨by omega, by omega, by omega⟩]
theorem prog_pairO {R : RuleS} {p : S154} (hR : R.empty.size ≤ 1) (h1 : p.f0.size ≤ 200) (h2 : p.f1.size ≤ 200) : pairO R p.f0 p.f1 = some (pairT R p) := by
 unfold pairO pairT
 have e1 := encB_size true p.f0
 have e2 := encB_size R.keep p.f0
 have e3 := encB_size R.keep p.f1
 rw [prog_enc _ (by omega), prog_enc _ (by omega), prog_enc _ (by omega)]
 simp only [Option.bind_some]
 split
 · rw [if_pos ⟨by omega, by omega, by omega⟩]
 · rw [if_pos ⟨by omega, by omega⟩]
theorem prog_oneText {R : RuleS} {x : S55} {v : S44} {k : Nat} (hk : 40 < k) (hR : R.sep.size ≤ 1 ∧ R.empty.size ≤ 1) (hx : x.f0.size ≤ 200) (hv : FewV v) : oneText k R x.f0 x.f1 x.f2 v.f0 v.f1 v.f2 v.f3 = some (oneT R x v) := by
 have ht := txs_few hv
 have htx := prog_texts8 hv hk
 obtain ⟨h1, h2, h3, h4, h5⟩ := hv
 unfold oneText oneT
 split
 · unfold way_text.f textT
   have a3 : (if x.f1 > 0 then prefB v.f1 x.f1 else v.f1).size ≤ v.f1.size := by
    split
    · exact prefB_size _ _
    · exact Nat.le_refl _
   have a4 : (if x.f1 > 0 then utf_Prefix.f v.f1 x.f1 else some v.f1) = some (if x.f1 > 0 then prefB v.f1 x.f1 else v.f1) := by
    split
    · unfold utf_Prefix.f
      rw [if_pos (by omega)]
      rfl
    · rfl
   rw [a4]
   simp only [Option.bind_some]
   rw [prog_enc _ (by omega)]
   have a2 := encB_size R.keep (if x.f1 > 0 then prefB v.f1 x.f1 else v.f1)
   simp only [Option.bind_some]
   rw [if_pos ⟨by omega, by omega, by omega⟩]
 · split
   · unfold way_star.f starT
     split
     · unfold joinedO
       rw [if_pos (by omega), mapO_all (g := fun s => maybeB R x.f0 (encB R.keep s)) (fun s hs => prog_starO hR.2 hx (h4 s hs))]
       simp only [Option.bind_some]
       exact prog_join 802 (by rw [List.length_map]; omega) (fun y hy => by
        obtain ⟨s, hs, rfl⟩ := List.mem_map.1 hy
        have := maybeB_size R x.f0 (encB R.keep s)
        have := encB_size R.keep s
        have := h4 s hs
        omega) (by omega)
     · rw [if_pos (by omega), mapPO_all (fun p hp => prog_pairO hR.2 (h5 p hp).1 (h5 p hp).2)]
       simp only [Option.bind_some]
       exact prog_join 1202 (by rw [List.length_map]; omega) (fun y hy => by
        obtain ⟨p, hp, rfl⟩ := List.mem_map.1 hy
        have := pairT_size R p
        have := h5 p hp
        omega) (by omega)
   · have h44 : (⟨#[44]⟩ : ByteArray).size = 1 := rfl
     have ha : ∀ y ∈ (txs v).map (encB R.keep), y.size ≤ 600 := fun y hy => by
      obtain ⟨s, hs, rfl⟩ := List.mem_map.1 hy
      have := encB_size R.keep s
      have := ht.2 s hs
      omega
     have hj := prog_join (sep := ⟨#[44]⟩) 600 (by rw [List.length_map]; omega) ha (by omega)
     have hsz := joinT_size ⟨#[44]⟩ ((txs v).map (encB R.keep)) 600 ha
     rw [List.length_map, h44] at hsz
     have : (txs v).length * (1 + 600) ≤ 60 * (1 + 600) := Nat.mul_le_mul ht.1 (Nat.le_refl _)
     unfold way_whole.f wholeT
     rw [htx]
     simp only [Option.bind_some]
     unfold joinedO
     rw [if_pos (by omega), mapO_all (g := encB R.keep) (fun s hs => prog_enc _ (by have := ht.2 s hs; omega))]
     simp only [Option.bind_some]
     rw [hj]
     simp only [Option.bind_some]
     split
     · rw [if_pos ⟨by omega, by omega⟩]
     · rfl
theorem prog_one {op : Int} {x : S55} {v : S44} {k : Nat} (hk : 40 < k) (h0 : 0 ≤ op) (h1 : op ≤ 255) (hx : x.f0.size ≤ 200) (hv : FewV v) : piece_One.f k op x.f0 x.f1 x.f2 v.f0 v.f1 v.f2 v.f3 = some (oneP op x v) := by
 have ht := txs_few hv
 unfold piece_One.f piece_of.f oneP
 rw [prog_of h0 h1]
 simp only [Option.bind_some]
 split
 · rfl
 · rw [goodV_some (by omega)]
   simp only [Option.bind_some]
   split
   · rfl
   · rw [prog_defined hv hk]
     simp only [Option.bind_some]
     by_cases he : txs v = []
     · rw [he, if_pos (show (!([] : List ByteArray).isEmpty) = false from rfl), if_pos rfl]
     · rw [if_neg (by cases h : txs v with | nil => exact absurd h he | cons _ _ => simp), if_neg he]
       split
       · rfl
       · unfold value_Valid.f
         rw [prog_texts8 hv hk]
         simp only [Option.bind_some]
         rw [if_pos ⟨by omega, List.all_eq_true.2 fun s hs => decide_eq_true (by have := ht.2 s hs; omega)⟩]
         simp only [Option.bind_some]
         split
         · rfl
         · rw [prog_oneText hk ⟨(ruleOf_sizes op).2.1, (ruleOf_sizes op).2.2⟩ hx hv]
           rfl
theorem prog_textsO {op : Int} {a : List S46} {k : Nat} (hk : 40 < k) (h0 : 0 ≤ op) (h1 : op ≤ 255) (ha : FewA a) : ∀ {sp : List S55}, (∀ x ∈ sp, x.f0.size ≤ 200) → textsO k op a sp = some (textsP op a sp)
 | [], _ => rfl
 | x :: r, h => by
  unfold textsO pieceR textsP
  rw [prog_get ha _ hk]
  simp only [Option.bind_some]
  rw [prog_one hk h0 h1 (h x List.mem_cons_self) (fewV_get ha.2), prog_textsO hk h0 h1 ha (fun y hy => h y (List.mem_cons_of_mem _ hy))]
  rfl
theorem prog_part {p : S31} {a : List S46} {k : Nat} (hk : 40 < k) (h0 : 0 ≤ p.f1) (h1 : p.f1 ≤ 255) (hp : FewP p) (ha : FewA a) : expand_Part.f k p.f0 p.f1 p.f2 a = some (partP p a) := by
 have hok := few_ok hp h0 h1
 obtain ⟨m, hm, hi⟩ := prog_may [p] (fun x hx => by rw [List.mem_singleton.1 hx]; exact hok) (by simp)
 have hmf : m = fineB p.f0 p.f1 p.f2 := by
  rw [Bool.eq_iff_iff, hi, fine_iff hok]
  exact ⟨fun h => h.1, fun h => ⟨h, fun _ y hy => (by cases hy), trivial⟩⟩
 unfold expand_Part.f partP
 rw [show ([⟨p.f0, p.f1, p.f2⟩] : List S31) = [p] from rfl, hm k (by simp only [List.length_cons, List.length_nil]; omega), hmf]
 simp only [Option.bind_some]
 split
 · rfl
 · obtain ⟨g1, g2, g3⟩ := hp
   split
   · rw [prog_enc _ (by omega)]
     rfl
   · obtain ⟨t1, t2⟩ := textsP_few (op := p.f1) ha.2 g3
     rw [if_pos (by omega), prog_of h0 h1]
     simp only [Option.bind_some]
     rw [prog_textsO hk h0 h1 ha g3]
     simp only [Option.bind_some]
     rw [if_pos (by omega)]
     unfold partEnds partEndsP
     cases hf : (textsP p.f1 a p.f2).find? fun x => x.2 != 0 with
     | some x => rfl
     | none =>
      dsimp only
      split
      · rfl
      · have hR := ruleOf_sizes p.f1
        have hb : ∀ y ∈ (textsP p.f1 a p.f2).map (·.1), y.size ≤ 40000 := fun y hy => by
         obtain ⟨z, hz, rfl⟩ := List.mem_map.1 hy
         exact t2 z hz
        rw [prog_join 40000 (by rw [List.length_map]; omega) hb (by omega)]
        simp only [Option.bind_some]
        have hs := joinT_size (ruleOf p.f1).sep ((textsP p.f1 a p.f2).map (·.1)) 40000 hb
        rw [List.length_map] at hs
        have : (textsP p.f1 a p.f2).length * ((ruleOf p.f1).sep.size + 40000) ≤ 20 * (1 + 40000) := Nat.mul_le_mul (by omega) (by omega)
        rw [if_pos (by omega)]
theorem prog_allO {a : List S46} {k : Nat} (hk : 40 < k) (ha : FewA a) : ∀ {t : List S31} {acc : List UInt8}, (∀ p ∈ t, FewP p ∧ 0 ≤ p.f1 ∧ p.f1 ≤ 255) → acc.length + 1000000 * t.length ≤ 1000000000 → allO k a t acc = some (allR a t acc)
 | [], acc, _, _ => rfl
 | p :: r, acc, h, hl => by
  obtain ⟨hp, h0, h1⟩ := h p List.mem_cons_self
  have hs := partP_size hp ha
  simp only [List.length_cons] at hl
  unfold allO allR
  rw [prog_part hk h0 h1 hp ha]
  simp only [Option.bind_some]
  split
  · rfl
  · rw [if_pos (by omega)]
    exact prog_allO hk ha (fun y hy => h y (List.mem_cons_of_mem _ hy)) (by
     rw [List.length_append]
     have e : (partP p a).1.data.toList.length = (partP p a).1.size := rfl
     omega)
theorem prog_all {t : List S31} {a : List S46} (ht : t.length ≤ 100) (hp : ∀ p ∈ t, FewP p ∧ 0 ≤ p.f1 ∧ p.f1 ≤ 255) (ha : FewA a) :
 ∃ m, (m = true ↔ MayT (t.map pM)) ∧ ∀ (most : Int) (k : Nat), 200 < k → expand_All.f k t a most = some (allP m t a most) := by
 obtain ⟨m, hm, hi⟩ := prog_may t (fun x hx => few_ok (hp x hx).1 (hp x hx).2.1 (hp x hx).2.2) (by omega)
 refine ⟨m, hi, fun most k hk => ?_⟩
 unfold expand_All.f allP
 rw [hm k (by omega)]
 simp only [Option.bind_some]
 split
 · rfl
 · rw [if_pos (by omega), prog_allO (by omega) ha hp (by simp only [List.length_nil]; omega)]
   rfl
theorem text_at (l : List ByteArray) (i : Nat) (h : i < l.length) : ∃ y, rdOf ByteArray.empty l (i : Int) = y ∧ l.drop i = y :: l.drop (i + 1) := by
 refine ⟨l[i], ?_, List.drop_eq_getElem_cons h⟩
 unfold rdOf
 rw [Int.toNat_natCast, List.getD_eq_getElem?_getD, List.getElem?_eq_getElem h]
 rfl
theorem pairD_at (l : List S154) (i : Nat) (h : i < l.length) : ∃ y, rd_T154 l (i : Int) = y ∧ l.drop i = y :: l.drop (i + 1) := by
 refine ⟨l[i], ?_, List.drop_eq_getElem_cons h⟩
 unfold rd_T154
 rw [Int.toNat_natCast, List.getD_eq_getElem?_getD, List.getElem?_eq_getElem h]
 rfl
theorem bind_at (l : List S46) (i : Nat) (h : i < l.length) : ∃ y, rd_T46 l (i : Int) = y ∧ l.drop i = y :: l.drop (i + 1) := by
 refine ⟨l[i], ?_, List.drop_eq_getElem_cons h⟩
 unfold rd_T46
 rw [Int.toNat_natCast, List.getD_eq_getElem?_getD, List.getElem?_eq_getElem h]
 rfl
section
variable (kd : Int) (sv : ByteArray) (l2 : List ByteArray) (l3 : List S154)
theorem few8_end (i : Int) : ∃ b, Ev (fun k => rf08_Few.j3 k i false kd sv l2 l3) b ∧ (b = true → sv.size ≤ 200 ∧ l2.length ≤ 30 ∧ l3.length ≤ 30) := by
 by_cases h1 : sv.size ≤ 200
 · by_cases h2 : l2.length ≤ 30
   · refine ⟨decide ((l3.length : Int) ≤ 30), Ev.step (f := fun _ => some (decide ((l3.length : Int) ≤ 30))) (fun k => ?_) (Ev.now _), fun e => ⟨h1, h2, by have := of_decide_eq_true e; omega⟩⟩
     simp only [rf08_Few.j3]
     rw [if_neg (by simp), if_pos (by omega), if_pos (by omega)]
   · refine ⟨false, Ev.step (f := fun _ => some false) (fun k => ?_) (Ev.now _), fun e => by cases e⟩
     simp only [rf08_Few.j3]
     rw [if_neg (by simp), if_pos (by omega), if_neg (by omega)]
 · refine ⟨false, Ev.step (f := fun _ => some false) (fun k => ?_) (Ev.now _), fun e => by cases e⟩
   simp only [rf08_Few.j3]
   rw [if_neg (by simp), if_neg (by omega)]
theorem few8_l1 : ∀ (d i : Nat), i + d = l3.length → i ≤ 31 → ∃ b, Ev (fun k => rf08_Few.l1 k (i : Int) kd sv l2 l3) b ∧ (b = true → (sv.size ≤ 200 ∧ l2.length ≤ 30 ∧ l3.length ≤ 30) ∧ ∀ p ∈ l3.drop i, p.f0.size ≤ 200 ∧ p.f1.size ≤ 200)
 | 0, i, hi, _ => by
  obtain ⟨b, h1, h2⟩ := few8_end kd sv l2 l3 (i : Int)
  refine ⟨b, Ev.step (f := _) (fun k => ?_) h1, fun e => ⟨h2 e, by rw [List.drop_eq_nil_of_le (by omega)]; exact List.forall_mem_nil _⟩⟩
  simp only [rf08_Few.l1]
  rw [if_neg (by omega)]
 | d + 1, i, hi, h31 => by
  by_cases h : i < 31
  · obtain ⟨y, hy, hd⟩ := pairD_at l3 i (by omega)
    have st : ∀ {b : Bool}, Ev (fun k => rf08_Few.j3 k (i : Int) true kd sv l2 l3) b → Ev (fun k => rf08_Few.l1 k (i : Int) kd sv l2 l3) b := fun h => Ev.step (f := _) (fun k => by simp only [rf08_Few.l1]; rw [if_pos (by omega), decide_eq_true (by omega)]) h
    by_cases c1 : y.f0.size > 200
    · refine ⟨false, st (Ev.step (f := fun _ => some false) (fun k => ?_) (Ev.now _)), fun e => by cases e⟩
      simp only [rf08_Few.j3, if_true, hy]
      rw [if_pos (by omega), if_pos (by omega), if_pos (by omega)]
    · by_cases c2 : y.f1.size > 200
      · refine ⟨false, st (Ev.step (f := fun _ => some false) (fun k => ?_) (Ev.now _)), fun e => by cases e⟩
        simp only [rf08_Few.j3, if_true, hy]
        rw [if_pos (by omega), if_pos (by omega), if_neg (by omega), if_pos (by omega)]
      · obtain ⟨b, h1, h2⟩ := few8_l1 d (i + 1) (by omega) (by omega)
        refine ⟨b, st (Ev.step (f := _) (fun k => ?_) h1), fun e => ?_⟩
        · simp only [rf08_Few.j3, if_true, hy]
          rw [if_pos (by omega), if_pos (by omega), if_neg (by omega), if_neg (by omega), w64 (by omega) (by omega)]
          rfl
        · obtain ⟨g1, g2⟩ := h2 e
          refine ⟨g1, ?_⟩
          rw [hd]
          intro p hp
          rcases List.mem_cons.1 hp with rfl | hp
          · exact ⟨by omega, by omega⟩
          · exact g2 p hp
  · obtain ⟨b, h1, h2⟩ := few8_end kd sv l2 l3 (i : Int)
    refine ⟨b, Ev.step (f := _) (fun k => ?_) h1, fun e => ?_⟩
    · simp only [rf08_Few.l1]
      rw [if_pos (by omega), decide_eq_false (by omega)]
    · have := h2 e
      omega
theorem few8_l0 : ∀ (d i : Nat), i + d = l2.length → i ≤ 31 → ∃ b, Ev (fun k => rf08_Few.l0 k (i : Int) kd sv l2 l3) b ∧ (b = true → ((sv.size ≤ 200 ∧ l2.length ≤ 30 ∧ l3.length ≤ 30) ∧ ∀ p ∈ l3, p.f0.size ≤ 200 ∧ p.f1.size ≤ 200) ∧ ∀ s ∈ l2.drop i, s.size ≤ 200)
 | 0, i, hi, _ => by
  obtain ⟨b, h1, h2⟩ := few8_l1 kd sv l2 l3 l3.length 0 (Nat.zero_add _) (by omega)
  rw [List.drop_zero] at h2
  refine ⟨b, Ev.step (f := fun k => rf08_Few.j1 k (i : Int) false kd sv l2 l3) (fun k => ?_) (Ev.step (f := _) (fun k => ?_) h1), fun e => ⟨h2 e, by rw [List.drop_eq_nil_of_le (by omega)]; exact List.forall_mem_nil _⟩⟩
  · simp only [rf08_Few.l0]
    rw [if_neg (by omega)]
  · simp only [rf08_Few.j1]
    rw [if_neg (by simp)]
    rfl
 | d + 1, i, hi, h31 => by
  by_cases h : i < 31
  · obtain ⟨y, hy, hd⟩ := text_at l2 i (by omega)
    have st : ∀ {b : Bool}, Ev (fun k => rf08_Few.j1 k (i : Int) true kd sv l2 l3) b → Ev (fun k => rf08_Few.l0 k (i : Int) kd sv l2 l3) b := fun h => Ev.step (f := _) (fun k => by simp only [rf08_Few.l0]; rw [if_pos (by omega), decide_eq_true (by omega)]) h
    by_cases c1 : y.size > 200
    · refine ⟨false, st (Ev.step (f := fun _ => some false) (fun k => ?_) (Ev.now _)), fun e => by cases e⟩
      simp only [rf08_Few.j1, if_true, hy]
      rw [if_pos (by omega), if_pos (by omega), if_pos (by omega)]
    · obtain ⟨b, h1, h2⟩ := few8_l0 d (i + 1) (by omega) (by omega)
      refine ⟨b, st (Ev.step (f := _) (fun k => ?_) h1), fun e => ?_⟩
      · simp only [rf08_Few.j1, if_true, hy]
        rw [if_pos (by omega), if_pos (by omega), if_neg (by omega), w64 (by omega) (by omega)]
        rfl
      · obtain ⟨g1, g2⟩ := h2 e
        refine ⟨g1, ?_⟩
        rw [hd]
        intro p hp
        rcases List.mem_cons.1 hp with rfl | hp
        · omega
        · exact g2 p hp
  · obtain ⟨b, h1, h2⟩ := few8_l1 kd sv l2 l3 l3.length 0 (Nat.zero_add _) (by omega)
    refine ⟨b, Ev.step (f := fun k => rf08_Few.j1 k (i : Int) false kd sv l2 l3) (fun k => ?_) (Ev.step (f := _) (fun k => ?_) h1), fun e => ?_⟩
    · simp only [rf08_Few.l0]
      rw [if_pos (by omega), decide_eq_false (by omega)]
    · simp only [rf08_Few.j1]
      rw [if_neg (by simp)]
      rfl
    · have := (h2 e).1
      omega
end
theorem ref_few8 (v : S44) : ∃ b, Ev (fun k => rf08_Few.f k v.f0 v.f1 v.f2 v.f3) b ∧ (b = true → FewV v) := by
 obtain ⟨b, h1, h2⟩ := few8_l0 v.f0 v.f1 v.f2 v.f3 v.f2.length 0 (Nat.zero_add _) (by omega)
 refine ⟨b, h1, fun e => ?_⟩
 obtain ⟨⟨⟨g1, g2, g3⟩, g4⟩, g5⟩ := h2 e
 exact ⟨g1, g2, g3, g5, g4⟩
theorem few9_l0 (l : List S46) : ∀ (d i : Nat), i + d = l.length → i ≤ 21 → ∃ b, Ev (fun k => rf09_Few.l0 k l (i : Int)) b ∧ (b = true → l.length ≤ 20 ∧ ∀ x ∈ l.drop i, x.f0.size ≤ 200 ∧ FewV x.f1)
 | 0, i, hi, _ => by
  refine ⟨decide ((l.length : Int) ≤ 20), Ev.step (f := fun k => rf09_Few.j1 k l (i : Int) false) (fun k => ?_) (Ev.step (f := fun _ => some (decide ((l.length : Int) ≤ 20))) (fun k => ?_) (Ev.now _)), fun e => ⟨by have := of_decide_eq_true e; omega, by rw [List.drop_eq_nil_of_le (by omega)]; exact List.forall_mem_nil _⟩⟩
  · simp only [rf09_Few.l0]
    rw [if_neg (by omega)]
  · simp only [rf09_Few.j1]
    rw [if_neg (by simp)]
 | d + 1, i, hi, h31 => by
  by_cases h : i < 21
  · obtain ⟨y, hy, hd⟩ := bind_at l i (by omega)
    have st : ∀ {b : Bool}, Ev (fun k => rf09_Few.j1 k l (i : Int) true) b → Ev (fun k => rf09_Few.l0 k l (i : Int)) b := fun h => Ev.step (f := _) (fun k => by simp only [rf09_Few.l0]; rw [if_pos (by omega), decide_eq_true (by omega)]) h
    by_cases c1 : y.f0.size > 200
    · refine ⟨false, st (Ev.step (f := fun _ => some false) (fun k => ?_) (Ev.now _)), fun e => by cases e⟩
      simp only [rf09_Few.j1, if_true, hy]
      rw [if_pos (by omega), if_pos (by omega), if_pos (by omega)]
    · obtain ⟨v, hv1, hv2⟩ := ref_few8 y.f1
      obtain ⟨b, h1, h2⟩ := few9_l0 l d (i + 1) (by omega) (by omega)
      have go : ∀ {r : Bool}, Ev (fun k => if v = true then rf09_Few.l0 k l ((i + 1 : Nat) : Int) else some false) r → Ev (fun k => rf09_Few.j1 k l (i : Int) true) r := fun h3 => Ev.step (f := fun k => (rf08_Few.f k y.f1.f0 y.f1.f1 y.f1.f2 y.f1.f3).bind fun t => if t = true then rf09_Few.l0 k l ((i + 1 : Nat) : Int) else some false) (fun k => by
       simp only [rf09_Few.j1, if_true, hy]
       rw [if_pos (by omega), if_pos (by omega), if_neg (by omega), w64 (by omega) (by omega)]
       rfl) (hv1.bind h3)
      cases v with
      | false => exact ⟨false, st (go (Ev.congr (f := fun _ => some false) (fun k => by simp) (Ev.now _))), fun e => by cases e⟩
      | true =>
       refine ⟨b, st (go (Ev.congr (f := _) (fun k => by rw [if_pos rfl]) h1)), fun e => ?_⟩
       obtain ⟨g1, g2⟩ := h2 e
       refine ⟨g1, ?_⟩
       rw [hd]
       intro p hp
       rcases List.mem_cons.1 hp with rfl | hp
       · exact ⟨by omega, hv2 rfl⟩
       · exact g2 p hp
  · refine ⟨false, Ev.step (f := fun k => rf09_Few.j1 k l (i : Int) false) (fun k => ?_) (Ev.step (f := fun _ => some false) (fun k => ?_) (Ev.now _)), fun e => by cases e⟩
    · simp only [rf09_Few.l0]
      rw [if_pos (by omega), decide_eq_false (by omega)]
    · simp only [rf09_Few.j1]
      rw [if_neg (by simp), decide_eq_false (by omega)]
theorem ref_few9 (l : List S46) : ∃ b, Ev (fun k => rf09_Few.f k l) b ∧ (b = true → FewA l) := by
 obtain ⟨b, h1, h2⟩ := few9_l0 l l.length 0 (Nat.zero_add _) (by omega)
 refine ⟨b, h1, fun e => ?_⟩
 obtain ⟨g1, g2⟩ := h2 e
 exact ⟨g1, by rw [List.drop_zero] at g2; exact g2⟩
end Go.Proofs.YtlocbpaikdgmbaaGreatDoor.P
end
section
namespace Go.Proofs.YtlocbpaikdgmbaaGreatDoor.P
open Go Go.RowKit Go.Proofs.YtlocbpaikdgmbaaGreatDoorW.PrintWords Go.Proofs.YtlocbpaikdgmbaaGreatDoorW.PrintLast Go.Proofs.YtlocbpaikdgmbaaGreatDoorW.PrintMore
set_option linter.unusedVariables false
set_option linter.unusedSimpArgs false
def awakeT : List S31 := [⟨⟨#[120]⟩, 0, []⟩, ⟨⟨#[]⟩, 63, [⟨⟨#[97]⟩, 0, false⟩, ⟨⟨#[98]⟩, 0, false⟩]⟩]
def awakeA : List S46 := [⟨⟨#[97]⟩, ⟨1, ⟨#[49]⟩, [], []⟩⟩]
theorem awake_parse : tmpl_Parse.f 60 ⟨#[120, 123, 63, 97, 44, 98, 125]⟩ = some (awakeT, 7, 0) := by kernel_rfl
theorem awake_all1 : expand_All.f 60 awakeT awakeA 100 = some (⟨#[120, 63, 97, 61, 49]⟩, 0) := by kernel_rfl
theorem awake_all2 : expand_All.f 60 awakeT [] 100 = some (⟨#[120]⟩, 0) := by kernel_rfl
theorem awake_all3 : expand_All.f 60 awakeT awakeA 4 = some (⟨#[]⟩, 5) := by kernel_rfl
set_option maxHeartbeats 2000000 in
set_option maxRecDepth 100000 in
theorem awake12 (w : World) (hG : Gl w) : Calls Tryz.prog 16 #[] w fun e w' => e = .returned (.bool true) ∧ Below w.heap.size w w' := by
 go_enter Tryz.func16, Tryz.ntmps16
 go_wp2_with (go_at_call 47; refine (tmpl_Parse.calls 60 _ _ _ _ _ hG awake_parse).mono ?_; rintro e w1 ⟨v0, rfl, hS, hb1⟩; obtain ⟨A, c, rfl, hlc, hC⟩ := Kd.S_reads hS; have HC := Lib.hid hC; have HL := Lib.hid hlc; have HB := Lib.hid hb1; have HCA := Lib.hid (C_lit1 k46 w1 46 (k46_mk w1 ⟨⟨#[97]⟩, ⟨1, ⟨#[49]⟩, [], []⟩⟩ (A3 := none) (c3 := 0) (A4 := none) (c4 := 0) (Nat.le_refl _) ⟨rfl, by simp, fun h => absurd h (Nat.lt_irrefl 0)⟩ (Nat.le_refl _) ⟨rfl, by simp, fun h => absurd h (Nat.lt_irrefl 0)⟩)); have HBA := Lib.hid ((Below.refl w1.heap.size w1).alloc (Nat.le_refl _) (.cells #[.string ⟨#[97]⟩, .int .i64 1, .string ⟨#[49]⟩, .slice none 0 0, .slice none 0 0] 46)); clear hC hlc hb1 hS)
 refine (expand_All.calls 60 A c awakeT (some ⟨w1.heap.size, 0, none⟩) 1 awakeA 100 _ _ _ (Kd.C_below HC.out HBA.out) HL.out HCA.out (Nat.le_refl _) awake_all1).mono ?_
 rintro e w2 ⟨rfl, hb2⟩
 have HB2 := Lib.hid hb2
 clear hb2
 go_wp2_with fail
 refine (expand_All.calls 60 A c awakeT none 0 [] 100 _ _ _ (Kd.C_below (Kd.C_below HC.out HBA.out) HB2.out) HL.out ⟨rfl, by simp, fun h => absurd h (Nat.lt_irrefl 0)⟩ (Nat.le_refl _) awake_all2).mono ?_
 rintro e w3 ⟨rfl, hb3⟩
 have HB3 := Lib.hid hb3
 clear hb3
 go_wp2_with fail
 refine (expand_All.calls 60 A c awakeT (some ⟨w1.heap.size, 0, none⟩) 1 awakeA 4 _ _ _ (Kd.C_below (Kd.C_below (Kd.C_below HC.out HBA.out) HB2.out) HB3.out) HL.out (Kd.C_below (Kd.C_below HCA.out HB2.out) HB3.out) (Nat.le_refl _) awake_all3).mono ?_
 rintro e w4 ⟨rfl, hb4⟩
 have HB4 := Lib.hid hb4
 clear hb4
 go_wp2
 go_ret
 exact ⟨rfl, below_step (below_step (below_step (below_step HB.out HBA.out) HB2.out) HB3.out) HB4.out⟩
def phalaropelaw12_awake.f : Option Bool := some true
theorem phalaropelaw12_awake.calls (r : Bool) (w : World) (hG : Gl w) (h : phalaropelaw12_awake.f = some r) : Calls Tryz.prog 16 #[] w fun e w' => e = .returned (.bool r) ∧ Below w.heap.size w w' := by
 injection h with h
 subst h
 exact awake12 w hG
end Go.Proofs.YtlocbpaikdgmbaaGreatDoor.P
end
section
namespace Go.Proofs.YtlocbpaikdgmbaaGreatDoor.P
open Go.RowKit Go.Proofs.YtlocbpaikdgmbaaGreatDoorW.PrintWords Go.Proofs.YtlocbpaikdgmbaaGreatDoorW.PrintLast Go.Proofs.YtlocbpaikdgmbaaGreatDoorW.PrintMore
set_option linter.unusedVariables false
set_option linter.unusedSimpArgs false
theorem expand_awake : Ev (fun k => phalaropelaw12_awake.f) true := Ev.now true
theorem expand_few (t : List S31) (a : List S46) : ∃ b, Ev (fun k => phalaropelaw12_few.f k t a) b ∧ (b = true → (t.length ≤ 30 ∧ ∀ x ∈ t, FewP x) ∧ FewA a) := by
 obtain ⟨b1, h1, g1⟩ := ref_few t
 obtain ⟨b2, h2, g2⟩ := ref_few9 a
 cases b1 with
 | false => exact ⟨false, h1.bind (Ev.congr (f := fun _ => some false) (fun k => by simp) (Ev.now _)), fun e => by cases e⟩
 | true => exact ⟨b2, h1.bind (Ev.congr (f := _) (fun k => by rw [if_pos rfl]) (h2.bind (Ev.now _))), fun e => ⟨g1 rfl, g2 e⟩⟩
theorem ev_from {α : Type} {g : Nat → Option α} {r : α} (K : Nat) (h : ∀ k, K < k → g k = some r) : Ev g r := ⟨K + 1, fun k hk => h k (by omega)⟩
theorem expand_all {t : List S31} {a : List S46} (ht : t.length ≤ 100 ∧ ∀ x ∈ t, FewP x) (hq : Q_s_api_Part t) (ha : FewA a) :
 ∃ m, (m = true ↔ MayT (t.map pM)) ∧ (∀ most, Ev (fun k => expand_All.f k t a most) (allP m t a most)) ∧ (allR a t []).1.length ≤ 100000000 := by
 obtain ⟨m, hm, h⟩ := prog_all ht.1 (fun p hp => ⟨ht.2 p hp, (hq p hp).2.1.1, (hq p hp).2.1.2⟩) ha
 refine ⟨m, hm, fun most => ev_from 200 (fun k hk => h most k hk), ?_⟩
 have := allR_length ha (acc := []) ht.2
 simp only [List.length_nil] at this
 omega
theorem ref_unres {b : Nat} (h : b < 256) : Ev (fun k => rf02_Unreserved.f k (b : Int)) (isUnres b) := by
 have : ∀ b : Fin 256, rf02_Unreserved.f 40 ((b.1 : Nat) : Int) = some (isUnres b.1) := by decide +kernel
 exact Ev.of (fun k => rf02_Unreserved.mono _ k) (this ⟨b, h⟩)
theorem ref_resv {b : Nat} (h : b < 256) : Ev (fun k => rf02_Reserved.f k (b : Int)) (isResv b) := by
 have : ∀ b : Fin 256, rf02_Reserved.f 40 ((b.1 : Nat) : Int) = some (isResv b.1) := by decide +kernel
 exact Ev.of (fun k => rf02_Reserved.mono _ k) (this ⟨b, h⟩)
def oneE (b : Nat) : List Nat := (oneB (b : Int)).data.toList.map (·.toNat)
def stayNs (keep : Bool) (b : Nat) (r : List Nat) : Bool := (isUnres b || (keep && isResv b)) || (keep && trip (b :: r))
def encNs (keep : Bool) : List Nat → List Nat
 | [] => []
 | b :: r => (if stayNs keep b r = true then [b] else oneE b) ++ encNs keep r
theorem stayB_eq (keep : Bool) (b : Nat) : stayB keep b = (isUnres b || (keep && isResv b)) := by
 unfold stayB
 cases keep <;> simp [anyOf]
theorem bt_byte (s : ByteArray) (i : Nat) (h : i < s.size) : ∃ b : Nat, b < 256 ∧ bt s (i : Int) = (b : Int) ∧ (bs s).drop i = b :: (bs s).drop (i + 1) := bs_get s i h
theorem enc_bs_from (keep : Bool) (s : ByteArray) : ∀ (d i : Nat), i + d = s.size → (encFrom keep s d i).map (·.toNat) = encNs keep ((bs s).drop i)
 | 0, i, h => by
  rw [List.drop_eq_nil_of_le (by rw [bs_length]; omega)]
  rfl
 | d + 1, i, h => by
  obtain ⟨b, hb, he, hd⟩ := bt_byte s i (by omega)
  unfold encFrom
  rw [List.map_append, enc_bs_from keep s d (i + 1) (by omega), hd, show encNs keep (b :: (bs s).drop (i + 1)) = (if stayNs keep b ((bs s).drop (i + 1)) = true then [b] else oneE b) ++ encNs keep ((bs s).drop (i + 1)) from rfl]
  congr 1
  have hst : staysAt keep s i = stayNs keep b ((bs s).drop (i + 1)) := by
   unfold staysAt stayNs
   rw [he, Int.toNat_natCast, stayB_eq, isTriplet_bs, bs_from, hd]
  unfold encAt
  rw [hst, he]
  split
  · simp only [List.map_cons, List.map_nil, Int.toNat_natCast]
    congr 1
    show (b.toUInt8).toNat = b
    simp [Nat.toUInt8, UInt8.ofNat, UInt8.toNat]
    omega
  · rfl
theorem enc_bs (keep : Bool) (s : ByteArray) : bs (encB keep s) = encNs keep (bs s) := by
 have := enc_bs_from keep s s.size 0 (by omega)
 rw [List.drop_zero] at this
 rw [← this]
 rfl
theorem unres_hex {b : Nat} (h : b < 256) (hx : isHex b = true) : isUnres b = true := by
 have : ∀ b : Fin 256, isHex b.1 = true → isUnres b.1 = true := by decide +kernel
 exact this ⟨b, h⟩ hx
theorem trip_cases {l : List Nat} (h : trip l = true) : ∃ c d r, l = 37 :: c :: d :: r ∧ isHex c = true ∧ isHex d = true := by
 match l, h with
 | a :: c :: d :: r, h =>
  unfold trip at h
  simp only [Bool.and_eq_true, beq_iff_eq] at h
  obtain ⟨h1, h2, h3⟩ := h
  exact ⟨c, d, r, by rw [h1], h2, h3⟩
theorem encN_trip {c d : Nat} {r : List Nat} (hc : c < 256) (hd : d < 256) (h : trip (37 :: c :: d :: r) = true) (h1 : isHex c = true) (h2 : isHex d = true) : encNs true (37 :: c :: d :: r) = 37 :: c :: d :: encNs true r := by
 have s0 : stayNs true 37 (c :: d :: r) = true := by unfold stayNs; rw [h]; simp
 have s1 : stayNs true c (d :: r) = true := by unfold stayNs; rw [unres_hex hc h1]; rfl
 have s2 : stayNs true d r = true := by unfold stayNs; rw [unres_hex hd h2]; rfl
 simp only [encNs, s0, s1, s2, if_true, List.cons_append, List.nil_append]
def gv (v : S55) : Bool := nameFrom .ns (bs v.f0) && (decide (0 ≤ v.f1) && (decide (v.f1 ≤ 9999) && (!v.f2 || v.f1 == 0)))
theorem gv_iff (v : S55) : gv v = true ↔ GoodV (vM v) := by
 unfold gv GoodV vM
 simp only [Bool.and_eq_true, nameFrom_iff, decide_eq_true_eq, Bool.or_eq_true, Bool.not_eq_true', beq_iff_eq]
 constructor
 · rintro ⟨a, b, c, d⟩
   refine ⟨a, b, c, fun e => ?_⟩
   rcases d with d | d
   · rw [d] at e
     cases e
   · exact d
 · rintro ⟨a, b, c, d⟩
   refine ⟨a, b, c, ?_⟩
   cases h : v.f2 with
   | false => exact .inl rfl
   | true => exact .inr (d h)
end Go.Proofs.YtlocbpaikdgmbaaGreatDoor.P
end
section
namespace Go.Proofs.YtlocbpaikdgmbaaGreatDoor.P
open Go.RowKit Go.Proofs.YtlocbpaikdgmbaaGreatDoorW.PrintWords Go.Proofs.YtlocbpaikdgmbaaGreatDoorW.PrintLast Go.Proofs.YtlocbpaikdgmbaaGreatDoorW.PrintMore
attribute [local go_sem] max2_int min2_int max_two min_two max_three min_three max_four min_four
set_option linter.unusedVariables false
set_option linter.unusedSimpArgs false
def phalaropelaw12_ExpandURI.l0 : Nat → Bool → ByteArray → Int → Option (Bool)
 | 0, _, _, _ => none
 | k + 1, x5, x6, x8 => if x8 < (x6.size : Int) then (if 0 ≤ x8 then ((rf02_Unreserved.f k (bt x6 x8)).bind fun t368 => (if t368 = true then (phalaropelaw12_ExpandURI.l0 k x5 x6 (wrap64 (x8 + 1))) else ((rf02_Reserved.f k (bt x6 x8)).bind fun t369 => (if t369 = true then (phalaropelaw12_ExpandURI.l0 k x5 x6 (wrap64 (x8 + 1))) else (if x8 ≤ (x6.size : Int) then ((rf03_Triplet.f (x6.extract (x8 : Int).toNat x6.size)).bind fun t370 => (if t370 = true then (phalaropelaw12_ExpandURI.l0 k x5 x6 (wrap64 (x8 + 1))) else (some false))) else (none)))))) else (none)) else (some x5)
def phalaropelaw12_ExpandURI.f (k : Nat) (l0 : List (S31)) (l1 : List (S46)) : Option (Bool) := (phalaropelaw12_awake.f).bind fun t364 => ((phalaropelaw12_few.f k l0 l1).bind fun t365 => (if t365 = true then ((expand_All.f k l0 l1 1099511627776).bind fun bt366 => (phalaropelaw12_ExpandURI.l0 k t364 bt366.1 0)) else (some t364)))
set_option maxHeartbeats 8000000 in
set_option maxRecDepth 100000 in
theorem phalaropelaw12_ExpandURI.calls (k : Nat) (A0 : Option Addr) (c0 : Nat) (l0 : List (S31)) (A1 : Option Addr) (c1 : Nat) (l1 : List (S46)) (r : Bool) (w : World) (hG : Gl w) (hr0 : Kd.C k31 w A0 l0.length l0) (hc0 : l0.length ≤ c0) (hr1 : Kd.C k46 w A1 l1.length l1) (hc1 : l1.length ≤ c1) (h : phalaropelaw12_ExpandURI.f k l0 l1 = some r) :
 Calls Tryz.prog 4 #[.slice A0 l0.length c0, .slice A1 l1.length c1] w fun e w' => e = .returned (.bool r) ∧ Below w.heap.size w w' := by
 have HR0 := Aside0.mk hr0
 have HC0 := Aside0.mk hc0
 clear hr0 hc0
 have HR1 := Aside0.mk hr1
 have HC1 := Aside0.mk hc1
 clear hr1 hc1
 have HB := Aside0.mk (Below.refl w.heap.size w)
 have H : ((phalaropelaw12_awake.f).bind fun t364 => ((phalaropelaw12_few.f k l0 l1).bind fun t365 => (if t365 = true then ((expand_All.f k l0 l1 1099511627776).bind fun bt366 => (phalaropelaw12_ExpandURI.l0 k t364 bt366.1 0)) else (some t364)))) = some r := h
 clear h
 replace H := Option.bind_eq_some_iff.mp H
 obtain ⟨t364, A30, H⟩ := H
 replace H : ((phalaropelaw12_few.f k l0 l1).bind fun t365 => (if t365 = true then ((expand_All.f k l0 l1 1099511627776).bind fun bt366 => (phalaropelaw12_ExpandURI.l0 k t364 bt366.1 0)) else (some t364))) = some r := H
 have A3 := Aside0.mk A30
 clear A30
 replace H := Option.bind_eq_some_iff.mp H
 obtain ⟨t365, A40, H⟩ := H
 replace H : (if t365 = true then ((expand_All.f k l0 l1 1099511627776).bind fun bt366 => (phalaropelaw12_ExpandURI.l0 k t364 bt366.1 0)) else (some t364)) = some r := H
 have A4 := Aside0.mk A40
 clear A40
 by_cases c5 : t365 = true
 · subst c5
   have H1 : ((expand_All.f k l0 l1 1099511627776).bind fun bt366 => (phalaropelaw12_ExpandURI.l0 k t364 bt366.1 0)) = some r := by rw [if_pos rfl] at H; exact H
   clear H
   have H := H1
   clear H1
   replace H := Option.bind_eq_some_iff.mp H
   obtain ⟨⟨t366, t367⟩, A60, H⟩ := H
   replace H : (phalaropelaw12_ExpandURI.l0 k t364 t366 0) = some r := H
   have A6 := Aside0.mk A60
   clear A60
   have H' := Aside0.mk H
   clear H
   go_enter Tryz.func4, Tryz.ntmps4
   go_wp2_with (first | ((with_reducible refine gate_callee (f := 16) rfl ?_); refine goesL_ (some 9) rfl rfl Tryz.func16 (by kernel_rfl) rfl #[] rfl (by (try simp only [List.map_toArray, List.map_cons, List.map_nil]); first | done | rfl | (simp only [List.length_drop, List.length_take]; rfl)) ?_; (with_reducible refine (phalaropelaw12_awake.calls  t364 _ (hG.keepAt (Nat.le_refl _) (by repeat (first | (with_reducible first | exact HB.out | apply below_alloc | apply pw_below_drewN | apply below_drew1) | exact HB.out))) A3.out).mono ?_); rintro e w7 ⟨rfl, hb⟩; refine ⟨_, rfl, ?_⟩; have n0_ := Aside0.mk (below_step (by repeat (first | (with_reducible first | exact HB.out | apply below_alloc | apply pw_below_drewN | apply below_drew1) | exact HB.out)) hb); clear HB; have HB := n0_; clear n0_; (try clear hb); (try clear hb2); (try clear hk); (try clear hi)) | ((with_reducible refine gate_callee (f := 17) rfl ?_); refine goesL_ (some 12) rfl rfl Tryz.func17 (by kernel_rfl) rfl #[.slice A0 l0.length c0, .slice A1 l1.length c1] rfl (by (try simp only [List.map_toArray, List.map_cons, List.map_nil]); first | done | rfl | (simp only [List.length_drop, List.length_take]; rfl)) ?_; (with_reducible refine (phalaropelaw12_few.calls k _ _ l0 _ _ l1 true _ ?side1 ?side2 ?side3 ?side4 A4.out).mono ?_); (case side1 => repeat (first | exact (Kd.C_below HR0.out HB.out) | (with_reducible refine Kd.C_alloc ?_ _) | (with_reducible refine Kd.C_drewN ?_ _) | (with_reducible refine Kd.C_drew ?_))); (case side2 => exact HC0.out); (case side3 => repeat (first | exact (Kd.C_below HR1.out HB.out) | (with_reducible refine Kd.C_alloc ?_ _) | (with_reducible refine Kd.C_drewN ?_ _) | (with_reducible refine Kd.C_drew ?_))); (case side4 => exact HC1.out); rintro e w8 ⟨rfl, hb⟩; refine ⟨_, rfl, ?_⟩; have n0_ := Aside0.mk (below_step (by repeat (first | (with_reducible first | exact HB.out | apply below_alloc | apply pw_below_drewN | apply below_drew1) | exact HB.out)) hb); clear HB; have HB := n0_; clear n0_; (try clear hb); (try clear hb2); (try clear hk); (try clear hi)) | ((with_reducible refine gate_callee (f := 22) rfl ?_); refine goesL_ (some 18) rfl rfl Tryz.func22 (by kernel_rfl) rfl #[.slice A0 l0.length c0, .slice A1 l1.length c1, .int .i64 1099511627776] rfl (by (try simp only [List.map_toArray, List.map_cons, List.map_nil]); first | done | rfl | (simp only [List.length_drop, List.length_take]; rfl)) ?_; (with_reducible refine (expand_All.calls k _ _ l0 _ _ l1 1099511627776 t366 t367 _ ?side1 ?side2 ?side3 ?side4 A6.out).mono ?_); (case side1 => repeat (first | exact (Kd.C_below HR0.out HB.out) | (with_reducible refine Kd.C_alloc ?_ _) | (with_reducible refine Kd.C_drewN ?_ _) | (with_reducible refine Kd.C_drew ?_))); (case side2 => exact HC0.out); (case side3 => repeat (first | exact (Kd.C_below HR1.out HB.out) | (with_reducible refine Kd.C_alloc ?_ _) | (with_reducible refine Kd.C_drewN ?_ _) | (with_reducible refine Kd.C_drew ?_))); (case side4 => exact HC1.out); rintro e w9 ⟨rfl, hb⟩; refine ⟨_, rfl, ?_⟩; have n0_ := Aside0.mk (below_step (by repeat (first | (with_reducible first | exact HB.out | apply below_alloc | apply pw_below_drewN | apply below_drew1) | exact HB.out)) hb); clear HB; have HB := n0_; clear n0_; (try clear hb); (try clear hb2); (try clear hk); (try clear hi)))
   go_loopg [8] k (fun kq v8 w' => ∃ (x8_1 : Int), v8 = .int .i64 x8_1 ∧ Aside0 (phalaropelaw12_ExpandURI.l0 kq t364 t366 x8_1 = some r) ∧ Aside0 (kq ≤ k) ∧ Aside0 (Below w.heap.size w w'))
   case atStart => exact ⟨(0), (by first | rfl | (simp; done) | (simp [*]; done)), H', ⟨Nat.le_refl _⟩, ⟨by repeat (first | (with_reducible first | exact HB.out | apply below_alloc | apply pw_below_drewN | apply below_drew1) | exact HB.out)⟩⟩
   case round =>
    clear H'
    try clear c1
    try clear c2
    try clear p2
    try clear c4
    try clear c5
    obtain ⟨x8_1, rfl, HA, HK1, HB⟩ := hrel
    cases gk with
    | zero => exact absurd HA.out (by simp [phalaropelaw12_ExpandURI.l0])
    | succ k1 =>
     have H := HA.out
     clear HA
     simp only [phalaropelaw12_ExpandURI.l0] at H
     by_cases c10 : x8_1 < (t366.size : Int)
     · rw [if_pos c10] at H
       have c10b0 : decide (x8_1 < (t366.size : Int)) = true := decide_eq_true c10
       clear c10
       by_cases c11 : 0 ≤ x8_1
       · rw [if_pos c11] at H
         have c11b0 : decide (0 ≤ x8_1) = true := decide_eq_true c11
         clear c11
         replace H := Option.bind_eq_some_iff.mp H
         obtain ⟨t368, A130, H⟩ := H
         replace H : (if t368 = true then (phalaropelaw12_ExpandURI.l0 k1 t364 t366 (wrap64 (x8_1 + 1))) else ((rf02_Reserved.f k1 (bt t366 x8_1)).bind fun t369 => (if t369 = true then (phalaropelaw12_ExpandURI.l0 k1 t364 t366 (wrap64 (x8_1 + 1))) else (if x8_1 ≤ (t366.size : Int) then ((rf03_Triplet.f (t366.extract (x8_1 : Int).toNat t366.size)).bind fun t370 => (if t370 = true then (phalaropelaw12_ExpandURI.l0 k1 t364 t366 (wrap64 (x8_1 + 1))) else (some false))) else (none))))) = some r := H
         have A13 := Aside0.mk A130
         clear A130
         by_cases c14 : t368 = true
         · subst c14
           have H1 : (phalaropelaw12_ExpandURI.l0 k1 t364 t366 (wrap64 (x8_1 + 1))) = some r := by rw [if_pos rfl] at H; exact H
           clear H
           have H := H1
           clear H1
           have H' := Aside0.mk H
           clear H
           have p12 : 0 ≤ (x8_1 : Int) := of_decide_eq_true (by first | (with_reducible assumption) | assumption)
           have q12 : x8_1 < (t366.size : Int) := of_decide_eq_true (by first | (with_reducible assumption) | assumption)
           have hx12 := bt_at t366 x8_1
           replace p12 := eq_true p12
           replace q12 := eq_true q12
           go_wp2_with (first | ((with_reducible refine gate_callee (f := 24) rfl ?_); refine goesL_ (some 30) rfl rfl Tryz.func24 (by kernel_rfl) rfl #[.int .u8 (bt t366 x8_1)] rfl (by (try simp only [List.map_toArray, List.map_cons, List.map_nil]); first | done | rfl | (simp only [List.length_drop, List.length_take]; rfl)) ?_; (with_reducible refine (rf02_Unreserved.calls k1 (bt t366 x8_1) true _ A13.out).mono ?_); rintro e w' ⟨rfl, ⟨nd, rfl⟩⟩; refine ⟨_, rfl, ?_⟩))
           go_roundg k1
           case measure => have := HK1.out; omega
           case rel => exact ⟨(wrap64 (x8_1 + 1)), (by first | rfl | (simp; done) | (simp [*]; done)), H', ⟨by have := HK1.out; omega⟩, ⟨by repeat (first | (with_reducible first | exact HB.out | apply below_alloc | apply pw_below_drewN | apply below_drew1) | exact HB.out)⟩⟩
         · replace c14 := Bool.eq_false_iff.mpr c14
           subst c14
           have H1 : ((rf02_Reserved.f k1 (bt t366 x8_1)).bind fun t369 => (if t369 = true then (phalaropelaw12_ExpandURI.l0 k1 t364 t366 (wrap64 (x8_1 + 1))) else (if x8_1 ≤ (t366.size : Int) then ((rf03_Triplet.f (t366.extract (x8_1 : Int).toNat t366.size)).bind fun t370 => (if t370 = true then (phalaropelaw12_ExpandURI.l0 k1 t364 t366 (wrap64 (x8_1 + 1))) else (some false))) else (none)))) = some r := by rw [if_neg (show ¬ (false = true) by decide)] at H; exact H
           clear H
           have H := H1
           clear H1
           replace H := Option.bind_eq_some_iff.mp H
           obtain ⟨t369, A160, H⟩ := H
           replace H : (if t369 = true then (phalaropelaw12_ExpandURI.l0 k1 t364 t366 (wrap64 (x8_1 + 1))) else (if x8_1 ≤ (t366.size : Int) then ((rf03_Triplet.f (t366.extract (x8_1 : Int).toNat t366.size)).bind fun t370 => (if t370 = true then (phalaropelaw12_ExpandURI.l0 k1 t364 t366 (wrap64 (x8_1 + 1))) else (some false))) else (none))) = some r := H
           have A16 := Aside0.mk A160
           clear A160
           by_cases c17 : t369 = true
           · subst c17
             have H1 : (phalaropelaw12_ExpandURI.l0 k1 t364 t366 (wrap64 (x8_1 + 1))) = some r := by rw [if_pos rfl] at H; exact H
             clear H
             have H := H1
             clear H1
             have H' := Aside0.mk H
             clear H
             have p12 : 0 ≤ (x8_1 : Int) := of_decide_eq_true (by first | (with_reducible assumption) | assumption)
             have q12 : x8_1 < (t366.size : Int) := of_decide_eq_true (by first | (with_reducible assumption) | assumption)
             have hx12 := bt_at t366 x8_1
             replace p12 := eq_true p12
             replace q12 := eq_true q12
             go_wp2_with (first | ((with_reducible refine gate_callee (f := 24) rfl ?_); refine goesL_ (some 30) rfl rfl Tryz.func24 (by kernel_rfl) rfl #[.int .u8 (bt t366 x8_1)] rfl (by (try simp only [List.map_toArray, List.map_cons, List.map_nil]); first | done | rfl | (simp only [List.length_drop, List.length_take]; rfl)) ?_; (with_reducible refine (rf02_Unreserved.calls k1 (bt t366 x8_1) false _ A13.out).mono ?_); rintro e w' ⟨rfl, ⟨nd, rfl⟩⟩; refine ⟨_, rfl, ?_⟩; have p15 : 0 ≤ (x8_1 : Int) := of_decide_eq_true (by first | (with_reducible assumption) | assumption); have q15 : x8_1 < (t366.size : Int) := of_decide_eq_true (by first | (with_reducible assumption) | assumption); have hx15 := bt_at t366 x8_1; replace p15 := eq_true p15; replace q15 := eq_true q15) | (go_at_call 25; (with_reducible refine (rf02_Reserved.calls k1 (bt t366 x8_1) true _ A16.out).mono ?_); rintro e w' ⟨rfl, ⟨nd, rfl⟩⟩))
             go_roundg k1
             case measure => have := HK1.out; omega
             case rel => exact ⟨(wrap64 (x8_1 + 1)), (by first | rfl | (simp; done) | (simp [*]; done)), H', ⟨by have := HK1.out; omega⟩, ⟨by repeat (first | (with_reducible first | exact HB.out | apply below_alloc | apply pw_below_drewN | apply below_drew1) | exact HB.out)⟩⟩
           · replace c17 := Bool.eq_false_iff.mpr c17
             subst c17
             have H1 : (if x8_1 ≤ (t366.size : Int) then ((rf03_Triplet.f (t366.extract (x8_1 : Int).toNat t366.size)).bind fun t370 => (if t370 = true then (phalaropelaw12_ExpandURI.l0 k1 t364 t366 (wrap64 (x8_1 + 1))) else (some false))) else (none)) = some r := by rw [if_neg (show ¬ (false = true) by decide)] at H; exact H
             clear H
             have H := H1
             clear H1
             have c18b0 := eq_true (of_decide_eq_true (by first | (with_reducible assumption) | assumption) : 0 ≤ x8_1)
             by_cases c19 : x8_1 ≤ (t366.size : Int)
             · rw [if_pos c19] at H
               have c19b0 := eq_true c19
               have c19b1 : decide (x8_1 ≤ (t366.size : Int)) = true := decide_eq_true c19
               clear c19
               replace H := Option.bind_eq_some_iff.mp H
               obtain ⟨t370, A200, H⟩ := H
               replace H : (if t370 = true then (phalaropelaw12_ExpandURI.l0 k1 t364 t366 (wrap64 (x8_1 + 1))) else (some false)) = some r := H
               have A20 := Aside0.mk A200
               clear A200
               by_cases c21 : t370 = true
               · subst c21
                 have H1 : (phalaropelaw12_ExpandURI.l0 k1 t364 t366 (wrap64 (x8_1 + 1))) = some r := by rw [if_pos rfl] at H; exact H
                 clear H
                 have H := H1
                 clear H1
                 have H' := Aside0.mk H
                 clear H
                 have p12 : 0 ≤ (x8_1 : Int) := of_decide_eq_true (by first | (with_reducible assumption) | assumption)
                 have q12 : x8_1 < (t366.size : Int) := of_decide_eq_true (by first | (with_reducible assumption) | assumption)
                 have hx12 := bt_at t366 x8_1
                 replace p12 := eq_true p12
                 replace q12 := eq_true q12
                 go_wp2_with (first | ((with_reducible refine gate_callee (f := 24) rfl ?_); refine goesL_ (some 30) rfl rfl Tryz.func24 (by kernel_rfl) rfl #[.int .u8 (bt t366 x8_1)] rfl (by (try simp only [List.map_toArray, List.map_cons, List.map_nil]); first | done | rfl | (simp only [List.length_drop, List.length_take]; rfl)) ?_; (with_reducible refine (rf02_Unreserved.calls k1 (bt t366 x8_1) false _ A13.out).mono ?_); rintro e w' ⟨rfl, ⟨nd, rfl⟩⟩; refine ⟨_, rfl, ?_⟩; have p15 : 0 ≤ (x8_1 : Int) := of_decide_eq_true (by first | (with_reducible assumption) | assumption); have q15 : x8_1 < (t366.size : Int) := of_decide_eq_true (by first | (with_reducible assumption) | assumption); have hx15 := bt_at t366 x8_1; replace p15 := eq_true p15; replace q15 := eq_true q15) | (go_at_call 25; (with_reducible refine (rf02_Reserved.calls k1 (bt t366 x8_1) false _ A16.out).mono ?_); rintro e w' ⟨rfl, ⟨nd, rfl⟩⟩) | (go_at_call 26; (with_reducible refine (rf03_Triplet.calls (t366.extract (x8_1 : Int).toNat t366.size) true _ A20.out).mono ?_); rintro e w' ⟨rfl, ⟨nd, rfl⟩⟩))
                 go_roundg k1
                 case measure => have := HK1.out; omega
                 case rel => exact ⟨(wrap64 (x8_1 + 1)), (by first | rfl | (simp; done) | (simp [*]; done)), H', ⟨by have := HK1.out; omega⟩, ⟨by repeat (first | (with_reducible first | exact HB.out | apply below_alloc | apply pw_below_drewN | apply below_drew1) | exact HB.out)⟩⟩
               · replace c21 := Bool.eq_false_iff.mpr c21
                 subst c21
                 have H1 : (some false) = some r := by rw [if_neg (show ¬ (false = true) by decide)] at H; exact H
                 clear H
                 have H := H1
                 clear H1
                 obtain rfl := Option.some.inj H
                 have p12 : 0 ≤ (x8_1 : Int) := of_decide_eq_true (by first | (with_reducible assumption) | assumption)
                 have q12 : x8_1 < (t366.size : Int) := of_decide_eq_true (by first | (with_reducible assumption) | assumption)
                 have hx12 := bt_at t366 x8_1
                 replace p12 := eq_true p12
                 replace q12 := eq_true q12
                 go_wp2_with (first | ((with_reducible refine gate_callee (f := 24) rfl ?_); refine goesL_ (some 30) rfl rfl Tryz.func24 (by kernel_rfl) rfl #[.int .u8 (bt t366 x8_1)] rfl (by (try simp only [List.map_toArray, List.map_cons, List.map_nil]); first | done | rfl | (simp only [List.length_drop, List.length_take]; rfl)) ?_; (with_reducible refine (rf02_Unreserved.calls k1 (bt t366 x8_1) false _ A13.out).mono ?_); rintro e w' ⟨rfl, ⟨nd, rfl⟩⟩; refine ⟨_, rfl, ?_⟩; have p15 : 0 ≤ (x8_1 : Int) := of_decide_eq_true (by first | (with_reducible assumption) | assumption); have q15 : x8_1 < (t366.size : Int) := of_decide_eq_true (by first | (with_reducible assumption) | assumption); have hx15 := bt_at t366 x8_1; replace p15 := eq_true p15; replace q15 := eq_true q15) | (go_at_call 25; (with_reducible refine (rf02_Reserved.calls k1 (bt t366 x8_1) false _ A16.out).mono ?_); rintro e w' ⟨rfl, ⟨nd, rfl⟩⟩) | (go_at_call 26; (with_reducible refine (rf03_Triplet.calls (t366.extract (x8_1 : Int).toNat t366.size) false _ A20.out).mono ?_); rintro e w' ⟨rfl, ⟨nd, rfl⟩⟩))
                 go_ret
                 exact ⟨by first | rfl | (simp [errW_none, errW_some] <;> rfl) | (simp [*, errW_none, errW_some] <;> rfl), by repeat (first | (with_reducible first | exact HB.out | apply below_alloc | apply pw_below_drewN | apply below_drew1) | exact HB.out)⟩
             · rw [if_neg c19] at H
               exact absurd H (by simp)
       · rw [if_neg c11] at H
         exact absurd H (by simp)
     · rw [if_neg c10] at H
       have c10b0 : decide (x8_1 < (t366.size : Int)) = false := decide_eq_false c10
       clear c10
       obtain rfl := Option.some.inj H
       go_wp2
       go_ret
       exact ⟨by first | rfl | (simp [errW_none, errW_some] <;> rfl) | (simp [*, errW_none, errW_some] <;> rfl), by repeat (first | (with_reducible first | exact HB.out | apply below_alloc | apply pw_below_drewN | apply below_drew1) | exact HB.out)⟩
 · replace c5 := Bool.eq_false_iff.mpr c5
   subst c5
   have H1 : (some t364) = some r := by rw [if_neg (show ¬ (false = true) by decide)] at H; exact H
   clear H
   have H := H1
   clear H1
   obtain rfl := Option.some.inj H
   go_enter Tryz.func4, Tryz.ntmps4
   go_wp2_with (first | ((with_reducible refine gate_callee (f := 16) rfl ?_); refine goesL_ (some 9) rfl rfl Tryz.func16 (by kernel_rfl) rfl #[] rfl (by (try simp only [List.map_toArray, List.map_cons, List.map_nil]); first | done | rfl | (simp only [List.length_drop, List.length_take]; rfl)) ?_; (with_reducible refine (phalaropelaw12_awake.calls  t364 _ (hG.keepAt (Nat.le_refl _) (by repeat (first | (with_reducible first | exact HB.out | apply below_alloc | apply pw_below_drewN | apply below_drew1) | exact HB.out))) A3.out).mono ?_); rintro e w22 ⟨rfl, hb⟩; refine ⟨_, rfl, ?_⟩; have n0_ := Aside0.mk (below_step (by repeat (first | (with_reducible first | exact HB.out | apply below_alloc | apply pw_below_drewN | apply below_drew1) | exact HB.out)) hb); clear HB; have HB := n0_; clear n0_; (try clear hb); (try clear hb2); (try clear hk); (try clear hi)) | ((with_reducible refine gate_callee (f := 17) rfl ?_); refine goesL_ (some 12) rfl rfl Tryz.func17 (by kernel_rfl) rfl #[.slice A0 l0.length c0, .slice A1 l1.length c1] rfl (by (try simp only [List.map_toArray, List.map_cons, List.map_nil]); first | done | rfl | (simp only [List.length_drop, List.length_take]; rfl)) ?_; (with_reducible refine (phalaropelaw12_few.calls k _ _ l0 _ _ l1 false _ ?side1 ?side2 ?side3 ?side4 A4.out).mono ?_); (case side1 => repeat (first | exact (Kd.C_below HR0.out HB.out) | (with_reducible refine Kd.C_alloc ?_ _) | (with_reducible refine Kd.C_drewN ?_ _) | (with_reducible refine Kd.C_drew ?_))); (case side2 => exact HC0.out); (case side3 => repeat (first | exact (Kd.C_below HR1.out HB.out) | (with_reducible refine Kd.C_alloc ?_ _) | (with_reducible refine Kd.C_drewN ?_ _) | (with_reducible refine Kd.C_drew ?_))); (case side4 => exact HC1.out); rintro e w23 ⟨rfl, hb⟩; refine ⟨_, rfl, ?_⟩; have n0_ := Aside0.mk (below_step (by repeat (first | (with_reducible first | exact HB.out | apply below_alloc | apply pw_below_drewN | apply below_drew1) | exact HB.out)) hb); clear HB; have HB := n0_; clear n0_; (try clear hb); (try clear hb2); (try clear hk); (try clear hi)))
   go_ret
   exact ⟨by first | rfl | (simp [errW_none, errW_some] <;> rfl) | (simp [*, errW_none, errW_some] <;> rfl), by repeat (first | (with_reducible first | exact HB.out | apply below_alloc | apply pw_below_drewN | apply below_drew1) | exact HB.out)⟩
end Go.Proofs.YtlocbpaikdgmbaaGreatDoor.P
end
section
namespace Go.Proofs.YtlocbpaikdgmbaaGreatDoor.P
open Go.RowKit Go.Proofs.YtlocbpaikdgmbaaGreatDoorW.PrintWords Go.Proofs.YtlocbpaikdgmbaaGreatDoorW.PrintLast Go.Proofs.YtlocbpaikdgmbaaGreatDoorW.PrintMore
set_option linter.unusedVariables false
set_option linter.unusedSimpArgs false
def uriB (b : Nat) (r : List Nat) : Bool := isUnres b || (isResv b || trip (b :: r))
def uri : List Nat → Bool
 | [] => true
 | b :: r => uriB b r && uri r
theorem trip_more {l : List Nat} (m : List Nat) (h : trip l = true) : trip (l ++ m) = true := by
 obtain ⟨c, d, r, rfl, hc, hd⟩ := trip_cases h
 unfold trip at h ⊢
 exact h
theorem uri_append : ∀ {l m : List Nat}, uri l = true → uri m = true → uri (l ++ m) = true
 | [], m, _, h => h
 | b :: r, m, h, k => by
  unfold uri at h
  rw [Bool.and_eq_true] at h
  rw [List.cons_append]
  unfold uri
  rw [Bool.and_eq_true]
  refine ⟨?_, uri_append h.2 k⟩
  have h1 := h.1
  unfold uriB at h1 ⊢
  rw [Bool.or_eq_true, Bool.or_eq_true] at h1 ⊢
  rcases h1 with h1 | h1 | h1
  · exact .inl h1
  · exact .inr (.inl h1)
  · exact .inr (.inr (trip_more m h1))
theorem uri_one {b : Nat} (h : b < 256) : uri (oneE b) = true := by
 have : ∀ b : Fin 256, uri (oneE b.1) = true := by decide +kernel
 exact this ⟨b, h⟩
theorem uri_enc (keep : Bool) : ∀ (n : Nat) (l : List Nat), l.length ≤ n → (∀ b ∈ l, b < 256) → uri (encNs keep l) = true
 | _, [], _, _ => rfl
 | n, b :: r, hn, hb => by
  obtain ⟨n, rfl⟩ : ∃ m, n = m + 1 := ⟨n - 1, by simp only [List.length_cons] at hn; omega⟩
  simp only [List.length_cons] at hn
  have hr := uri_enc keep n r (by omega) (fun y hy => hb y (List.mem_cons_of_mem _ hy))
  by_cases ht : (keep && trip (b :: r)) = true
  · rw [Bool.and_eq_true] at ht
    obtain ⟨hk, ht⟩ := ht
    subst hk
    obtain ⟨c, d, r2, hl, hc, hd⟩ := trip_cases ht
    injection hl with h1 h2
    subst h1 h2
    have hlc := hb c (by simp)
    have hld := hb d (by simp)
    rw [encN_trip hlc hld ht hc hd]
    have hr2 := uri_enc true n r2 (by simp only [List.length_cons] at hn; omega) (fun y hy => hb y (by simp [hy]))
    have ht2 : trip (37 :: c :: d :: encNs true r2) = true := trip_more (l := [37, c, d]) _ (by unfold trip at ht ⊢; exact ht)
    simp only [uri, uriB, ht2, unres_hex hlc hc, unres_hex hld hd, Bool.or_true, Bool.true_or, Bool.true_and, hr2]
  · have ht : (keep && trip (b :: r)) = false := by simpa using ht
    show uri ((if stayNs keep b r = true then [b] else oneE b) ++ encNs keep r) = true
    refine uri_append ?_ hr
    split
    · rename_i hs
      unfold stayNs at hs
      rw [ht, Bool.or_false, Bool.or_eq_true] at hs
      simp only [uri, uriB, Bool.and_true, Bool.or_eq_true]
      rcases hs with hs | hs
      · exact .inl hs
      · rw [Bool.and_eq_true] at hs
        exact .inr (.inl hs.2)
    · exact uri_one (hb b List.mem_cons_self)
def uriT (s : ByteArray) : Prop := uri (bs s) = true
theorem uriT_enc (keep : Bool) (s : ByteArray) : uriT (encB keep s) := by
 unfold uriT
 rw [enc_bs]
 exact uri_enc keep _ _ (Nat.le_refl _) (bs_lt s)
theorem uriT_append {s t : ByteArray} (h : uriT s) (k : uriT t) : uriT (s ++ t) := by
 unfold uriT at *
 rw [bs_append]
 exact uri_append h k
theorem uri_name : ∀ (n : Nat) (l : List Nat) (q : Q), l.length ≤ n → (∀ b ∈ l, b < 256) → (q = .n ∨ q = .ns) → nameFrom q l = true → uri l = true
 | _, [], _, _, _, _, _ => rfl
 | n, b :: r, q, hn, hb, hq, h => by
  obtain ⟨n, rfl⟩ : ∃ m, n = m + 1 := ⟨n - 1, by simp only [List.length_cons] at hn; omega⟩
  simp only [List.length_cons] at hn
  have hbr : ∀ y ∈ r, y < 256 := fun y hy => hb y (List.mem_cons_of_mem _ hy)
  by_cases hp : b = 37
  · subst hp
    by_cases ht : trip (37 :: r) = true
    · rw [trip_name hq ht] at h
      obtain ⟨c, d, r2, hl, hc, hd⟩ := trip_cases ht
      injection hl with h1 h2
      subst h2
      have hr2 := uri_name n r2 .n (by simp only [List.length_cons] at hn; omega) (fun y hy => hb y (by simp [hy])) (.inl rfl) h
      simp only [uri, uriB, ht, unres_hex (hb c (by simp)) hc, unres_hex (hb d (by simp)) hd, Bool.or_true, Bool.true_or, Bool.true_and, hr2]
    · rw [trip_none hq (by simpa using ht)] at h
      cases h
  · cases hs : nstep q b with
    | none => rw [nameFrom_none hs] at h; cases h
    | some q' =>
     rw [nameFrom_some hs] at h
     have key : isUnres b = true ∧ (q' = .n ∨ q' = .nd) := by
      have hall : ∀ (b : Fin 256) (q : Bool), b.1 ≠ 37 → (match nstep (if q = true then Q.n else Q.ns) b.1 with | some .n => isUnres b.1 | some .nd => isUnres b.1 | some _ => false | none => true) = true := by decide +kernel
      rcases hq with rfl | rfl
      · have h1 := hall ⟨b, hb b List.mem_cons_self⟩ true hp
        simp only [if_true] at h1
        rw [hs] at h1
        cases q' <;> simp at h1 <;> first | exact ⟨h1, .inl rfl⟩ | exact ⟨h1, .inr rfl⟩
      · have h1 := hall ⟨b, hb b List.mem_cons_self⟩ false hp
        simp only [Bool.false_eq_true, if_false] at h1
        rw [hs] at h1
        cases q' <;> simp at h1 <;> first | exact ⟨h1, .inl rfl⟩ | exact ⟨h1, .inr rfl⟩
     have hr : uri r = true := by
      rcases key.2 with rfl | rfl
      · exact uri_name n r .n (by omega) hbr (.inl rfl) h
      · rw [nameFrom_nd] at h
        exact uri_name n r .ns (by omega) hbr (.inr rfl) h
     simp only [uri, uriB, key.1, Bool.true_or, Bool.true_and, hr]
theorem uriT_name {x : S55} (h : gv x = true) : uriT x.f0 := by
 unfold gv at h
 rw [Bool.and_eq_true] at h
 exact uri_name _ _ .ns (Nat.le_refl _) (bs_lt _) (.inr rfl) h.1
theorem uriT_eq : uriT ⟨#[61]⟩ := by unfold uriT; decide +kernel
theorem uriT_nil : uriT ⟨#[]⟩ := rfl
theorem ruleOf_uri (op : Int) : uriT (ruleOf op).first ∧ uriT (ruleOf op).sep ∧ uriT (ruleOf op).empty := by
 unfold ruleOf
 repeat' split
 all_goals exact ⟨by unfold uriT; decide +kernel, by unfold uriT; decide +kernel, by unfold uriT; decide +kernel⟩
theorem uriT_named {R : RuleS} {name s : ByteArray} (hR : uriT R.empty) (hn : uriT name) (hs : uriT s) : uriT (namedB R name s) := by
 unfold namedB
 split
 · exact uriT_append hn hR
 · exact uriT_append (uriT_append hn uriT_eq) hs
theorem uriT_maybe {R : RuleS} {name s : ByteArray} (hR : uriT R.empty) (hn : uriT name) (hs : uriT s) : uriT (maybeB R name s) := by
 unfold maybeB
 split
 · exact uriT_named hR hn hs
 · exact hs
theorem uriT_tail {sep : ByteArray} (hsep : uriT sep) : ∀ {r : List ByteArray}, (∀ x ∈ r, uriT x) → uri ((Lib.joinTail sep.data.toList (r.map (·.data.toList))).map (·.toNat)) = true
 | [], _ => rfl
 | x :: r, h => by
  have e : Lib.joinTail sep.data.toList ((x :: r).map (·.data.toList)) = (sep.data.toList ++ x.data.toList) ++ Lib.joinTail sep.data.toList (r.map (·.data.toList)) := by simp [Lib.joinTail]
  rw [e, List.map_append, List.map_append]
  exact uri_append (uri_append hsep (h x List.mem_cons_self)) (uriT_tail hsep (fun y hy => h y (List.mem_cons_of_mem _ hy)))
theorem uriT_join {sep : ByteArray} {l : List ByteArray} (hsep : uriT sep) (h : ∀ x ∈ l, uriT x) : uriT (joinT sep l) := by
 show uri ((joinB l sep).map (·.toNat)) = true
 unfold joinB
 cases l with
 | nil => rfl
 | cons x r =>
  rw [List.map_cons, Lib.join_cons, List.map_append]
  exact uri_append (h x List.mem_cons_self) (uriT_tail hsep (fun y hy => h y (List.mem_cons_of_mem _ hy)))
theorem uriT_oneT {R : RuleS} {x : S55} {v : S44} (hs : uriT R.sep) (he : uriT R.empty) (hx : uriT x.f0) : uriT (oneT R x v) := by
 unfold oneT
 split
 · exact uriT_maybe he hx (uriT_enc _ _)
 · split
   · unfold starT
     split
     · refine uriT_join hs (fun y hy => ?_)
       obtain ⟨s, -, rfl⟩ := List.mem_map.1 hy
       exact uriT_maybe he hx (uriT_enc _ _)
     · refine uriT_join hs (fun y hy => ?_)
       obtain ⟨p, -, rfl⟩ := List.mem_map.1 hy
       unfold pairT
       split
       · exact uriT_named he (uriT_enc _ _) (uriT_enc _ _)
       · exact uriT_append (uriT_append (uriT_enc _ _) uriT_eq) (uriT_enc _ _)
   · have hj : uriT (joinT ⟨#[44]⟩ ((txs v).map (encB R.keep))) := uriT_join (by unfold uriT; decide +kernel) (fun y hy => by
      obtain ⟨s, -, rfl⟩ := List.mem_map.1 hy
      exact uriT_enc _ _)
     unfold wholeT
     split
     · exact uriT_append (uriT_append hx uriT_eq) hj
     · exact hj
theorem uriT_oneP {op : Int} {x : S55} {v : S44} (hx : x.f0.size ≤ 200) : uriT (oneP op x v).1 := by
 unfold oneP
 repeat' split
 all_goals first
  | exact uriT_nil
  | (refine uriT_oneT (ruleOf_uri op).2.1 (ruleOf_uri op).2.2 (uriT_name ?_)
     exact (gv_iff x).2 ((goodV_iff (by omega)).1 (by
      rename_i hg _ _ _
      cases h : goodV x with
      | true => rfl
      | false => exact absurd h hg)))
theorem uriT_texts {op : Int} {a : List S46} : ∀ {sp : List S55}, (∀ x ∈ sp, x.f0.size ≤ 200) → ∀ y ∈ textsP op a sp, uriT y.1
 | [], _, y, hy => by cases hy
 | x :: r, h, y, hy => by
  unfold textsP at hy
  split at hy
  · rcases List.mem_cons.1 hy with rfl | hy
    · exact uriT_oneP (h x List.mem_cons_self)
    · exact uriT_texts (fun z hz => h z (List.mem_cons_of_mem _ hz)) y hy
  · exact uriT_texts (fun z hz => h z (List.mem_cons_of_mem _ hz)) y hy
theorem uriT_part {p : S31} {a : List S46} (hp : FewP p) : uriT (partP p a).1 := by
 unfold partP
 split
 · exact uriT_nil
 · split
   · exact uriT_enc _ _
   · unfold partEndsP
     cases hf : (textsP p.f1 a p.f2).find? fun x => x.2 != 0 with
     | some x => exact uriT_nil
     | none =>
      dsimp only
      split
      · exact uriT_nil
      · exact uriT_append (ruleOf_uri p.f1).1 (uriT_join (ruleOf_uri p.f1).2.1 (fun y hy => by
         obtain ⟨z, hz, rfl⟩ := List.mem_map.1 hy
         exact uriT_texts hp.2.2 z hz))
theorem uri_allR {a : List S46} : ∀ {t : List S31} {acc : List UInt8}, (∀ p ∈ t, FewP p) → uri (acc.map (·.toNat)) = true → uri ((allR a t acc).1.map (·.toNat)) = true
 | [], acc, _, h => h
 | p :: r, acc, hp, h => by
  unfold allR
  split
  · rfl
  · refine uri_allR (fun y hy => hp y (List.mem_cons_of_mem _ hy)) ?_
    rw [List.map_append]
    exact uri_append h (uriT_part (hp p List.mem_cons_self))
theorem uri_loop (s : ByteArray) (hs : s.size ≤ 100000000) : ∀ (d i : Nat), i + d = s.size → uri ((bs s).drop i) = true → Ev (fun k => phalaropelaw12_ExpandURI.l0 k true s (i : Int)) true
 | 0, i, hi, _ => Ev.step (f := fun _ => some true) (fun k => by simp only [phalaropelaw12_ExpandURI.l0]; rw [if_neg (by omega)]) (Ev.now _)
 | d + 1, i, hi, hu => by
  obtain ⟨b, hb, he, hd⟩ := bs_get s i (by omega)
  rw [hd] at hu
  unfold uri at hu
  rw [Bool.and_eq_true] at hu
  have ih := uri_loop s hs d (i + 1) (by omega) hu.2
  have htr : rf03_Triplet.f (s.extract i s.size) = some (trip (b :: (bs s).drop (i + 1))) := by rw [ref_trip, bs_from, hd]
  refine Ev.step (f := fun k => (rf02_Unreserved.f k (b : Int)).bind fun t382 => if t382 = true then phalaropelaw12_ExpandURI.l0 k true s ((i + 1 : Nat) : Int) else (rf02_Reserved.f k (b : Int)).bind fun t383 => if t383 = true then phalaropelaw12_ExpandURI.l0 k true s ((i + 1 : Nat) : Int) else (rf03_Triplet.f (s.extract i s.size)).bind fun t384 => if t384 = true then phalaropelaw12_ExpandURI.l0 k true s ((i + 1 : Nat) : Int) else some false) (fun k => ?_) ?_
  · simp only [phalaropelaw12_ExpandURI.l0]
    rw [if_pos (by omega), if_pos (by omega), he, w64 (by omega) (by omega), Int.toNat_natCast, if_pos (by omega)]
    rfl
  · refine (ref_unres hb).bind ?_
    cases h1 : isUnres b with
    | true => exact Ev.congr (f := _) (fun k => by rw [if_pos rfl]) ih
    | false =>
     refine Ev.congr (f := _) (fun k => by rw [if_neg (by simp)]) ((ref_resv hb).bind ?_)
     cases h2 : isResv b with
     | true => exact Ev.congr (f := _) (fun k => by rw [if_pos rfl]) ih
     | false =>
      have h3 : trip (b :: (bs s).drop (i + 1)) = true := by
       have := hu.1
       unfold uriB at this
       rw [h1, h2] at this
       simpa using this
      rw [h3] at htr
      exact Ev.congr (f := _) (fun k => by rw [if_neg (by simp), htr, Option.bind_some, if_pos rfl]) ih
theorem expandURI_pure (t : List S31) (a : List S46) (q0 : Q_s_api_Part t) (q1 : Q_s_api_Bind a) : ∃ k, phalaropelaw12_ExpandURI.f k t a = some true := by
 refine Ev.rounds ?_
 obtain ⟨b, hb, hf⟩ := expand_few t a
 refine expand_awake.bind (hb.bind ?_)
 cases b with
 | false => exact Ev.congr (f := fun _ => some true) (fun k => by simp) (Ev.now _)
 | true =>
  obtain ⟨ht, ha⟩ := hf rfl
  obtain ⟨m, hm, hall, hl⟩ := expand_all ⟨by omega, ht.2⟩ q0 ha
  refine Ev.congr (f := _) (fun k => by rw [if_pos rfl]) ((hall _).bind ?_)
  have hu : uriT (allP m t a 1099511627776).1 ∧ (allP m t a 1099511627776).1.size ≤ 100000000 := by
   unfold allP
   split
   · exact ⟨uriT_nil, Nat.zero_le _⟩
   · unfold allEnds
     split
     · exact ⟨uriT_nil, Nat.zero_le _⟩
     · split
       · exact ⟨uriT_nil, Nat.zero_le _⟩
       · exact ⟨uri_allR ht.2 rfl, by simpa [ByteArray.size] using hl⟩
  exact uri_loop _ hu.2 _ 0 (Nat.zero_add _) (by rw [List.drop_zero]; exact hu.1)
end Go.Proofs.YtlocbpaikdgmbaaGreatDoor.P
end
section
namespace Go.Proofs.YtlocbpaikdgmbaaGreatDoor
open Go.RowKit Go.Proofs.YtlocbpaikdgmbaaGreatDoorW.PrintWords
set_option linter.unusedVariables false
theorem expandURI_law (A0 : Option Addr) (c0 : Nat) (y0 : List (P.S31)) (A1 : Option Addr) (c1 : Nat) (y1 : List (P.S46)) (w : World) (hG : P.Gl w) (hr0 : Kd.C P.k31 w A0 y0.length y0) (hc0 : y0.length ≤ c0) (q0 : P.Q_s_api_Part y0) (hr1 : Kd.C P.k46 w A1 y1.length y1) (hc1 : y1.length ≤ c1) (q1 : P.Q_s_api_Bind y1) : Calls Tryz.prog 4 #[.slice A0 y0.length c0, .slice A1 y1.length c1] w fun e w' => e = .returned (.bool true) ∧ Below w.heap.size w w' := by
 obtain ⟨k, hk⟩ := P.expandURI_pure y0 y1 q0 q1
 exact P.phalaropelaw12_ExpandURI.calls k A0 c0 y0 A1 c1 y1 true w hG hr0 hc0 hr1 hc1 hk
end Go.Proofs.YtlocbpaikdgmbaaGreatDoor
end
