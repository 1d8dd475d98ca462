/- The law ExpandLimit holds: for all parts, all variables and every byte it answers true and panics nowhere, where the laid variables of the library hold what their makers laid. -/
import Derived.Test.YtlocbpaikdgmbaaGreatDoorCl7
import Derived.ChangeMaps5
import Derived.Carry
import Derived.OpenShut
section
namespace Go.Proofs.YtlocbpaikdgmbaaGreatDoor
open Go.ChangeShapes Go.WideShapes Go.ChangeAt Go.RowKit Go.Proofs.YtlocbpaikdgmbaaGreatDoorW.PrintWords
open Go.ChangeMaps (open_string shut_string)
set_option linter.unusedVariables false
set_option maxRecDepth 100000
theorem expandLimit_laidOut : laidOutB Tryz.prog = true := by kernel_rfl
theorem expandLimit_law (A0 : Option Addr) (c0 : Nat) (y0 : List (P.S31)) (A1 : Option Addr) (c1 : Nat) (y1 : List (P.S46)) (y2 : Int) (w : World) (hG : P.Gl w) (hr0 : Kd.C P.k31 w A0 y0.length y0) (hc0 : y0.length ≤ c0) (q0 : P.Q_s_api_Part y0) (hr1 : Kd.C P.k46 w A1 y1.length y1) (hc1 : y1.length ≤ c1) (q1 : P.Q_s_api_Bind y1) (q2 : P.Q_int_u8 y2) : Calls Tryz.prog 7 #[.slice A0 y0.length c0, .slice A1 y1.length c1, .int .u8 y2] w fun e w' => e = .returned (.bool true) ∧ Below w.heap.size w w' := by
 obtain ⟨k, hk⟩ := P.expandLimit_pure y0 y1 y2 q0 q1 q2
 exact P.phalaropelaw12_ExpandLimit.calls k A0 c0 y0 A1 c1 y1 y2 true w hG hr0 hc0 hr1 hc1 hk
theorem expandLimit_own : ownKnob Tryz.prog.godebug = none := by kernel_rfl
theorem expandLimit_lifted (os : Os) (started : os.Started) (H : Type) (enc : TypeId × Value → H) :
 ReturnsInHanded {} Tryz.checked os 7 .any (fun w args => (Rows.expandLimitSpec.pre enc Tryz.prog Tryz.f7 [] false w args ∧ laidMetH Tryz.prog Rows.expandLimitRow.laid w) ∧ sizedMet enc Tryz.prog Tryz.f7 (OpenSpec.ofChange Rows.expandLimitSpec) false w args)
  (Rows.expandLimitSpec.post enc Tryz.prog Tryz.f7 false true false false) := by
 refine returnsInHanded_of_change_and (C := Tryz.checked) (X := fun w _ => laidMetH Tryz.prog Rows.expandLimitRow.laid w) (fun _ _ _ hh h => h.of_heap hh) expandLimit_own started (by kernel_rfl) Tryz.func7
  (ChangeSpec.witness_shaped (enc := enc) (C := Tryz.checked) (os := os) (X := fun w _ => laidMetH Tryz.prog Rows.expandLimitRow.laid w) false (World.laidAll Tryz.prog os Rows.expandLimitRow.laid) #[.slice none 0 0, .slice none 0 0, .int .u8 0] 8 (World.laidAll_os _ _ _)
   (World.shaped_of_ZipB (by kernel_rfl) (by kernel_rfl)) (by kernel_rfl) (by kernel_rfl) (by kernel_rfl)
   (by rw [MakeChecks.laidMetH_plain _ _ _ (by kernel_rfl)]; exact laidMet_laidAll _ (by kernel_rfl) (by kernel_rfl))) ?_
 intro W base args ds gs before hval0 hW _ _ hX _
 have hval : ∀ (j : Nat) t v, Tryz.f7.params[j]? = some t → args[j]? = some v → Value.okWide Tryz.prog W .any base t v := hval0
 have hW' := hW
 obtain ⟨p, q, hA0, hV, rfl, _, _⟩ := hW
 have hA : DataW.TrodAll enc Tryz.prog W 0 (fun _ => true) true Tryz.f7.params.toList args.toList ds p := hA0
 rw [Tryz.params7] at hA hval
 obtain ⟨v0, v1, v2, d0, d1, d2, p0, p1, p2, rfl, rfl, rfl, h0, h1, h2⟩ := trodAll_three hA
 obtain ⟨rfl, rfl⟩ := trodVars_none hV
 obtain ⟨A0, n0, c0, rfl⟩ := okWide_slice Tryz.underlying22 (hval 0 22 v0 rfl rfl)
 have k0 := h0
 have lt0 : ∀ x ∈ p0, x.block < W.heap.size := by obtain ⟨m, hm⟩ := k0; exact DataW.trod_lt m _ _ _ hm
 obtain ⟨fuel0, hf0⟩ := h0
 obtain ⟨y0, q0, K0⟩ := P.o_s_api_Part hf0
 obtain ⟨B0, e0, ee0, hc0, hr0⟩ := K0
 simp [Value.cells] at ee0
 obtain ⟨rfl, rfl, rfl⟩ := ee0
 obtain ⟨A1, n1, c1, rfl⟩ := okWide_slice Tryz.underlying23 (hval 1 23 v1 rfl rfl)
 have k1 := h1
 have lt1 : ∀ x ∈ p1, x.block < W.heap.size := by obtain ⟨m, hm⟩ := k1; exact DataW.trod_lt m _ _ _ hm
 obtain ⟨fuel1, hf1⟩ := h1
 obtain ⟨y1, q1, K1⟩ := P.o_s_api_Bind hf1
 obtain ⟨B1, e1, ee1, hc1, hr1⟩ := K1
 simp [Value.cells] at ee1
 obtain ⟨rfl, rfl, rfl⟩ := ee1
 obtain ⟨y2, rfl, rfl, rfl, z2⟩ := open_int Tryz.underlying5 (hval 2 5 v2 rfl rfl) h2
 rw [MakeChecks.laidMetH_plain _ _ _ (by kernel_rfl)] at hX
 refine (expandLimit_law A0 c0 y0 A1 c1 y1 y2 W (gl_of_laid hX) hr0 hc0 q0 hr1 hc1 q1 (by have h := z2; simp [Lit.wf, IntKind.min, IntKind.max, IntKind.signed, IntKind.bits] at h; exact ⟨by omega, by omega⟩)).mono fun e W' ⟨he, hb⟩ => ?_
 subst he
 exact ⟨_, rfl, _, _, _, [], _, [], hW', trodAll_mk1 (shut_bool Tryz.underlying4 _), trodAll_mk3 (Below.trod expandLimit_laidOut (by kernel_rfl) (of_decide_eq_true (by kernel_rfl)) k0 hb lt0) (Below.trod expandLimit_laidOut (by kernel_rfl) (of_decide_eq_true (by kernel_rfl)) k1 hb lt1) (shut_int Tryz.underlying5 z2), rfl, hb.frame _, fun h => by cases h⟩
theorem expandLimit_holds : Rows.ExpandLimitSaid :=
 OpenClaim.holds_of_wide 7 Tryz.f7 rfl rfl rfl rfl rfl rfl rfl ⟨rfl, rfl, rfl, rfl, rfl⟩ rfl rfl rfl rfl rfl expandLimit_named Tryz.func7 expandLimit_closed
  (of_decide_eq_true (by kernel_rfl)) (by unfold Func.isWrapper; first | (rw [if_pos (by decide +kernel)]; kernel_rfl) | (rw [if_neg (by decide +kernel)]; exact ⟨rfl, rfl⟩))
  (fun os started H enc _ => expandLimit_lifted os started H enc)
theorem expandLimit_card : Rows.ExpandLimitCardSaid :=
 Claim7.holds_tied_plain_at .later [] [.data, .data, .data, .sentinel, .sentinel] true _ true
  expandLimit_holds (fun _ h => by cases h) (by kernel_rfl) (fun _ h => by cases h) expandLimit_row_tie rfl ⟨rfl, rfl⟩ (by kernel_rfl) rfl
  (fun f fn hf hfn => by
   have e1 : f = 7 := Option.some.inj (hf.symm.trans (by kernel_rfl))
   subst e1
   obtain rfl : fn = Tryz.f7 := (Option.some.inj (Tryz.func7.symm.trans hfn)).symm
   exact ⟨by kernel_rfl, fun j t ht => by
    rw [Tryz.params7] at ht
    have hm : t ∈ [22, 23, 5] := by simpa using Array.mem_of_getElem? ht
    have ht2 : t = 22 ∨ t = 23 ∨ t = 5 := by simpa using hm
    rcases ht2 with rfl | rfl | rfl
    · exact (show Tryz.prog.wantsStandIn 22 = false by kernel_rfl)
    · exact (show Tryz.prog.wantsStandIn 23 = false by kernel_rfl)
    · exact (show Tryz.prog.wantsStandIn 5 = false by kernel_rfl)⟩)
  (by kernel_rfl)
end Go.Proofs.YtlocbpaikdgmbaaGreatDoor
end
