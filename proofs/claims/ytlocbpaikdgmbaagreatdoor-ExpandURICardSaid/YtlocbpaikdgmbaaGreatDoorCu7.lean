/- What is told has nothing but bytes that may stand in a URI: the law ExpandURI answers true for all parts and variables and panics nowhere, where the laid variables of the library hold what their makers laid. -/
import Derived.Test.YtlocbpaikdgmbaaGreatDoorCu6
import Derived.ChangeMaps5
import Derived.Carry
import Derived.OpenShut
section
namespace Go.Proofs.YtlocbpaikdgmbaaGreatDoor
open Go.ChangeShapes Go.WideShapes Go.ChangeAt Go.RowKit Go.Proofs.YtlocbpaikdgmbaaGreatDoorW.PrintWords
open Go.ChangeMaps (open_string shut_string)
set_option linter.unusedVariables false
set_option maxRecDepth 100000
theorem expandURI_laidOut : laidOutB Tryz.prog = true := by kernel_rfl
theorem expandURI_own : ownKnob Tryz.prog.godebug = none := by kernel_rfl
theorem expandURI_lifted (os : Os) (started : os.Started) (H : Type) (enc : TypeId × Value → H) :
 ReturnsInHanded {} Tryz.checked os 4 .any (fun w args => (Rows.expandURISpec.pre enc Tryz.prog Tryz.f4 [] false w args ∧ laidMetH Tryz.prog Rows.expandURIRow.laid w) ∧ sizedMet enc Tryz.prog Tryz.f4 (OpenSpec.ofChange Rows.expandURISpec) false w args)
  (Rows.expandURISpec.post enc Tryz.prog Tryz.f4 false true false false) := by
 refine returnsInHanded_of_change_and (C := Tryz.checked) (X := fun w _ => laidMetH Tryz.prog Rows.expandURIRow.laid w) (fun _ _ _ hh h => h.of_heap hh) expandURI_own started (by kernel_rfl) Tryz.func4
  (ChangeSpec.witness_shaped (enc := enc) (C := Tryz.checked) (os := os) (X := fun w _ => laidMetH Tryz.prog Rows.expandURIRow.laid w) false (World.laidAll Tryz.prog os Rows.expandURIRow.laid) #[.slice none 0 0, .slice none 0 0] 8 (World.laidAll_os _ _ _)
   (World.shaped_of_ZipB (by kernel_rfl) (by kernel_rfl)) (by kernel_rfl) (by kernel_rfl) (by kernel_rfl)
   (by rw [MakeChecks.laidMetH_plain _ _ _ (by kernel_rfl)]; exact laidMet_laidAll _ (by kernel_rfl) (by kernel_rfl))) ?_
 intro W base args ds gs before hval0 hW _ _ hX _
 have hval : ∀ (j : Nat) t v, Tryz.f4.params[j]? = some t → args[j]? = some v → Value.okWide Tryz.prog W .any base t v := hval0
 have hW' := hW
 obtain ⟨p, q, hA0, hV, rfl, _, _⟩ := hW
 have hA : DataW.TrodAll enc Tryz.prog W 0 (fun _ => true) true Tryz.f4.params.toList args.toList ds p := hA0
 rw [Tryz.params4] at hA hval
 obtain ⟨v0, v1, d0, d1, p0, p1, rfl, rfl, rfl, h0, h1⟩ := trodAll_two hA
 obtain ⟨rfl, rfl⟩ := trodVars_none hV
 obtain ⟨A0, n0, c0, rfl⟩ := okWide_slice Tryz.underlying22 (hval 0 22 v0 rfl rfl)
 have k0 := h0
 have lt0 : ∀ x ∈ p0, x.block < W.heap.size := by obtain ⟨m, hm⟩ := k0; exact DataW.trod_lt m _ _ _ hm
 obtain ⟨fuel0, hf0⟩ := h0
 obtain ⟨y0, q0, K0⟩ := P.o_s_api_Part hf0
 obtain ⟨B0, e0, ee0, hc0, hr0⟩ := K0
 simp [Value.cells] at ee0
 obtain ⟨rfl, rfl, rfl⟩ := ee0
 obtain ⟨A1, n1, c1, rfl⟩ := okWide_slice Tryz.underlying23 (hval 1 23 v1 rfl rfl)
 have k1 := h1
 have lt1 : ∀ x ∈ p1, x.block < W.heap.size := by obtain ⟨m, hm⟩ := k1; exact DataW.trod_lt m _ _ _ hm
 obtain ⟨fuel1, hf1⟩ := h1
 obtain ⟨y1, q1, K1⟩ := P.o_s_api_Bind hf1
 obtain ⟨B1, e1, ee1, hc1, hr1⟩ := K1
 simp [Value.cells] at ee1
 obtain ⟨rfl, rfl, rfl⟩ := ee1
 rw [MakeChecks.laidMetH_plain _ _ _ (by kernel_rfl)] at hX
 refine (expandURI_law A0 c0 y0 A1 c1 y1 W (gl_of_laid hX) hr0 hc0 q0 hr1 hc1 q1).mono fun e W' ⟨he, hb⟩ => ?_
 subst he
 exact ⟨_, rfl, _, _, _, [], _, [], hW', trodAll_mk1 (shut_bool Tryz.underlying4 _), trodAll_mk2 (Below.trod expandURI_laidOut (by kernel_rfl) (of_decide_eq_true (by kernel_rfl)) k0 hb lt0) (Below.trod expandURI_laidOut (by kernel_rfl) (of_decide_eq_true (by kernel_rfl)) k1 hb lt1), rfl, hb.frame _, fun h => by cases h⟩
theorem expandURI_holds : Rows.ExpandURISaid :=
 OpenClaim.holds_of_wide 4 Tryz.f4 rfl rfl rfl rfl rfl rfl rfl ⟨rfl, rfl, rfl, rfl, rfl⟩ rfl rfl rfl rfl rfl expandURI_named Tryz.func4 expandURI_closed
  (of_decide_eq_true (by kernel_rfl)) (by unfold Func.isWrapper; first | (rw [if_pos (by decide +kernel)]; kernel_rfl) | (rw [if_neg (by decide +kernel)]; exact ⟨rfl, rfl⟩))
  (fun os started H enc _ => expandURI_lifted os started H enc)
theorem expandURI_card : Rows.ExpandURICardSaid :=
 Claim7.holds_tied_plain_at .later [] [.data, .data, .data, .sentinel, .sentinel] true _ true
  expandURI_holds (fun _ h => by cases h) (by kernel_rfl) (fun _ h => by cases h) expandURI_row_tie rfl ⟨rfl, rfl⟩ (by kernel_rfl) rfl
  (fun f fn hf hfn => by
   have e1 : f = 4 := Option.some.inj (hf.symm.trans (by kernel_rfl))
   subst e1
   obtain rfl : fn = Tryz.f4 := (Option.some.inj (Tryz.func4.symm.trans hfn)).symm
   exact ⟨by kernel_rfl, fun j t ht => by
    rw [Tryz.params4] at ht
    have hm : t ∈ [22, 23] := by simpa using Array.mem_of_getElem? ht
    have ht2 : t = 22 ∨ t = 23 := by simpa using hm
    rcases ht2 with rfl | rfl
    · exact (show Tryz.prog.wantsStandIn 22 = false by kernel_rfl)
    · exact (show Tryz.prog.wantsStandIn 23 = false by kernel_rfl)⟩)
  (by kernel_rfl)
end Go.Proofs.YtlocbpaikdgmbaaGreatDoor
end
