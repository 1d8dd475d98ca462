/- What is proved here is used by the law's card: Builder, Utf, FutfValid, Valid, FvnameEnd, FvnameMay, FspecMay, Bs, Utf8, Auto, Var, Gram, Base, Uat, Ends, Figures, FvnameBad, AnyAt, Filled, Fucsends, Ucs, FucsFits, FucsMay, FucsTake, Ftmplpiece, F. -/
import Derived.Test.YtlocbpaikdgmbaaGreatDoorCu1
import Derived.Test.YtlocbpaikdgmbaaGreatDoorProg
import Derived.Lib.Strings
import Derived.Lib.Slices
import Derived.Lib.Walk
import Derived.Lib.Builder
import Derived.Lib.OthersKept
import Derived.Lib.AppendStr
import Derived.Lib.UnsafeStr
import Derived.Lib.MakeNoZero
import Derived.Shelf.Strings.BuilderX
import Derived.WalkKit
import Derived.Laws.Externs
import Derived.Laws.IdiomCopy
import Derived.KernelRfl
import Derived.RegionTactic
import Derived.Outline
import Derived.ChangeAlike
import Derived.BigRegion
import Derived.Laws.NewBlocks
import Derived.Lib.Hide
import Derived.WalkLawsBesides
import Derived.OneCell
import Derived.Deep.DeepMust
import Derived.WalkMore
import Derived.BigQuiet
import Derived.Lib.QuietBelow
import Derived.Laws.Rows
section
set_option linter.unusedVariables false
namespace Go.Proofs.YtlocbpaikdgmbaaGreatDoor.P
open Go.RowKit Go.Proofs
theorem enters_b {P : Program} {f : FuncId} {fn : Func} {c : Code} (hf : P.funcs[f]? = some fn) (hname : (fn.name == "runtime.NumGoroutine") = false) (hb : fn.body = some c) :
 ∀ (args : Array Value) (w : World), (callFunc f args).run P w = .ok (.enter f args) w := by
 intro args w
 have h1 : fn.name ≠ "runtime.NumGoroutine" := by simpa using hname
 simp [callFunc, hf, h1, hb, mark]
set_option maxHeartbeats 1000000 in
set_option maxRecDepth 100000 in
theorem builder_used (b : Nat) (w : World) (h0 : w.cell? ⟨b, 0, none⟩ = some (.pointer (some ⟨b, 0, none⟩))) :
 Calls Tryz.prog 90 #[.pointer (some ⟨b, 0, none⟩)] w fun e w' => e = .returned (.tuple #[]) ∧ w' = w := by
 obtain ⟨j, hj, _⟩ := Option.map_eq_some_iff.1 (show (Tryz.prog.info? 100).map (·.size) = some 2 by kernel_rfl)
 go_enter Tryz.func90, Tryz.ntmps90
 go_wp2
 rw [Lib.run_neq_ptr_same w _ Tryz.underlying97 hj]
 go_wp2
 go_end0
 exact ⟨rfl, rfl⟩
set_option maxHeartbeats 1000000 in
set_option maxRecDepth 100000 in
theorem builder_fresh (b : Nat) (w : World) (h0 : w.cell? ⟨b, 0, none⟩ = some (.pointer none)) (hsh : w.shape? b = some (100, 2)) (hfz : w.frozen? ⟨b, 0, none⟩ = false) :
 Calls Tryz.prog 90 #[.pointer (some ⟨b, 0, none⟩)] w fun e w' => e = .returned (.tuple #[]) ∧ w' = w.setCell ⟨b, 0, none⟩ (.pointer (some ⟨b, 0, none⟩)) := by
 obtain ⟨j, hj, hjs⟩ := Option.map_eq_some_iff.1 (show (Tryz.prog.info? 100).map (·.size) = some 2 by kernel_rfl)
 go_enter Tryz.func90, Tryz.ntmps90
 go_wp2
 rw [Lib.run_to_unsafe w ⟨b, 0, none⟩ Tryz.underlying97 Tryz.underlying171 hj (by rw [hjs]; decide) hsh (Nat.zero_lt_succ 1)]
 simp only [Result.andThen]
 rw [Oper.upon_value]
 go_wp2
 rw [run_callFunc_extern Tryz.func118 (by kernel_rfl) (by kernel_rfl) (by kernel_rfl) (e := Extern.AbiNoEscape.same) (by kernel_rfl)]
 rw [Lib.run_noEscape]
 simp only [Result.andThen]
 rw [Oper.upon_value]
 go_wp2
 rw [Lib.run_from_unsafe w ⟨b, 0, none⟩ Tryz.underlying171 Tryz.underlying97 hj hsh (by kernel_rfl)]
 simp only [Result.andThen]
 rw [Oper.upon_value]
 go_wp2
 go_end0
 exact ⟨rfl, rfl⟩
theorem builder_copyCheck (B b : Nat) (bs : List Value) (w : World) (h : Lib.IsBuilder 100 5 B b bs w) :
 Calls Tryz.prog 90 #[.pointer (some ⟨b, 0, none⟩)] w fun e w' => e = .returned (.tuple #[]) ∧ (Lib.BuilderAt 100 5 B b (.pointer (some ⟨b, 0, none⟩)) bs w' ∧ Below B w w' ∧ Lib.OthersKept 5 (some b) w w') := by
 rcases h with h | h
 · refine (builder_fresh b w h.cell0 h.shape h.frozen0).mono ?_
   rintro e w' ⟨rfl, rfl⟩
   exact ⟨rfl, h.used _, (Below.refl B w).setCell (p := ⟨b, 0, none⟩) h.1 _, (Lib.OthersKept.refl _ _ w).setCell ⟨b, 0, none⟩ rfl _⟩
 · refine (builder_used b w h.cell0).mono ?_
   rintro e w' ⟨rfl, rfl⟩
   exact ⟨rfl, h, Below.refl B _, Lib.OthersKept.refl _ _ _⟩
theorem row_kind {w : World} {B e size n : Nat} {v : Value} {xs : List Value} (h : w.ownsRow B e size v n xs) : ∀ g, v.ownBlock = some g → ∃ c fz, w.heap[g]? = some (.cells c e fz) := by
 intro g hg
 rcases h.2 with ⟨rfl, _⟩ | ⟨g', cap, cur, rfl, _, hh, _⟩
 · cases hg
 · cases hg
   exact ⟨cur, (0, 0), hh⟩
theorem builder_info : (Tryz.prog.info? 5).map (fun i => (i.zero, i.size, i.bytes)) = some (some (.int .u8 0), 1, 1) := by kernel_rfl
set_option maxHeartbeats 2000000 in
set_option maxRecDepth 100000 in
theorem builder_WriteByte (B b : Nat) (bs : List Value) (c : Int) (w : World) (h : Lib.IsBuilder 100 5 B b bs w) (hlen : bs.length + 1 ≤ 140737488355328) (hBw : B ≤ w.heap.size) :
 Calls Tryz.prog 88 #[.pointer (some ⟨b, 0, none⟩), .int .u8 c] w fun e w' => e = .returned .nilIface ∧ (Lib.BuilderAt 100 5 B b (.pointer (some ⟨b, 0, none⟩)) (bs ++ [.int .u8 c]) w' ∧ Below B w w' ∧ Lib.OthersKept 5 (some b) w w') := by
 obtain ⟨i0, hi, hz0, hz1, hz2⟩ := info_parts builder_info
 have e240 := enters_b Tryz.func90 (by kernel_rfl) rfl
 go_enter Tryz.func88, Tryz.ntmps88
 go_wp2_with (go_at_call 90; refine (builder_copyCheck B b bs _ h).mono ?_)
 rintro e w1 ⟨rfl, h1, hb1, hk1⟩
 obtain ⟨hB, v, hbk, hown, hne⟩ := h1
 have c0 : w1.cell? ⟨b, 0, none⟩ = some (.pointer (some ⟨b, 0, none⟩)) := by rw [Lib.cell_of_heap hbk]; rfl
 have c1 : w1.cell? ⟨b, 1, none⟩ = some v := by rw [Lib.cell_of_heap hbk]; rfl
 go_wp2_with (at_builtin; refine wpList_append_own _ rfl _ _ 98 rfl B 5 i0 (.int .u8 0) 1 1 Tryz.underlying98 hi hz0 hz1 hz2 rfl (by decide) _ _ _ rfl (hown.alloc _) ⟨w1.heap.size, 0, none⟩ 1 1 [.int .u8 c] rfl rfl ?c1 ?c2 ?c3 ?c4 ?c5 ?_)
 case c1 =>
  intro j u hj
  match j, hj with
  | 0, hj => simp at hj; subst hj; simp [Addr.add]
 case c2 => intro u hu; simp at hu; subst hu; rfl
 case c3 => unfold maxLen; omega
 case c4 => omega
 case c5 => have := hb1.size; simp; omega
 intro v' w2 hown' hgrow _
 have hlt : b < w1.heap.size := by
  rcases Nat.lt_or_ge b w1.heap.size with h' | h'
  · exact h'
  · simp [Array.getElem?_eq_none h'] at hbk
 have hb2 : w2.heap[b]? = some (.cells #[.pointer (some ⟨b, 0, none⟩), v] 100 (0, 0)) := by
  rw [hgrow.block b (by simp; omega) (fun e => hne e.symm), Lib.alloc_old w1 _ b hlt]
  exact hbk
 have d0 : w2.cell? ⟨b, 0, none⟩ = some (.pointer (some ⟨b, 0, none⟩)) := by rw [Lib.cell_of_heap hb2]; rfl
 have d1 : w2.cell? ⟨b, 1, none⟩ = some v := by rw [Lib.cell_of_heap hb2]; rfl
 have f1 : w2.frozen? ⟨b, 1, none⟩ = false := Lib.frozen_of_heap hb2 1
 obtain ⟨g, cap, rfl⟩ : ∃ g cap, v' = .slice (some ⟨g, 0, none⟩) (bs.length + 1) cap := by
  rcases hown'.2 with ⟨_, h0⟩ | ⟨g, cap, cur, hv, _⟩
  · omega
  · exact ⟨g, cap, hv⟩
 go_wp2
 go_ret
 refine ⟨rfl, ?_, ?_, ((hk1.alloc _).grown hgrow (row_kind (hown.alloc _))).setCell ⟨b, 1, none⟩ rfl _⟩
 · exact Lib.BuilderAt.put (T := 100) (e := 5) hB hb2 (bs' := bs ++ [.int .u8 c]) (by simpa using hown') (by decide)
 · exact ((hb1.alloc (by have := hb1.size; omega) _).grown hgrow (by have := hb1.size; simp; omega) (fun k hk => (hown.lt k hk).1)).setCell (p := ⟨b, 1, none⟩) hB _
set_option maxHeartbeats 2000000 in
set_option maxRecDepth 100000 in
theorem builder_WriteString (B b : Nat) (bs : List Value) (s : ByteArray) (w : World) (h : Lib.IsBuilder 100 5 B b bs w) (hlen : bs.length + s.size ≤ 140737488355328) (hBw : B ≤ w.heap.size) :
 Calls Tryz.prog 55 #[.pointer (some ⟨b, 0, none⟩), .string s] w fun e w' => e = .returned (.tuple #[.int .i64 s.size, .nilIface]) ∧ (Lib.BuilderAt 100 5 B b (.pointer (some ⟨b, 0, none⟩)) (bs ++ Lib.strCells s) w' ∧ Below B w w' ∧ Lib.OthersKept 5 (some b) w w') := by
 obtain ⟨i0, hi, hz0, hz1, hz2⟩ := info_parts builder_info
 have e240 := enters_b Tryz.func90 (by kernel_rfl) rfl
 go_enter Tryz.func55, Tryz.ntmps55
 go_wp2_with (go_at_call 90; refine (builder_copyCheck B b bs _ h).mono ?_)
 rintro e w1 ⟨rfl, h1, hb1, hk1⟩
 obtain ⟨hB, v, hbk, hown, hne⟩ := h1
 have c0 : w1.cell? ⟨b, 0, none⟩ = some (.pointer (some ⟨b, 0, none⟩)) := by rw [Lib.cell_of_heap hbk]; rfl
 have c1 : w1.cell? ⟨b, 1, none⟩ = some v := by rw [Lib.cell_of_heap hbk]; rfl
 go_wp2_with (at_builtin; refine Lib.wpList_append_own_string _ rfl _ _ 98 9 rfl B 5 i0 Tryz.underlying98 Tryz.underlying9 hi hz0 hz1 hz2 _ _ _ rfl hown s rfl ?c3 ?c4 ?c5 ?_)
 case c3 => unfold maxLen; omega
 case c4 => omega
 case c5 => have := hb1.size; omega
 intro v' w2 hown' hgrow _
 have hlt : b < w1.heap.size := by
  rcases Nat.lt_or_ge b w1.heap.size with h' | h'
  · exact h'
  · simp [Array.getElem?_eq_none h'] at hbk
 have hb2 : w2.heap[b]? = some (.cells #[.pointer (some ⟨b, 0, none⟩), v] 100 (0, 0)) := by
  rw [hgrow.block b hlt (fun e => hne e.symm)]
  exact hbk
 have d0 : w2.cell? ⟨b, 0, none⟩ = some (.pointer (some ⟨b, 0, none⟩)) := by rw [Lib.cell_of_heap hb2]; rfl
 have d1 : w2.cell? ⟨b, 1, none⟩ = some v := by rw [Lib.cell_of_heap hb2]; rfl
 have f1 : w2.frozen? ⟨b, 1, none⟩ = false := Lib.frozen_of_heap hb2 1
 obtain ⟨ao, n', cap, rfl⟩ : ∃ ao n' cap, v' = .slice ao n' cap := by
  rcases hown'.2 with ⟨hv, _⟩ | ⟨g, cap, cur, hv, _⟩
  · exact ⟨_, _, _, hv⟩
  · exact ⟨_, _, _, hv⟩
 go_wp2
 go_ret2
 refine ⟨rfl, ?_, ?_, (hk1.grown hgrow (row_kind hown)).setCell ⟨b, 1, none⟩ rfl _⟩
 · exact Lib.BuilderAt.put (T := 100) (e := 5) hB hb2 (bs' := bs ++ Lib.strCells s) (by simpa [Lib.strCells_length] using hown') (by decide)
 · exact (hb1.grown hgrow (by have := hb1.size; omega) (fun k hk => (hown.lt k hk).1)).setCell (p := ⟨b, 1, none⟩) hB _
end Go.Proofs.YtlocbpaikdgmbaaGreatDoor.P
end
section
namespace Go.Proofs.YtlocbpaikdgmbaaGreatDoor.P
open Go.RowKit Go.Proofs.YtlocbpaikdgmbaaGreatDoorW.PrintWords Go.Proofs.YtlocbpaikdgmbaaGreatDoorW.PrintLast Go.Proofs.YtlocbpaikdgmbaaGreatDoorW.PrintMore
theorem enters_fn {P : Program} {f : FuncId} {fn : Func} {c : Code} (hf : P.funcs[f]? = some fn) (hname : (fn.name == "runtime.NumGoroutine") = false) (hb : fn.body = some c) :
 ∀ (args : Array Value) (w : World), (callFunc f args).run P w = .ok (.enter f args) w := by
 intro args w
 have h1 : fn.name ≠ "runtime.NumGoroutine" := by simpa using hname
 simp [callFunc, hf, h1, hb, mark]
def badAt (s : ByteArray) (p : Nat) : Bool :=
 (Utf8.decode s p).1 == 65533 && (decide (s.size - p < 3) || (s.extract p (p + 3)).toList != (Utf8.encode 65533).toList)
def charsFrom (s : ByteArray) : Nat → Nat → List Int × Nat
 | 0, p => ([], p)
 | k + 1, p => if p < s.size ∧ badAt s p = false then (((Utf8.decode s p).1 : Int) :: (charsFrom s k (p + (Utf8.decode s p).2)).1, (charsFrom s k (p + (Utf8.decode s p).2)).2) else ([], p)
theorem decode_pos (s : ByteArray) (p : Nat) (h : p < s.size) : 1 ≤ (Utf8.decode s p).2 := by
 by_cases ha : (s[p]'h).toNat < 128
 · rw [decode_ascii s p h ha]
   exact Nat.le_refl _
 · exact (decode_high s p h (by omega)).2
theorem decode_fits (s : ByteArray) (p : Nat) (h : p < s.size) : p + (Utf8.decode s p).2 ≤ s.size := by
 unfold Utf8.decode
 repeat' (first | split | dsimp only [] at *)
 all_goals (try simp only [Bool.and_eq_true, decide_eq_true_eq] at *)
 all_goals omega
theorem charsFrom_step {s : ByteArray} {k p : Nat} (h : p < s.size) (hb : badAt s p = false) : charsFrom s (k + 1) p = (((Utf8.decode s p).1 : Int) :: (charsFrom s k (p + (Utf8.decode s p).2)).1, (charsFrom s k (p + (Utf8.decode s p).2)).2) := by
 rw [charsFrom, if_pos ⟨h, hb⟩]
theorem charsFrom_stop {s : ByteArray} {k p : Nat} (h : ¬ (p < s.size ∧ badAt s p = false)) : charsFrom s k p = ([], p) := by
 cases k with
 | zero => rfl
 | succ k => rw [charsFrom, if_neg h]
theorem badAt_eq (s : ByteArray) (p : Nat) (c : Int) (hc : c = ((Utf8.decode s p).1 : Int)) :
 badAt s p = (c == 65533 && (decide (s.size - p < 3) || (s.extract p (p + 3)).toList != (Utf8.encode c).toList)) := by
 unfold badAt
 by_cases h : c = 65533
 · have h1 : (Utf8.decode s p).1 = 65533 := by omega
   rw [h1, h]; simp
 · have h1 : ¬ (Utf8.decode s p).1 = 65533 := by omega
   rw [show ((Utf8.decode s p).1 == 65533) = false from beq_eq_false_iff_ne.2 h1, show (c == 65533) = false from beq_eq_false_iff_ne.2 h]; rfl
theorem utf_round {w w1 : World} {I : List Int → World → Prop} {s : ByteArray} {k p n : Nat} {c : Int} {l : List Int} (hn : n = (Utf8.decode s p).2) (hc : c = ((Utf8.decode s p).1 : Int)) (hlt : p < s.size) (hb : badAt s p = false)
 (HC : charsFrom s s.size 0 = (l ++ (charsFrom s k p).1, (charsFrom s k p).2)) (hk : s.size ≤ p + k) (hp : p + n ≤ s.size) (hlen : l.length ≤ p)
 (HK : Hid (w1.heap[w.heap.size]? = some (.stringIter s (p + n)))) (HI : Hid (I (l ++ [c]) w1)) :
 ∃ (k p : Nat) (l : List Int), Hid (w1.heap[w.heap.size]? = some (.stringIter s p)) ∧ Hid (charsFrom s s.size 0 = (l ++ (charsFrom s k p).1, (charsFrom s k p).2)) ∧ s.size ≤ p + k ∧ p ≤ s.size ∧ l.length ≤ p ∧ Hid (I l w1) := by
 cases k with
 | zero => omega
 | succ k =>
  have h1 := decode_pos s p hlt
  refine ⟨k, p + n, l ++ [c], HK, Lib.hid ?_, by omega, hp, by simp; omega, HI⟩
  rw [HC, charsFrom_step hlt hb, hn, hc]
  simp
theorem utf_measure {w wr w1 : World} {s : ByteArray} {p n : Nat} (h : wr.heap[w.heap.size]? = some (.stringIter s p)) (h1 : w1.heap[w.heap.size]? = some (.stringIter s (p + n))) (hlt : p < s.size) (hn : 1 ≤ n) :
 s.size - w1.iterPos w.heap.size < s.size - wr.iterPos w.heap.size := by
 simp only [World.iterPos, h, h1]
 omega
set_option maxRecDepth 100000 in
set_option maxHeartbeats 800000 in
theorem utf_each (G : Nat) (cap : Array Value) (hcf : ∀ (args : Array Value) (W : World), (callFunc G args).run Tryz.prog W = .ok (.enter G args) W) (s : ByteArray) (hs : s.size ≤ 9223372036854775807) (I : List Int → World → Prop) (w : World) (h0 : I [] (w.iter s 0))
 (hI : ∀ l W p q, W.heap[w.heap.size]? = some (.stringIter s q) → I l W → I l (W.iterAt w.heap.size s p))
 (hstep : ∀ l (c : Int) W, 0 ≤ c → c ≤ 2147483647 → l.length < s.size → I l W → Calls Tryz.prog G (#[.int .i64 c] ++ cap) W fun e W' => e = .returned (.tuple #[]) ∧ I (l ++ [c]) W' ∧ (∀ p, W.heap[w.heap.size]? = some (.stringIter s p) → W'.heap[w.heap.size]? = some (.stringIter s p))) :
 Calls Tryz.prog 173 #[.string s, .func (.func G) #[] cap] w fun e w' => e = .returned (.int .i64 (charsFrom s s.size 0).2) ∧ I (charsFrom s s.size 0).1 w' := by
 have H0 := Lib.hid h0
 have HI := Lib.hid hI
 have HS := Lib.hid hstep
 clear h0 hI hstep
 go_enter Tryz.func173, Tryz.ntmps173
 go_wp2
 go_loopw [5, 6] (fun _ _ wr => ∃ (k p : Nat) (l : List Int), Hid (wr.heap[w.heap.size]? = some (.stringIter s p)) ∧ Hid (charsFrom s s.size 0 = (l ++ (charsFrom s k p).1, (charsFrom s k p).2)) ∧ s.size ≤ p + k ∧ p ≤ s.size ∧ l.length ≤ p ∧ Hid (I l wr)) (fun _ _ wr => s.size - wr.iterPos w.heap.size)
 case atStart =>
  exact ⟨s.size, 0, [], Lib.hid (World.iter_heap w s 0), Lib.hid (by simp), by omega, by omega, by simp, H0⟩
 case round =>
  obtain ⟨k, p, l, HK, HC, hk, hp, hlen, HIl⟩ := hrel
  by_cases hlt : p < s.size
  · have hnx : ∀ ty, (Instr.next (.pointer (some ⟨w.heap.size, 0, none⟩)) true ty).run Tryz.prog wr = _ := fun ty => Lib.run_next_any_at wr w.heap.size s p ty HK.out hlt
    obtain ⟨c, hc⟩ : ∃ c : Int, c = ((Utf8.decode s p).1 : Int) := ⟨_, rfl⟩
    obtain ⟨n, hn⟩ : ∃ n, n = (Utf8.decode s p).2 := ⟨_, rfl⟩
    rw [← hc, ← hn] at hnx
    have hc0 : 0 ≤ c := by rw [hc]; exact Int.natCast_nonneg _
    have hc1 : c ≤ 2147483647 := by have := decode_le s p; rw [hc]; omega
    have hn1 : 1 ≤ n := by rw [hn]; exact decode_pos s p hlt
    have hnle : p + n ≤ s.size := by rw [hn]; exact decode_fits s p hlt
    have HCc := Lib.hid hc
    have HN := Lib.hid hn
    clear hc hn
    by_cases hc : c = 65533
    · have hcb : (c == 65533) = true := beq_iff_eq.2 hc
      have HCN := Lib.hid hc
      clear hc
      by_cases h3 : s.size - p < 3
      · have h3b : decide ((s.size : Int) - (p : Int) < 3) = true := decide_eq_true (by omega)
        have HBad : Hid (badAt s p = true) := Lib.hid (by rw [badAt_eq s p c HCc.out]; simp [HCN.out, h3])
        have HI1 := Lib.hid (HI.out l wr (p + n) p HK.out HIl.out)
        go_wp2
        go_ret
        rw [HC.out, charsFrom_stop (fun h => by rw [HBad.out] at h; exact absurd h.2 (by simp))]
        exact ⟨rfl, by simpa using HI1.out⟩
      · have h3b : decide ((s.size : Int) - (p : Int) < 3) = false := decide_eq_false (by omega)
        have h3n : decide (s.size - p < 3) = false := decide_eq_false h3
        have hsl : ∀ W, (Instr.slice 9 (.string s) (some (.int .i64 (p : Int))) (some (.int .i64 ((p : Int) + 3))) none).run Tryz.prog W = .ok (.string (s.extract p (p + 3))) W := fun W => by
         rw [run_slice_string (P := Tryz.prog) W 9 s .i64 .i64 (p : Int) ((p : Int) + 3) Tryz.underlying9 (by omega) (by omega) (by omega)]
         rw [Int.toNat_natCast, show ((p : Int) + 3).toNat = p + 3 by omega]
        by_cases h4 : (s.extract p (p + 3)).toList = (Utf8.encode c).toList
        · have h4b : ((s.extract p (p + 3)).toList == (Utf8.encode c).toList) = true := by simp [h4]
          clear h4
          have HBad : Hid (badAt s p = false) := Lib.hid (by rw [badAt_eq s p c HCc.out]; simp only [bne, h4b, h3n]; simp)
          go_wp2_with fail
          refine (HS.out l c (wr.iterAt w.heap.size s (p + n)) hc0 hc1 (by omega) (HI.out l wr (p + n) p HK.out HIl.out)).mono ?_
          rintro e w1 ⟨rfl, hi1, hi2⟩
          have HI1 := Lib.hid hi1
          have HK1 := Lib.hid (hi2 _ (Lib.iterAt_heap wr w.heap.size s p (p + n) HK.out))
          clear hi1 hi2
          go_wp2
          go_roundw
          case rel => exact utf_round HN.out HCc.out hlt HBad.out HC.out hk hnle hlen HK1 HI1
          case measure => exact utf_measure HK.out HK1.out hlt hn1
        · have h4b : ((s.extract p (p + 3)).toList == (Utf8.encode c).toList) = false := by simp [h4]
          clear h4
          have HBad : Hid (badAt s p = true) := Lib.hid (by rw [badAt_eq s p c HCc.out]; simp only [bne, h4b, hcb]; simp)
          have HI1 := Lib.hid (HI.out l wr (p + n) p HK.out HIl.out)
          go_wp2
          go_ret
          rw [HC.out, charsFrom_stop (fun h => by rw [HBad.out] at h; exact absurd h.2 (by simp))]
          exact ⟨rfl, by simpa using HI1.out⟩
    · have hcb : (c == 65533) = false := beq_eq_false_iff_ne.2 hc
      have HCN := Lib.hid hc
      clear hc
      have HBad : Hid (badAt s p = false) := Lib.hid (by rw [badAt_eq s p c HCc.out]; simp [HCN.out])
      go_wp2_with fail
      refine (HS.out l c (wr.iterAt w.heap.size s (p + n)) hc0 hc1 (by omega) (HI.out l wr (p + n) p HK.out HIl.out)).mono ?_
      rintro e w1 ⟨rfl, hi1, hi2⟩
      have HI1 := Lib.hid hi1
      have HK1 := Lib.hid (hi2 _ (Lib.iterAt_heap wr w.heap.size s p (p + n) HK.out))
      clear hi1 hi2
      go_wp2
      go_roundw
      case rel => exact utf_round HN.out HCc.out hlt HBad.out HC.out hk hnle hlen HK1 HI1
      case measure => exact utf_measure HK.out HK1.out hlt hn1
  · have hnx : ∀ ty, (Instr.next (.pointer (some ⟨w.heap.size, 0, none⟩)) true ty).run Tryz.prog wr = _ := fun ty => Lib.run_next_end_at wr w.heap.size s p ty HK.out hlt
    go_wp2
    go_ret
    rw [HC.out, charsFrom_stop (fun h => hlt h.1)]
    simp
    refine ⟨?_, HIl.out⟩
    omega
def utf_Bad.f (s : ByteArray) : Option Int := if s.size ≤ 1099511627776 then some ((charsFrom s s.size 0).2 : Int) else none
set_option maxHeartbeats 400000 in
theorem utf_Bad1.calls (c : Int) (w : World) : Calls Tryz.prog 174 (#[.int .i64 c] ++ #[]) w fun e w' => e = .returned (.tuple #[]) ∧ w = w' := by
 show Calls Tryz.prog 174 #[.int .i64 c] w _
 go_enter Tryz.func174, Tryz.ntmps174
 go_wp2
 go_end0
 exact ⟨rfl, rfl⟩
theorem utf_Bad.calls (s : ByteArray) (r : Int) (w : World) (h : utf_Bad.f s = some r) :
 Calls Tryz.prog 162 #[.string s] w fun e w' => e = .returned (.int .i64 r) ∧ Below w.heap.size w w' := by
 unfold utf_Bad.f at h
 split at h
 · rename_i hs
   injection h with h
   have HR := Lib.hid h
   clear h
   go_enter Tryz.func162, Tryz.ntmps162
   go_wp2_with fail
   refine (utf_each 174 #[] (enters_fn Tryz.func174 (by kernel_rfl) rfl) s (by omega) (fun _ W => Below w.heap.size w W) w ((Below.refl _ _).alloc (Nat.le_refl _) _) (fun l W p _ _ hb => Lib.below_iterAt hb (Nat.le_refl _) _ _) ?_).mono ?_
   · intro l c W _ _ _ hI
     refine (utf_Bad1.calls c W).mono ?_
     rintro e w' ⟨rfl, rfl⟩
     exact ⟨rfl, hI, fun p hp => hp⟩
   · rintro e w' ⟨rfl, hb⟩
     go_wp2
     go_ret
     rw [HR.out]
     exact ⟨rfl, hb⟩
 · cases h
def notB (B k : Nat) : Prop := k ≠ B
structure LBox (B : Nat) (w W : World) (l : List Int) (v : Value) : Prop where
 box : W.heap[B]? = some (.cells #[v] 149 (0, 0))
 row : (Kd.int .i64).R 3 W B (notB B) v l
 b : Below B w W
theorem infoInt : (Tryz.prog.info? 3).map (fun i => (i.zero, i.size, i.bytes)) = some (some (.int .i64 0), 1, 8) := by kernel_rfl
set_option maxRecDepth 100000 in
set_option maxHeartbeats 400000 in
theorem utf_Chars1.calls (B : Nat) (w W : World) (l : List Int) (v : Value) (c : Int) (hl : l.length < 1099511627776) (H : LBox B w W l v) :
 Calls Tryz.prog 177 (#[.int .i64 c] ++ #[.pointer (some ⟨B, 0, none⟩)]) W fun e W' => e = .returned (.tuple #[]) ∧ (∃ v', LBox B w W' (l ++ [c]) v') ∧ ∀ (D : Nat) (s : ByteArray) (p : Nat), W.heap[D]? = some (Obj.stringIter s p) → W'.heap[D]? = some (Obj.stringIter s p) := by
 have hc := cell_of_one H.box
 have hf := free_of_one H.box
 have HH := Lib.hid H
 clear H
 show Calls Tryz.prog 177 #[.int .i64 c, .pointer (some ⟨B, 0, none⟩)] W _
 go_enter Tryz.func177, Tryz.ntmps177
 go_wp2_with (at_builtin; go_must (refine Kd.R_append (Kd.int .i64) (w0 := w) B rfl _ _ 149 3 (.int .i64 0) 8 rfl Tryz.underlying149 infoInt rfl (by decide) (by decide) v l c [.int .i64 c] (notB B) (fun k => notB B k ∧ some k ≠ v.ownBlock) rfl rfl rfl (fun _ h => h) ?hfr HH.out.row HH.out.b (Nat.le_of_lt (lt_of_block HH.out.box)) (by omega) ?_))
 case hfr => exact fun k hk => by have := lt_of_block HH.out.box; unfold notB; omega
 intro v1 w1 HR HB hg hat
 have hbox : w1.heap[B]? = some (.cells #[v] 149 (0, 0)) := (hg.block B (lt_of_block HH.out.box) (fun e => HH.out.row.1 B e.symm rfl)).trans HH.out.box
 have HD := Lib.hid (show ∀ (D : Nat) (s : ByteArray) (p : Nat), W.heap[D]? = some (Obj.stringIter s p) → w1.heap[D]? = some (Obj.stringIter s p) from fun D s p h => (hg.block D (lt_of_block h) (fun e => by
  obtain ⟨cells, hcc⟩ := Kd.R_typed HH.out.row D e.symm
  rw [hcc] at h
  cases h)).trans h)
 have HX := Lib.hid hbox
 have hc1 := cell_of_one hbox
 have hf1 := free_of_one hbox
 obtain ⟨A1, c1, rfl⟩ := Kd.R_slice HR
 rw [List.length_append, List.length_singleton] at HR
 have HRR := Lib.hid HR
 have HBB := Lib.hid HB
 clear HR HB hg hat hc hf hbox
 go_wp2
 go_end0
 refine ⟨rfl, ⟨_, one_setCell HX.out, Kd.R_far (p := ⟨B, 0, none⟩) HRR.out (fun k hk => hk) _, HBB.out.setCell (Nat.le_refl _) _⟩, fun D s p h => ?_⟩
 rw [Below.heap_setCell _ _ _ _ (fun e => ?_)]
 · exact HD.out D s p h
 · have h1 := HH.out.box
   have h2 : D = B := e
   rw [← h2, h] at h1
   cases h1
def utf_Chars.f (s : ByteArray) : Option (List Int × Bool) :=
 if s.size ≤ 1099511627776 then some (if (charsFrom s s.size 0).2 < s.size then ([], false) else ((charsFrom s s.size 0).1, true)) else none
set_option maxRecDepth 100000 in
set_option maxHeartbeats 400000 in
theorem utf_Chars.calls (s : ByteArray) (r1 : List Int) (r2 : Bool) (w : World) (h : utf_Chars.f s = some (r1, r2)) :
 Calls Tryz.prog 166 #[.string s] w fun e w' => ∃ v0_ : Value, e = .returned (.tuple #[v0_, .bool r2]) ∧ (Kd.int .i64).R 3 w' w.heap.size (fun _ => True) v0_ r1 ∧ Below w.heap.size w w' := by
 unfold utf_Chars.f at h
 split at h
 · rename_i hs
   injection h with h
   have HR := Lib.hid h
   clear h
   go_enter Tryz.func166, Tryz.ntmps166
   go_wp2_with fail
   refine (utf_each 177 _ (enters_fn Tryz.func177 (by kernel_rfl) rfl) s (by omega) (fun l W => ∃ v, LBox w.heap.size w W l v) _ ?h0 ?hI ?hstep).mono ?_
   case h0 => exact ⟨_, (heap_alloc_old _ _ (by simp)).trans (heap_alloc_new w _), Kd.R_nil _ _ _ _ _, ((Below.refl _ _).alloc (Nat.le_refl _) _).alloc (by simp) _⟩
   case hI =>
    rintro l W p q hq ⟨v, h⟩
    refine ⟨v, (Lib.iterAt_other _ _ _ _ _ (by simp)).trans h.box, Kd.R_mono (Kd.R_move (Kd.R_bound h.row) (fun k hk => Lib.iterAt_other _ _ _ _ _ (fun e => ?_))) (fun k hk => hk.1), Lib.below_iterAt h.b (by simp) _ _⟩
    obtain ⟨_, _, _, _, _, cells, hcc⟩ := hk
    rw [e, hq] at hcc
    cases hcc
   case hstep =>
    rintro l c W _ _ hl ⟨v, h⟩
    refine (utf_Chars1.calls w.heap.size w W l v c (by omega) h).mono ?_
    rintro e W' ⟨rfl, hv, hk⟩
    exact ⟨rfl, hv, fun p hp => hk _ _ p hp⟩
   rintro e w1 ⟨rfl, v, hb⟩
   obtain ⟨n, hn⟩ : ∃ n, n = (charsFrom s s.size 0).2 := ⟨_, rfl⟩
   obtain ⟨l, hl⟩ : ∃ l, l = (charsFrom s s.size 0).1 := ⟨_, rfl⟩
   rw [← hl] at hb
   rw [← hn, ← hl] at HR
   rw [← hn]
   clear hn hl
   by_cases hlt : n < s.size
   · rw [if_pos hlt] at HR
     have hd : decide (n < s.size) = true := decide_eq_true hlt
     have HB := Lib.hid hb
     clear hb
     go_wp2
     go_ret2
     have := HR.out
     simp only [Prod.mk.injEq] at this
     obtain ⟨rfl, rfl⟩ := this
     exact ⟨_, rfl, Kd.R_nil _ _ _ _ _, HB.out.b⟩
   · rw [if_neg hlt] at HR
     have hd : decide (n < s.size) = false := decide_eq_false hlt
     have hc := cell_of_one hb.box
     have HB := Lib.hid hb
     clear hb
     go_wp2
     go_ret2
     have := HR.out
     simp only [Prod.mk.injEq] at this
     obtain ⟨rfl, rfl⟩ := this
     exact ⟨_, rfl, Kd.R_mono HB.out.row (fun _ _ => trivial), HB.out.b⟩
 · cases h
def prefPos (s : ByteArray) (most : Int) : Nat → Nat → Int → Nat
 | 0, p, _ => p
 | k + 1, p, n => if p < s.size then (if n ≥ most then p else prefPos s most k (p + (Utf8.decode s p).2) (n + 1)) else s.size
def utf_Prefix.f (s : ByteArray) (most : Int) : Option ByteArray :=
 if s.size ≤ 1099511627776 then some ((s.extract 0 (charsFrom s s.size 0).2).extract 0 (prefPos (s.extract 0 (charsFrom s s.size 0).2) most ((s.extract 0 (charsFrom s s.size 0).2).size + 1) 0 0)) else none
theorem charsFrom_le (s : ByteArray) : ∀ k p, p ≤ s.size → (charsFrom s k p).2 ≤ s.size
 | 0, p, h => h
 | k + 1, p, h => by
  by_cases hs : p < s.size ∧ badAt s p = false
  · rw [charsFrom_step hs.1 hs.2]
    exact charsFrom_le s k _ (decode_fits s p hs.1)
  · rw [charsFrom_stop hs]; exact h
set_option maxRecDepth 100000 in
set_option maxHeartbeats 400000 in
theorem utf_Prefix.calls (s : ByteArray) (most : Int) (r : ByteArray) (w : World) (h : utf_Prefix.f s most = some r) :
 Calls Tryz.prog 138 #[.string s, .int .i64 most] w fun e w' => e = .returned (.string r) ∧ Below w.heap.size w w' := by
 unfold utf_Prefix.f at h
 split at h
 · rename_i hs
   injection h with h
   obtain ⟨n, hn⟩ : ∃ n, n = (charsFrom s s.size 0).2 := ⟨_, rfl⟩
   have hns : n ≤ s.size := by rw [hn]; exact charsFrom_le s _ _ (Nat.zero_le _)
   have HB0 : utf_Bad.f s = some (n : Int) := by rw [utf_Bad.f, if_pos hs, hn]
   rw [← hn] at h
   obtain ⟨u, hu⟩ : ∃ u, u = s.extract 0 n := ⟨_, rfl⟩
   have husz : u.size ≤ 1099511627776 := by rw [hu]; simp; omega
   have HU := Lib.hid hu
   rw [← hu] at h
   have HR := Lib.hid h
   have HB1 := Lib.hid HB0
   clear h hn HB0 hu
   have hsl : ∀ W, (Instr.slice 9 (.string s) none (some (.int .i64 (n : Int))) none).run Tryz.prog W = .ok (.string u) W := fun W => by
    rw [run_slice_string_h (P := Tryz.prog) W 9 s Tryz.underlying9 .i64 (n : Int) (by omega) (by omega), HU.out]
    rfl
   go_enter Tryz.func138, Tryz.ntmps138
   go_wp2_with fail
   refine (utf_Bad.calls s _ _ HB1.out).mono ?_
   rintro e w1 ⟨rfl, hb⟩
   have HB := Lib.hid hb
   clear hb
   go_wp2
   go_loopw [5, 6] (fun c _ wr => ∃ (k p m : Nat), wr = w1.iter u p ∧ c = .int .i64 (m : Int) ∧ m ≤ p ∧ p ≤ u.size ∧ u.size < p + k ∧ Hid (prefPos u most k p (m : Int) = prefPos u most (u.size + 1) 0 0)) (fun _ _ wr => u.size - wr.iterPos w1.heap.size)
   case atStart => exact ⟨u.size + 1, 0, 0, rfl, rfl, by omega, by omega, by omega, Lib.hid rfl⟩
   case round =>
    obtain ⟨k, p, m, rfl, rfl, hm, hp, hk, HP⟩ := hrel
    by_cases hlt : p < u.size
    · have hnx : ∀ ty, (Instr.next (.pointer (some ⟨w1.heap.size, 0, none⟩)) true ty).run Tryz.prog (w1.iter u p) = _ := fun ty => run_next_any w1 u p ty hlt
      obtain ⟨q, hq⟩ : ∃ q, q = (Utf8.decode u p).2 := ⟨_, rfl⟩
      obtain ⟨c, hc⟩ : ∃ c : Int, c = ((Utf8.decode u p).1 : Int) := ⟨_, rfl⟩
      rw [← hc, ← hq] at hnx
      have hq1 : 1 ≤ q := by rw [hq]; exact decode_pos u p hlt
      have hqle : p + q ≤ u.size := by rw [hq]; exact decode_fits u p hlt
      have HQ := Lib.hid hq
      clear hc hq
      cases k with
      | zero => omega
      | succ k =>
       have HP1 := HP.out
       rw [prefPos, if_pos hlt] at HP1
       by_cases hge : (m : Int) ≥ most
       · rw [if_pos hge] at HP1
         have hgb : decide (most ≤ (m : Int)) = true := decide_eq_true hge
         have HPP := Lib.hid HP1
         clear HP1 hge HP
         have hsl2 : ∀ W, (Instr.slice 9 (.string u) none (some (.int .i64 (p : Int))) none).run Tryz.prog W = .ok (.string (u.extract 0 p)) W := fun W => by
          rw [run_slice_string_h (P := Tryz.prog) W 9 u Tryz.underlying9 .i64 (p : Int) (by omega) (by omega)]
          rfl
         go_wp2
         go_ret
         refine ⟨?_, ?_⟩
         · show Ending.returned (.string (u.extract 0 p)) = _; rw [← HR.out, ← HPP.out]
         · exact HB.out.alloc HB.out.size _
       · rw [if_neg hge] at HP1
         have hgb : decide (most ≤ (m : Int)) = false := decide_eq_false hge
         have HPP := Lib.hid HP1
         clear HP1 hge HP
         go_wp2
         go_roundw
         case rel => exact ⟨k, p + q, m + 1, rfl, by go_num, by omega, hqle, by omega, Lib.hid (by rw [← HPP.out, HQ.out]; rfl)⟩
         case measure => simp; omega
    · have hnx : ∀ ty, (Instr.next (.pointer (some ⟨w1.heap.size, 0, none⟩)) true ty).run Tryz.prog (w1.iter u p) = _ := fun ty => run_next_end w1 u p ty hlt
      cases k with
      | zero => omega
      | succ k =>
       have HP1 := HP.out
       rw [prefPos, if_neg hlt] at HP1
       have HPP := Lib.hid HP1
       clear HP1 HP
       go_wp2
       go_ret
       refine ⟨?_, ?_⟩
       · show Ending.returned (.string u) = _; rw [← HR.out, ← HPP.out, ByteArray.extract_zero_size]
       · exact HB.out.alloc HB.out.size _
 · cases h
end Go.Proofs.YtlocbpaikdgmbaaGreatDoor.P
end
section
namespace Go.Proofs.YtlocbpaikdgmbaaGreatDoor.P
open Go.RowKit Go.Proofs.YtlocbpaikdgmbaaGreatDoorW.PrintWords Go.Proofs.YtlocbpaikdgmbaaGreatDoorW.PrintLast Go.Proofs.YtlocbpaikdgmbaaGreatDoorW.PrintMore
attribute [local go_sem] max2_int min2_int max_two min_two max_three min_three max_four min_four
set_option linter.unusedVariables false
set_option linter.unusedSimpArgs false
def utf_Valid.f (a0 : ByteArray) : Option (Bool) := (utf_Bad.f a0).bind fun t694 => (some (t694 == (a0.size : Int)))
set_option maxHeartbeats 8000000 in
set_option maxRecDepth 100000 in
theorem utf_Valid.calls (a0 : ByteArray) (r : Bool) (w : World) (h : utf_Valid.f a0 = some r) :
 Calls Tryz.prog 137 #[.string a0] w fun e w' => e = .returned (.bool r) ∧ Below w.heap.size w w' := by
 have HB := Aside0.mk (Below.refl w.heap.size w)
 have H : ((utf_Bad.f a0).bind fun t694 => (some (t694 == (a0.size : Int)))) = some r := h
 clear h
 replace H := Option.bind_eq_some_iff.mp H
 obtain ⟨t694, A20, H⟩ := H
 replace H : (some (t694 == (a0.size : Int))) = some r := H
 have A2 := Aside0.mk A20
 clear A20
 obtain rfl := Option.some.inj H
 go_enter Tryz.func137, Tryz.ntmps137
 go_wp2_with (first | ((with_reducible refine gate_callee (f := 162) rfl ?_); refine goesL_ (some 4) rfl rfl Tryz.func162 (by kernel_rfl) rfl #[.string a0] rfl (by (try simp only [List.map_toArray, List.map_cons, List.map_nil]); first | done | rfl | (simp only [List.length_drop, List.length_take]; rfl)) ?_; (with_reducible refine (utf_Bad.calls a0 t694 _ A2.out).mono ?_); rintro e w3 ⟨rfl, hb⟩; refine ⟨_, rfl, ?_⟩; have n0_ := Aside0.mk (below_step (by repeat (first | (with_reducible first | exact HB.out | apply below_alloc | apply pw_below_drewN | apply below_drew1) | exact HB.out)) hb); clear HB; have HB := n0_; clear n0_; (try clear hb); (try clear hb2); (try clear hk); (try clear hi)))
 go_ret
 exact ⟨by first | rfl | (simp [errW_none, errW_some] <;> rfl) | (simp [*, errW_none, errW_some] <;> rfl), by repeat (first | (with_reducible first | exact HB.out | apply below_alloc | apply pw_below_drewN | apply below_drew1) | exact HB.out)⟩
end Go.Proofs.YtlocbpaikdgmbaaGreatDoor.P
end
section
namespace Go.Proofs.YtlocbpaikdgmbaaGreatDoor.P
open Go.RowKit Go.Proofs.YtlocbpaikdgmbaaGreatDoorW.PrintWords Go.Proofs.YtlocbpaikdgmbaaGreatDoorW.PrintLast Go.Proofs.YtlocbpaikdgmbaaGreatDoorW.PrintMore
set_option linter.unusedVariables false
set_option linter.unusedSimpArgs false
def validB (s : ByteArray) : Bool := (((charsFrom s s.size 0).2 : Int) == (s.size : Int))
theorem validB_f {s : ByteArray} (h : s.size ≤ 1099511627776) : utf_Valid.f s = some (validB s) := by
 unfold utf_Valid.f utf_Bad.f
 rw [if_pos h]
 rfl
def firstBadS : List ByteArray → Nat → Int
 | [], _ => -1
 | v :: r, i => if validB v = true then firstBadS r (i + 1) else (i : Int)
theorem firstBadS_iff : ∀ (l : List ByteArray) (i : Nat), firstBadS l i ≥ 0 ↔ l.all validB = false
 | [], i => by simp [firstBadS]
 | v :: r, i => by
  simp only [firstBadS, List.all_cons]
  by_cases h : validB v = true
  · rw [if_pos h, h, Bool.true_and]
    exact firstBadS_iff r (i + 1)
  · rw [if_neg h, Bool.eq_false_iff.2 h, Bool.false_and]
    simp
theorem value_Valid1.calls (s : ByteArray) (r : Bool) (w : World) (hs : s.size ≤ 1099511627776) (h : validB s = r) :
 Calls Tryz.prog 136 #[.string s] w fun e w' => e = .returned (.bool (!r)) ∧ Below w.heap.size w w' := by
 have HS := Lib.hid (show utf_Valid.f s = some r by rw [validB_f hs, h])
 clear h
 go_enter Tryz.func136, Tryz.ntmps136
 go_wp2_with (go_at_call 137; refine (utf_Valid.calls s r _ HS.out).mono ?_; rintro e w' ⟨rfl, hb⟩)
 go_ret
 exact ⟨rfl, hb⟩
set_option maxHeartbeats 1000000 in
theorem slices_IndexFuncS.calls (A : Option Addr) (c : Nat) (l : List ByteArray) (w : World) (hC : Kd.C Kd.string w A l.length l) (hc : l.length ≤ c) (hl : l.length ≤ 1099511627776) (hg : ∀ v ∈ l, v.size ≤ 1099511627776) :
 Calls Tryz.prog 161 #[.slice A l.length c, .func (.func 136) #[] #[]] w fun e w' => e = .returned (.int .i64 (firstBadS l 0)) ∧ Below w.heap.size w w' := by
 have HC := Lib.hid hC
 have HG := Lib.hid hg
 have HCc := Lib.hid hc
 clear hC hg hc
 obtain ⟨R, hR⟩ : ∃ R, R = firstBadS l 0 := ⟨_, rfl⟩
 have HR := Lib.hid hR
 rw [← hR]
 clear hR
 go_enter Tryz.func161, Tryz.ntmps161
 go_wp2
 go_loopw [5, 8] (fun _ i wr => ∃ k : Nat, k ≤ l.length ∧ i = .int .i64 k ∧ Hid (firstBadS (l.drop k) k = R) ∧ Hid (Below w.heap.size w wr)) (fun _ i _ => l.length - (intOf i).toNat)
 case atStart => exact ⟨0, Nat.zero_le _, rfl, Lib.hid HR.out.symm, Lib.hid (Below.refl _ _)⟩
 case round =>
  obtain ⟨k, hk, rfl, HF, HB⟩ := hrel
  by_cases hlt : k < l.length
  · have hltz : (k : Int) < (l.length : Int) := by omega
    obtain ⟨ad, hA, x0⟩ := Kd.at_string (Kd.C_below HC.out HB.out) (k : Int) (by omega) hltz
    subst hA
    have hd : ∃ y, rdOf ByteArray.empty l (k : Int) = y ∧ l.drop k = y :: l.drop (k + 1) ∧ y ∈ l := by
     refine ⟨l[k], ?_, List.drop_eq_getElem_cons hlt, List.getElem_mem hlt⟩
     unfold rdOf
     rw [Int.toNat_natCast, List.getD_eq_getElem?_getD, List.getElem?_eq_getElem hlt]
     rfl
    obtain ⟨y, hy, hdr, hmem⟩ := hd
    rw [hy] at x0
    simp only [Int.toNat_natCast] at x0
    have HF1 := HF.out
    rw [hdr] at HF1
    simp only [firstBadS] at HF1
    have HGy := Lib.hid (HG.out y hmem)
    clear hy hdr hmem HF
    cases hgood : validB y with
    | true =>
     have HV := Lib.hid hgood
     rw [hgood] at HF1
     have HF2 := Lib.hid HF1
     clear HF1 hgood
     go_wp2_with (refine (value_Valid1.calls y true _ HGy.out HV.out).mono ?_; rintro e w' ⟨rfl, hb⟩)
     have HF3 := Lib.hid (show firstBadS (l.drop (k + 1)) (k + 1) = R by have := HF2.out; simpa using this)
     clear HF2
     have HB3 := Lib.hid (below_step HB.out hb)
     clear HB hb
     go_roundw
     case rel => exact ⟨k + 1, hlt, by go_num, HF3, HB3⟩
     case measure => simp [intOf]; omega
    | false =>
     have HV := Lib.hid hgood
     rw [hgood] at HF1
     have HF2 := Lib.hid HF1
     clear HF1 hgood
     go_wp2_with (refine (value_Valid1.calls y false _ HGy.out HV.out).mono ?_; rintro e w' ⟨rfl, hb⟩)
     have hk3 : (k : Int) = R := by have := HF2.out; simpa using this
     have HB3 := Lib.hid (below_step HB.out hb)
     clear HF2 HB hb
     subst hk3
     go_ret
     exact ⟨rfl, HB3.out⟩
  · have hk2 : k = l.length := by omega
    subst hk2
    have hR : (-1 : Int) = R := by
     have := HF.out
     rw [List.drop_eq_nil_of_le (Nat.le_refl _)] at this
     exact this
    clear HF
    subst hR
    go_wp2
    go_ret
    exact ⟨rfl, HB.out⟩
theorem slices_ContainsFuncS.calls (A : Option Addr) (c : Nat) (l : List ByteArray) (w : World) (hC : Kd.C Kd.string w A l.length l) (hc : l.length ≤ c) (hl : l.length ≤ 1099511627776) (hg : ∀ v ∈ l, v.size ≤ 1099511627776) :
 Calls Tryz.prog 135 #[.slice A l.length c, .func (.func 136) #[] #[]] w fun e w' => e = .returned (.bool (!(l.all validB))) ∧ Below w.heap.size w w' := by
 have hcon := slices_IndexFuncS.calls A c l w hC hc hl hg
 have hiff : decide (firstBadS l 0 ≥ 0) = !(l.all validB) := by
  cases h : l.all validB with
  | false => exact decide_eq_true ((firstBadS_iff l 0).2 h)
  | true => exact decide_eq_false fun g => by rw [(firstBadS_iff l 0).1 g] at h; cases h
 have HI := Lib.hid hiff
 clear hiff hC hc hg
 generalize firstBadS l 0 = R at hcon HI
 generalize (!(l.all validB)) = B at HI ⊢
 go_enter Tryz.func135, Tryz.ntmps135
 go_wp2_with (refine hcon.mono ?_; rintro e w' ⟨rfl, hb⟩)
 go_ret
 exact ⟨by rw [← HI.out]; rfl, hb⟩
def value_Valid.f (k : Nat) (a0 : Int) (a1 : ByteArray) (a2 : List ByteArray) (a3 : List S154) : Option Bool :=
 (value_Texts.f k a0 a1 a2 a3).bind fun l => if l.length ≤ 1099511627776 ∧ (l.all fun v => decide (v.size ≤ 1099511627776)) = true then some (l.all validB) else none
set_option maxHeartbeats 1000000 in
theorem value_Valid.calls (k : Nat) (a0_0 : Int) (a0_1 : ByteArray) (A0_2 : Option Addr) (c0_2 : Nat) (l0_2 : List ByteArray) (A0_3 : Option Addr) (c0_3 : Nat) (l0_3 : List S154) (r : Bool) (w : World) (hr0_2 : Kd.C Kd.string w A0_2 l0_2.length l0_2) (hc0_2 : l0_2.length ≤ c0_2) (hr0_3 : Kd.C k154 w A0_3 l0_3.length l0_3) (hc0_3 : l0_3.length ≤ c0_3) (h : value_Valid.f k a0_0 a0_1 l0_2 l0_3 = some r) :
 Calls Tryz.prog 109 #[.agg #[.int .i64 a0_0, .string a0_1, .slice A0_2 l0_2.length c0_2, .slice A0_3 l0_3.length c0_3]] w fun e w' => e = .returned (.bool r) ∧ Below w.heap.size w w' := by
 unfold value_Valid.f at h
 obtain ⟨l, hl, h⟩ := Option.bind_eq_some_iff.1 h
 split at h
 case isFalse => cases h
 rename_i hb
 injection h with h
 obtain ⟨hb1, hb2⟩ := hb
 have HT := Lib.hid hl
 have H2 := Lib.hid hr0_2
 have H3 := Lib.hid hr0_3
 have K2 := Lib.hid hc0_2
 have K3 := Lib.hid hc0_3
 have HV : Hid (∀ v ∈ l, v.size ≤ 1099511627776) := Lib.hid fun v hv => of_decide_eq_true (List.all_eq_true.1 hb2 v hv)
 have HR := Lib.hid h
 clear h hl hr0_2 hr0_3 hc0_2 hc0_3 hb2
 go_enter Tryz.func109, Tryz.ntmps109
 go_wp2_with (first | (refine (value_Texts.calls k a0_0 a0_1 A0_2 c0_2 l0_2 A0_3 c0_3 l0_3 l _ (Kd.C_below H2.out (below_alloc (Below.refl _ _) _)) K2.out (Kd.C_below H3.out (below_alloc (Below.refl _ _) _)) K3.out HT.out).mono ?_; rintro e w2 ⟨v0, rfl, hrow, hb⟩; obtain ⟨A, c, rfl, hlc, hC⟩ := Kd.R_reads hrow; have HC := Lib.hid hC; have HL := Lib.hid hlc; have HB := Lib.hid (below_step (below_alloc (Below.refl _ _) _) hb); clear hrow hC hlc hb) | (refine (slices_ContainsFuncS.calls A c l _ HC.out HL.out hb1 HV.out).mono ?_; rintro e w3 ⟨rfl, hb3⟩; have HB3 := Lib.hid (below_step HB.out hb3); clear hb3))
 go_ret
 refine ⟨?_, HB3.out⟩
 rw [← HR.out]
 simp
end Go.Proofs.YtlocbpaikdgmbaaGreatDoor.P
end
section
namespace Go.Proofs.YtlocbpaikdgmbaaGreatDoor.P
open Go.RowKit Go.Proofs.YtlocbpaikdgmbaaGreatDoorW.PrintWords Go.Proofs.YtlocbpaikdgmbaaGreatDoorW.PrintLast Go.Proofs.YtlocbpaikdgmbaaGreatDoorW.PrintMore
attribute [local go_sem] max2_int min2_int max_two min_two max_three min_three max_four min_four
set_option linter.unusedVariables false
set_option linter.unusedSimpArgs false
def vname_End.f (a0 : ByteArray) : Option (Int) := (vname_ends.f a0).bind fun bt652 => (some bt652.2)
set_option maxHeartbeats 8000000 in
set_option maxRecDepth 100000 in
theorem vname_End.calls (a0 : ByteArray) (r : Int) (w : World) (h : vname_End.f a0 = some r) :
 Calls Tryz.prog 156 #[.string a0] w fun e w' => e = .returned (.int .i64 r) ∧ Below w.heap.size w w' := by
 have HB := Aside0.mk (Below.refl w.heap.size w)
 have H : ((vname_ends.f a0).bind fun bt652 => (some bt652.2)) = some r := h
 clear h
 replace H := Option.bind_eq_some_iff.mp H
 obtain ⟨⟨t652, t653⟩, A20, H⟩ := H
 replace H : (some t653) = some r := H
 have A2 := Aside0.mk A20
 clear A20
 obtain rfl := Option.some.inj H
 go_enter Tryz.func156, Tryz.ntmps156
 go_wp2_with (first | ((with_reducible refine gate_callee (f := 171) rfl ?_); refine goesL_ (some 7) rfl rfl Tryz.func171 (by kernel_rfl) rfl #[.string a0] rfl (by (try simp only [List.map_toArray, List.map_cons, List.map_nil]); first | done | rfl | (simp only [List.length_drop, List.length_take]; rfl)) ?_; (with_reducible refine (vname_ends.calls a0 t652 t653 _ A2.out).mono ?_); rintro e w3 ⟨rfl, hb⟩; refine ⟨_, rfl, ?_⟩; have n0_ := Aside0.mk (below_step (by repeat (first | (with_reducible first | exact HB.out | apply below_alloc | apply pw_below_drewN | apply below_drew1) | exact HB.out)) hb); clear HB; have HB := n0_; clear n0_; (try clear hb); (try clear hb2); (try clear hk); (try clear hi)))
 go_ret
 exact ⟨by first | rfl | (simp [errW_none, errW_some] <;> rfl) | (simp [*, errW_none, errW_some] <;> rfl), by repeat (first | (with_reducible first | exact HB.out | apply below_alloc | apply pw_below_drewN | apply below_drew1) | exact HB.out)⟩
def vname_May.f (a0 : ByteArray) : Option (Bool) := if a0.toList = ([] : List UInt8) then (some false) else ((vname_End.f a0).bind fun t654 => (some (t654 == (a0.size : Int))))
set_option maxHeartbeats 8000000 in
set_option maxRecDepth 100000 in
theorem vname_May.calls (a0 : ByteArray) (r : Bool) (w : World) (h : vname_May.f a0 = some r) :
 Calls Tryz.prog 129 #[.string a0] w fun e w' => e = .returned (.bool r) ∧ Below w.heap.size w w' := by
 have HB := Aside0.mk (Below.refl w.heap.size w)
 have H : (if a0.toList = ([] : List UInt8) then (some false) else ((vname_End.f a0).bind fun t654 => (some (t654 == (a0.size : Int))))) = some r := h
 clear h
 by_cases c2 : a0.toList = ([] : List UInt8)
 · rw [if_pos c2] at H
   have c2b0 : (a0.toList == ([] : List UInt8)) = true := beq_iff_eq.mpr c2
   have c2b1 : (a0.toList != ([] : List UInt8)) = false := bne_eq_false_iff_eq.mpr c2
   clear c2
   obtain rfl := Option.some.inj H
   go_enter Tryz.func129, Tryz.ntmps129
   go_wp2
   go_ret
   exact ⟨by first | rfl | (simp [errW_none, errW_some] <;> rfl) | (simp [*, errW_none, errW_some] <;> rfl), by repeat (first | (with_reducible first | exact HB.out | apply below_alloc | apply pw_below_drewN | apply below_drew1) | exact HB.out)⟩
 · rw [if_neg c2] at H
   have c2b0 : (a0.toList == ([] : List UInt8)) = false := beq_eq_false_iff_ne.mpr c2
   have c2b1 : (a0.toList != ([] : List UInt8)) = true := bne_iff_ne.mpr c2
   replace H := Option.bind_eq_some_iff.mp H
   obtain ⟨t654, A30, H⟩ := H
   replace H : (some (t654 == (a0.size : Int))) = some r := H
   have A3 := Aside0.mk A30
   clear A30
   obtain rfl := Option.some.inj H
   go_enter Tryz.func129, Tryz.ntmps129
   go_wp2_with (first | (go_at_call 156; (with_reducible refine (vname_End.calls a0 t654 _ A3.out).mono ?_); rintro e w4 ⟨rfl, hb⟩; have n0_ := Aside0.mk (below_step (by repeat (first | (with_reducible first | exact HB.out | apply below_alloc | apply pw_below_drewN | apply below_drew1) | exact HB.out)) hb); clear HB; have HB := n0_; clear n0_; (try clear hb); (try clear hb2); (try clear hk); (try clear hi)))
   go_ret
   exact ⟨by first | rfl | (simp [errW_none, errW_some] <;> rfl) | (simp [*, errW_none, errW_some] <;> rfl), by repeat (first | (with_reducible first | exact HB.out | apply below_alloc | apply pw_below_drewN | apply below_drew1) | exact HB.out)⟩
def spec_May.f (a0_0 : ByteArray) (a0_1 : Int) (a0_2 : Bool) : Option (Bool) := (vname_May.f a0_0).bind fun t656 => (if t656 = true then (if a0_1 ≥ 0 then (if a0_1 ≤ 9999 then (if a0_2 = true then (some (!(decide (a0_1 > 0)))) else (some (!false))) else (some false)) else (some false)) else (some false))
set_option maxHeartbeats 8000000 in
set_option maxRecDepth 100000 in
theorem spec_May.calls (a0_0 : ByteArray) (a0_1 : Int) (a0_2 : Bool) (r : Bool) (w : World) (h : spec_May.f a0_0 a0_1 a0_2 = some r) :
 Calls Tryz.prog 104 #[.agg #[.string a0_0, .int .i64 a0_1, .bool a0_2]] w fun e w' => e = .returned (.bool r) ∧ Below w.heap.size w w' := by
 have hu55 := Tryz.underlying55
 have HB := Aside0.mk (Below.refl w.heap.size w)
 have H : ((vname_May.f a0_0).bind fun t656 => (if t656 = true then (if a0_1 ≥ 0 then (if a0_1 ≤ 9999 then (if a0_2 = true then (some (!(decide (a0_1 > 0)))) else (some (!false))) else (some false)) else (some false)) else (some false))) = some r := h
 clear h
 replace H := Option.bind_eq_some_iff.mp H
 obtain ⟨t656, A20, H⟩ := H
 replace H : (if t656 = true then (if a0_1 ≥ 0 then (if a0_1 ≤ 9999 then (if a0_2 = true then (some (!(decide (a0_1 > 0)))) else (some (!false))) else (some false)) else (some false)) else (some false)) = some r := H
 have A2 := Aside0.mk A20
 clear A20
 by_cases c3 : t656 = true
 · subst c3
   have H1 : (if a0_1 ≥ 0 then (if a0_1 ≤ 9999 then (if a0_2 = true then (some (!(decide (a0_1 > 0)))) else (some (!false))) else (some false)) else (some false)) = some r := by rw [if_pos rfl] at H; exact H
   clear H
   have H := H1
   clear H1
   by_cases c4 : a0_1 ≥ 0
   · rw [if_pos c4] at H
     have c4b0 : decide (0 ≤ a0_1) = true := decide_eq_true c4
     clear c4
     by_cases c5 : a0_1 ≤ 9999
     · rw [if_pos c5] at H
       have c5b0 : decide (a0_1 ≤ 9999) = true := decide_eq_true c5
       clear c5
       by_cases c6 : a0_2 = true
       · subst c6
         have H1 : (some (!(decide (a0_1 > 0)))) = some r := by rw [if_pos rfl] at H; exact H
         clear H
         have H := H1
         clear H1
         obtain rfl := Option.some.inj H
         go_enter Tryz.func104, Tryz.ntmps104
         go_wp2_with (first | ((with_reducible refine gate_dst (N := 1) rfl ?_); refine box_event ?hg (N := 1) ?hd (cs := #[.string a0_0, .int .i64 a0_1, .bool true]) (t := 55) ?hr ?_; (case hd => rfl); (case hg => rfl); (case hr => first | (go_simp; done) | (go_simp; rfl)); intro gb655 hg w7 hbox hb; have n0_ := Aside0.mk (below_step (by repeat (first | (with_reducible first | exact HB.out | apply below_alloc | apply pw_below_drewN | apply below_drew1) | exact HB.out)) hb); have n1_ := Aside0.mk (hbox); have n2_ := Aside0.mk ((by rw [hg]; exact (below_size (by repeat (first | (with_reducible first | exact HB.out | apply below_alloc | apply pw_below_drewN | apply below_drew1) | exact HB.out))) : w.heap.size ≤ gb655)); have n3_ := Aside0.mk ((by rw [hg]; exact (below_size (by repeat (first | (with_reducible first | exact HB.out | apply below_alloc | apply pw_below_drewN | apply below_drew1) | exact HB.out))) : w.heap.size ≤ gb655)); clear HB; have HB := n0_; have BK655 := n1_; have GW655 := n2_; have GE655 := n3_; clear n0_ n1_ n2_ n3_; clear hb hbox hg; have hcz8_0 : w7.cell? ⟨gb655, 0, none⟩ = some (.string a0_0) := (blk_cell BK655.out 0).trans rfl; have hcz8_1 : w7.cell? ⟨gb655, 1, none⟩ = some (.int .i64 a0_1) := (blk_cell BK655.out 1).trans rfl; have hcz8_2 : w7.cell? ⟨gb655, 2, none⟩ = some (.bool true) := (blk_cell BK655.out 2).trans rfl; have hfz8_0 := blk_frozen BK655.out 0; have hfz8_1 := blk_frozen BK655.out 1; have hfz8_2 := blk_frozen BK655.out 2) | ((with_reducible refine gate_callee (f := 129) rfl ?_); refine goesL_ (some 5) rfl rfl Tryz.func129 (by kernel_rfl) rfl #[.string a0_0] rfl (by (try simp only [List.map_toArray, List.map_cons, List.map_nil]); first | done | rfl | (simp only [List.length_drop, List.length_take]; rfl)) ?_; (with_reducible refine (vname_May.calls a0_0 true _ A2.out).mono ?_); rintro e w9 ⟨rfl, hb⟩; refine ⟨_, rfl, ?_⟩; have n0_ := Aside0.mk (blk_below (g := gb655) (o := .cells #[.string a0_0, .int .i64 a0_1, .bool true] 55 (0, 0)) (by (with_reducible repeat (first | refine blk_drewN ?_ _ | refine blk_drew ?_ | refine blk_alloc ?_ _)); exact BK655.out) hb); have n1_ := Aside0.mk (below_step (by repeat (first | (with_reducible first | exact HB.out | apply below_alloc | apply pw_below_drewN | apply below_drew1 | refine below_set ?_ GE655.out) | exact HB.out)) hb); clear BK655; clear HB; have BK655 := n0_; have HB := n1_; clear n0_ n1_; (try clear hb); (try clear hb2); (try clear hk); (try clear hi); have hcz10_0 : w9.cell? ⟨gb655, 0, none⟩ = some (.string a0_0) := (blk_cell BK655.out 0).trans rfl; have hcz10_1 : w9.cell? ⟨gb655, 1, none⟩ = some (.int .i64 a0_1) := (blk_cell BK655.out 1).trans rfl; have hcz10_2 : w9.cell? ⟨gb655, 2, none⟩ = some (.bool true) := (blk_cell BK655.out 2).trans rfl; have hfz10_0 := blk_frozen BK655.out 0; have hfz10_1 := blk_frozen BK655.out 1; have hfz10_2 := blk_frozen BK655.out 2))
         go_ret
         exact ⟨by first | rfl | (simp [errW_none, errW_some] <;> rfl) | (simp [*, errW_none, errW_some] <;> rfl), by repeat (first | (with_reducible first | exact HB.out | apply below_alloc | apply pw_below_drewN | apply below_drew1 | refine below_set ?_ GE655.out) | exact HB.out)⟩
       · replace c6 := Bool.eq_false_iff.mpr c6
         subst c6
         have H1 : (some (!false)) = some r := by rw [if_neg (show ¬ (false = true) by decide)] at H; exact H
         clear H
         have H := H1
         clear H1
         obtain rfl := Option.some.inj H
         go_enter Tryz.func104, Tryz.ntmps104
         go_wp2_with (first | ((with_reducible refine gate_dst (N := 1) rfl ?_); refine box_event ?hg (N := 1) ?hd (cs := #[.string a0_0, .int .i64 a0_1, .bool false]) (t := 55) ?hr ?_; (case hd => rfl); (case hg => rfl); (case hr => first | (go_simp; done) | (go_simp; rfl)); intro gb655 hg w11 hbox hb; have n0_ := Aside0.mk (below_step (by repeat (first | (with_reducible first | exact HB.out | apply below_alloc | apply pw_below_drewN | apply below_drew1) | exact HB.out)) hb); have n1_ := Aside0.mk (hbox); have n2_ := Aside0.mk ((by rw [hg]; exact (below_size (by repeat (first | (with_reducible first | exact HB.out | apply below_alloc | apply pw_below_drewN | apply below_drew1) | exact HB.out))) : w.heap.size ≤ gb655)); have n3_ := Aside0.mk ((by rw [hg]; exact (below_size (by repeat (first | (with_reducible first | exact HB.out | apply below_alloc | apply pw_below_drewN | apply below_drew1) | exact HB.out))) : w.heap.size ≤ gb655)); clear HB; have HB := n0_; have BK655 := n1_; have GW655 := n2_; have GE655 := n3_; clear n0_ n1_ n2_ n3_; clear hb hbox hg; have hcz12_0 : w11.cell? ⟨gb655, 0, none⟩ = some (.string a0_0) := (blk_cell BK655.out 0).trans rfl; have hcz12_1 : w11.cell? ⟨gb655, 1, none⟩ = some (.int .i64 a0_1) := (blk_cell BK655.out 1).trans rfl; have hcz12_2 : w11.cell? ⟨gb655, 2, none⟩ = some (.bool false) := (blk_cell BK655.out 2).trans rfl; have hfz12_0 := blk_frozen BK655.out 0; have hfz12_1 := blk_frozen BK655.out 1; have hfz12_2 := blk_frozen BK655.out 2) | ((with_reducible refine gate_callee (f := 129) rfl ?_); refine goesL_ (some 5) rfl rfl Tryz.func129 (by kernel_rfl) rfl #[.string a0_0] rfl (by (try simp only [List.map_toArray, List.map_cons, List.map_nil]); first | done | rfl | (simp only [List.length_drop, List.length_take]; rfl)) ?_; (with_reducible refine (vname_May.calls a0_0 true _ A2.out).mono ?_); rintro e w13 ⟨rfl, hb⟩; refine ⟨_, rfl, ?_⟩; have n0_ := Aside0.mk (blk_below (g := gb655) (o := .cells #[.string a0_0, .int .i64 a0_1, .bool false] 55 (0, 0)) (by (with_reducible repeat (first | refine blk_drewN ?_ _ | refine blk_drew ?_ | refine blk_alloc ?_ _)); exact BK655.out) hb); have n1_ := Aside0.mk (below_step (by repeat (first | (with_reducible first | exact HB.out | apply below_alloc | apply pw_below_drewN | apply below_drew1 | refine below_set ?_ GE655.out) | exact HB.out)) hb); clear BK655; clear HB; have BK655 := n0_; have HB := n1_; clear n0_ n1_; (try clear hb); (try clear hb2); (try clear hk); (try clear hi); have hcz14_0 : w13.cell? ⟨gb655, 0, none⟩ = some (.string a0_0) := (blk_cell BK655.out 0).trans rfl; have hcz14_1 : w13.cell? ⟨gb655, 1, none⟩ = some (.int .i64 a0_1) := (blk_cell BK655.out 1).trans rfl; have hcz14_2 : w13.cell? ⟨gb655, 2, none⟩ = some (.bool false) := (blk_cell BK655.out 2).trans rfl; have hfz14_0 := blk_frozen BK655.out 0; have hfz14_1 := blk_frozen BK655.out 1; have hfz14_2 := blk_frozen BK655.out 2))
         go_ret
         exact ⟨by first | rfl | (simp [errW_none, errW_some] <;> rfl) | (simp [*, errW_none, errW_some] <;> rfl), by repeat (first | (with_reducible first | exact HB.out | apply below_alloc | apply pw_below_drewN | apply below_drew1 | refine below_set ?_ GE655.out) | exact HB.out)⟩
     · rw [if_neg c5] at H
       have c5b0 : decide (a0_1 ≤ 9999) = false := decide_eq_false c5
       clear c5
       obtain rfl := Option.some.inj H
       go_enter Tryz.func104, Tryz.ntmps104
       go_wp2_with (first | ((with_reducible refine gate_dst (N := 1) rfl ?_); refine box_event ?hg (N := 1) ?hd (cs := #[.string a0_0, .int .i64 a0_1, .bool a0_2]) (t := 55) ?hr ?_; (case hd => rfl); (case hg => rfl); (case hr => first | (go_simp; done) | (go_simp; rfl)); intro gb655 hg w15 hbox hb; have n0_ := Aside0.mk (below_step (by repeat (first | (with_reducible first | exact HB.out | apply below_alloc | apply pw_below_drewN | apply below_drew1) | exact HB.out)) hb); have n1_ := Aside0.mk (hbox); have n2_ := Aside0.mk ((by rw [hg]; exact (below_size (by repeat (first | (with_reducible first | exact HB.out | apply below_alloc | apply pw_below_drewN | apply below_drew1) | exact HB.out))) : w.heap.size ≤ gb655)); have n3_ := Aside0.mk ((by rw [hg]; exact (below_size (by repeat (first | (with_reducible first | exact HB.out | apply below_alloc | apply pw_below_drewN | apply below_drew1) | exact HB.out))) : w.heap.size ≤ gb655)); clear HB; have HB := n0_; have BK655 := n1_; have GW655 := n2_; have GE655 := n3_; clear n0_ n1_ n2_ n3_; clear hb hbox hg; have hcz16_0 : w15.cell? ⟨gb655, 0, none⟩ = some (.string a0_0) := (blk_cell BK655.out 0).trans rfl; have hcz16_1 : w15.cell? ⟨gb655, 1, none⟩ = some (.int .i64 a0_1) := (blk_cell BK655.out 1).trans rfl; have hcz16_2 : w15.cell? ⟨gb655, 2, none⟩ = some (.bool a0_2) := (blk_cell BK655.out 2).trans rfl; have hfz16_0 := blk_frozen BK655.out 0; have hfz16_1 := blk_frozen BK655.out 1; have hfz16_2 := blk_frozen BK655.out 2) | ((with_reducible refine gate_callee (f := 129) rfl ?_); refine goesL_ (some 5) rfl rfl Tryz.func129 (by kernel_rfl) rfl #[.string a0_0] rfl (by (try simp only [List.map_toArray, List.map_cons, List.map_nil]); first | done | rfl | (simp only [List.length_drop, List.length_take]; rfl)) ?_; (with_reducible refine (vname_May.calls a0_0 true _ A2.out).mono ?_); rintro e w17 ⟨rfl, hb⟩; refine ⟨_, rfl, ?_⟩; have n0_ := Aside0.mk (blk_below (g := gb655) (o := .cells #[.string a0_0, .int .i64 a0_1, .bool a0_2] 55 (0, 0)) (by (with_reducible repeat (first | refine blk_drewN ?_ _ | refine blk_drew ?_ | refine blk_alloc ?_ _)); exact BK655.out) hb); have n1_ := Aside0.mk (below_step (by repeat (first | (with_reducible first | exact HB.out | apply below_alloc | apply pw_below_drewN | apply below_drew1 | refine below_set ?_ GE655.out) | exact HB.out)) hb); clear BK655; clear HB; have BK655 := n0_; have HB := n1_; clear n0_ n1_; (try clear hb); (try clear hb2); (try clear hk); (try clear hi); have hcz18_0 : w17.cell? ⟨gb655, 0, none⟩ = some (.string a0_0) := (blk_cell BK655.out 0).trans rfl; have hcz18_1 : w17.cell? ⟨gb655, 1, none⟩ = some (.int .i64 a0_1) := (blk_cell BK655.out 1).trans rfl; have hcz18_2 : w17.cell? ⟨gb655, 2, none⟩ = some (.bool a0_2) := (blk_cell BK655.out 2).trans rfl; have hfz18_0 := blk_frozen BK655.out 0; have hfz18_1 := blk_frozen BK655.out 1; have hfz18_2 := blk_frozen BK655.out 2))
       go_ret
       exact ⟨by first | rfl | (simp [errW_none, errW_some] <;> rfl) | (simp [*, errW_none, errW_some] <;> rfl), by repeat (first | (with_reducible first | exact HB.out | apply below_alloc | apply pw_below_drewN | apply below_drew1 | refine below_set ?_ GE655.out) | exact HB.out)⟩
   · rw [if_neg c4] at H
     have c4b0 : decide (0 ≤ a0_1) = false := decide_eq_false c4
     clear c4
     obtain rfl := Option.some.inj H
     go_enter Tryz.func104, Tryz.ntmps104
     go_wp2_with (first | ((with_reducible refine gate_dst (N := 1) rfl ?_); refine box_event ?hg (N := 1) ?hd (cs := #[.string a0_0, .int .i64 a0_1, .bool a0_2]) (t := 55) ?hr ?_; (case hd => rfl); (case hg => rfl); (case hr => first | (go_simp; done) | (go_simp; rfl)); intro gb655 hg w19 hbox hb; have n0_ := Aside0.mk (below_step (by repeat (first | (with_reducible first | exact HB.out | apply below_alloc | apply pw_below_drewN | apply below_drew1) | exact HB.out)) hb); have n1_ := Aside0.mk (hbox); have n2_ := Aside0.mk ((by rw [hg]; exact (below_size (by repeat (first | (with_reducible first | exact HB.out | apply below_alloc | apply pw_below_drewN | apply below_drew1) | exact HB.out))) : w.heap.size ≤ gb655)); have n3_ := Aside0.mk ((by rw [hg]; exact (below_size (by repeat (first | (with_reducible first | exact HB.out | apply below_alloc | apply pw_below_drewN | apply below_drew1) | exact HB.out))) : w.heap.size ≤ gb655)); clear HB; have HB := n0_; have BK655 := n1_; have GW655 := n2_; have GE655 := n3_; clear n0_ n1_ n2_ n3_; clear hb hbox hg; have hcz20_0 : w19.cell? ⟨gb655, 0, none⟩ = some (.string a0_0) := (blk_cell BK655.out 0).trans rfl; have hcz20_1 : w19.cell? ⟨gb655, 1, none⟩ = some (.int .i64 a0_1) := (blk_cell BK655.out 1).trans rfl; have hcz20_2 : w19.cell? ⟨gb655, 2, none⟩ = some (.bool a0_2) := (blk_cell BK655.out 2).trans rfl; have hfz20_0 := blk_frozen BK655.out 0; have hfz20_1 := blk_frozen BK655.out 1; have hfz20_2 := blk_frozen BK655.out 2) | ((with_reducible refine gate_callee (f := 129) rfl ?_); refine goesL_ (some 5) rfl rfl Tryz.func129 (by kernel_rfl) rfl #[.string a0_0] rfl (by (try simp only [List.map_toArray, List.map_cons, List.map_nil]); first | done | rfl | (simp only [List.length_drop, List.length_take]; rfl)) ?_; (with_reducible refine (vname_May.calls a0_0 true _ A2.out).mono ?_); rintro e w21 ⟨rfl, hb⟩; refine ⟨_, rfl, ?_⟩; have n0_ := Aside0.mk (blk_below (g := gb655) (o := .cells #[.string a0_0, .int .i64 a0_1, .bool a0_2] 55 (0, 0)) (by (with_reducible repeat (first | refine blk_drewN ?_ _ | refine blk_drew ?_ | refine blk_alloc ?_ _)); exact BK655.out) hb); have n1_ := Aside0.mk (below_step (by repeat (first | (with_reducible first | exact HB.out | apply below_alloc | apply pw_below_drewN | apply below_drew1 | refine below_set ?_ GE655.out) | exact HB.out)) hb); clear BK655; clear HB; have BK655 := n0_; have HB := n1_; clear n0_ n1_; (try clear hb); (try clear hb2); (try clear hk); (try clear hi); have hcz22_0 : w21.cell? ⟨gb655, 0, none⟩ = some (.string a0_0) := (blk_cell BK655.out 0).trans rfl; have hcz22_1 : w21.cell? ⟨gb655, 1, none⟩ = some (.int .i64 a0_1) := (blk_cell BK655.out 1).trans rfl; have hcz22_2 : w21.cell? ⟨gb655, 2, none⟩ = some (.bool a0_2) := (blk_cell BK655.out 2).trans rfl; have hfz22_0 := blk_frozen BK655.out 0; have hfz22_1 := blk_frozen BK655.out 1; have hfz22_2 := blk_frozen BK655.out 2))
     go_ret
     exact ⟨by first | rfl | (simp [errW_none, errW_some] <;> rfl) | (simp [*, errW_none, errW_some] <;> rfl), by repeat (first | (with_reducible first | exact HB.out | apply below_alloc | apply pw_below_drewN | apply below_drew1 | refine below_set ?_ GE655.out) | exact HB.out)⟩
 · replace c3 := Bool.eq_false_iff.mpr c3
   subst c3
   have H1 : (some false) = some r := by rw [if_neg (show ¬ (false = true) by decide)] at H; exact H
   clear H
   have H := H1
   clear H1
   obtain rfl := Option.some.inj H
   go_enter Tryz.func104, Tryz.ntmps104
   go_wp2_with (first | ((with_reducible refine gate_dst (N := 1) rfl ?_); refine box_event ?hg (N := 1) ?hd (cs := #[.string a0_0, .int .i64 a0_1, .bool a0_2]) (t := 55) ?hr ?_; (case hd => rfl); (case hg => rfl); (case hr => first | (go_simp; done) | (go_simp; rfl)); intro gb655 hg w23 hbox hb; have n0_ := Aside0.mk (below_step (by repeat (first | (with_reducible first | exact HB.out | apply below_alloc | apply pw_below_drewN | apply below_drew1) | exact HB.out)) hb); have n1_ := Aside0.mk (hbox); have n2_ := Aside0.mk ((by rw [hg]; exact (below_size (by repeat (first | (with_reducible first | exact HB.out | apply below_alloc | apply pw_below_drewN | apply below_drew1) | exact HB.out))) : w.heap.size ≤ gb655)); have n3_ := Aside0.mk ((by rw [hg]; exact (below_size (by repeat (first | (with_reducible first | exact HB.out | apply below_alloc | apply pw_below_drewN | apply below_drew1) | exact HB.out))) : w.heap.size ≤ gb655)); clear HB; have HB := n0_; have BK655 := n1_; have GW655 := n2_; have GE655 := n3_; clear n0_ n1_ n2_ n3_; clear hb hbox hg; have hcz24_0 : w23.cell? ⟨gb655, 0, none⟩ = some (.string a0_0) := (blk_cell BK655.out 0).trans rfl; have hcz24_1 : w23.cell? ⟨gb655, 1, none⟩ = some (.int .i64 a0_1) := (blk_cell BK655.out 1).trans rfl; have hcz24_2 : w23.cell? ⟨gb655, 2, none⟩ = some (.bool a0_2) := (blk_cell BK655.out 2).trans rfl; have hfz24_0 := blk_frozen BK655.out 0; have hfz24_1 := blk_frozen BK655.out 1; have hfz24_2 := blk_frozen BK655.out 2) | ((with_reducible refine gate_callee (f := 129) rfl ?_); refine goesL_ (some 5) rfl rfl Tryz.func129 (by kernel_rfl) rfl #[.string a0_0] rfl (by (try simp only [List.map_toArray, List.map_cons, List.map_nil]); first | done | rfl | (simp only [List.length_drop, List.length_take]; rfl)) ?_; (with_reducible refine (vname_May.calls a0_0 false _ A2.out).mono ?_); rintro e w25 ⟨rfl, hb⟩; refine ⟨_, rfl, ?_⟩; have n0_ := Aside0.mk (blk_below (g := gb655) (o := .cells #[.string a0_0, .int .i64 a0_1, .bool a0_2] 55 (0, 0)) (by (with_reducible repeat (first | refine blk_drewN ?_ _ | refine blk_drew ?_ | refine blk_alloc ?_ _)); exact BK655.out) hb); have n1_ := Aside0.mk (below_step (by repeat (first | (with_reducible first | exact HB.out | apply below_alloc | apply pw_below_drewN | apply below_drew1 | refine below_set ?_ GE655.out) | exact HB.out)) hb); clear BK655; clear HB; have BK655 := n0_; have HB := n1_; clear n0_ n1_; (try clear hb); (try clear hb2); (try clear hk); (try clear hi)))
   go_ret
   exact ⟨by first | rfl | (simp [errW_none, errW_some] <;> rfl) | (simp [*, errW_none, errW_some] <;> rfl), by repeat (first | (with_reducible first | exact HB.out | apply below_alloc | apply pw_below_drewN | apply below_drew1 | refine below_set ?_ GE655.out) | exact HB.out)⟩
end Go.Proofs.YtlocbpaikdgmbaaGreatDoor.P
end
section
namespace Go.Proofs.YtlocbpaikdgmbaaGreatDoor.P
open Go.RowKit Go.Proofs.YtlocbpaikdgmbaaGreatDoorW.PrintWords Go.Proofs.YtlocbpaikdgmbaaGreatDoorW.PrintLast Go.Proofs.YtlocbpaikdgmbaaGreatDoorW.PrintMore
def bs (s : ByteArray) : List Nat := s.data.toList.map (·.toNat)
theorem bs_length (s : ByteArray) : (bs s).length = s.size := by rw [bs, List.length_map]; rfl
theorem bs_lt (s : ByteArray) : ∀ b ∈ bs s, b < 256 := by
 intro b hb
 obtain ⟨x, _, rfl⟩ := List.mem_map.1 hb
 exact x.toNat_lt
theorem bs_extract (s : ByteArray) (a b : Nat) : bs (s.extract a b) = ((bs s).take b).drop a := by
 unfold bs
 rw [ByteArray.data_extract, Array.toList_extract, List.extract_eq_take_drop, List.map_take, List.map_drop, List.drop_take]
theorem bs_from (s : ByteArray) (a : Nat) : bs (s.extract a s.size) = (bs s).drop a := by
 rw [bs_extract, List.take_of_length_le (by rw [bs_length]; exact Nat.le_refl _)]
theorem bs_upto (s : ByteArray) (b : Nat) : bs (s.extract 0 b) = (bs s).take b := by rw [bs_extract, List.drop_zero]
theorem bs_append (s t : ByteArray) : bs (s ++ t) = bs s ++ bs t := by
 unfold bs
 rw [ByteArray.data_append, Array.toList_append, List.map_append]
theorem bt_get (s : ByteArray) (i : Nat) (h : i < s.size) : ∃ b, (bs s)[i]? = some b ∧ bt s i = (b : Int) := by
 refine ⟨(s[i]'h).toNat, ?_, ?_⟩
 · unfold bs
   rw [List.getElem?_map, Array.getElem?_toList]
   have : s.data[i]? = some (s[i]'h) := by
    rw [Array.getElem?_eq_getElem (by exact h)]
    rfl
   rw [this]
   rfl
 · have := bt_at s i (by simpa using h)
   rw [← this]
   simp
theorem bs_drop (s : ByteArray) (i : Nat) (h : i < s.size) : (bs s).drop i = (bt s i).toNat :: (bs s).drop (i + 1) := by
 obtain ⟨b, hb, he⟩ := bt_get s i h
 rw [he, Int.toNat_natCast]
 have hl : i < (bs s).length := by rw [bs_length]; exact h
 rw [List.drop_eq_getElem_cons hl]
 have := List.getElem?_eq_getElem hl
 rw [this] at hb
 injection hb with hb
 rw [hb]
theorem map_toNat_inj : ∀ {l m : List UInt8}, l.map (·.toNat) = m.map (·.toNat) → l = m
 | [], [], _ => rfl
 | [], _ :: _, h => by simp at h
 | _ :: _, [], h => by simp at h
 | a :: l, b :: m, h => by
  simp only [List.map_cons, List.cons.injEq] at h
  rw [UInt8.toNat.inj h.1, map_toNat_inj h.2]
theorem toList_is {s : ByteArray} {l : List UInt8} : s.toList = l ↔ bs s = l.map (·.toNat) := by
 rw [ByteArray.toList_eq]
 unfold bs
 exact ⟨fun h => by rw [h], fun h => map_toNat_inj h⟩
theorem toList_nil {s : ByteArray} : s.toList = [] ↔ bs s = [] := by
 rw [ByteArray.toList_eq]
 unfold bs
 simp
theorem bs_get (s : ByteArray) (i : Nat) (h : i < s.size) : ∃ b : Nat, b < 256 ∧ bt s (i : Int) = (b : Int) ∧ (bs s).drop i = b :: (bs s).drop (i + 1) := by
 obtain ⟨b, hb, he⟩ := bt_get s i h
 refine ⟨b, bs_lt s b (List.mem_of_getElem? hb), he, ?_⟩
 rw [bs_drop s i h, he, Int.toNat_natCast]
theorem bs_cases (s : ByteArray) : (s.size = 0 ∧ bs s = [] ∧ s.toList = []) ∨ ∃ (b : Nat) (r : List Nat), b < 256 ∧ bs s = b :: r ∧ bt s 0 = (b : Int) ∧ 0 < s.size ∧ bs (s.extract 1 s.size) = r ∧ s.toList ≠ [] ∧ r.length + 1 = s.size := by
 by_cases h : 0 < s.size
 · obtain ⟨b, h1, h2, h3⟩ := bs_get s 0 h
   have e : bs s = b :: (bs s).drop 1 := h3
   have hl : ((bs s).drop 1).length + 1 = s.size := by rw [List.length_drop, bs_length]; omega
   refine .inr ⟨b, (bs s).drop 1, h1, e, h2, h, bs_from s 1, fun g => ?_, hl⟩
   rw [toList_nil.1 g] at e
   cases e
 · have e : bs s = [] := List.length_eq_zero_iff.1 (by rw [bs_length]; omega)
   exact .inl ⟨by omega, e, toList_nil.2 e⟩
theorem bs_size_from (s : ByteArray) (a : Nat) : (s.extract a s.size).size = s.size - a := by rw [ByteArray.size_extract]; omega
theorem bs_size_upto (s : ByteArray) (a : Nat) (h : a ≤ s.size) : (s.extract 0 a).size = a := by rw [ByteArray.size_extract]; omega
theorem bs_mk (l : List UInt8) : bs ⟨l.toArray⟩ = l.map (·.toNat) := rfl
end Go.Proofs.YtlocbpaikdgmbaaGreatDoor.P
end
section
namespace Go.Proofs.YtlocbpaikdgmbaaGreatDoor.P
set_option linter.unusedVariables false
set_option linter.unusedSimpArgs false
def MayC (c : Nat) : Prop :=
 (160 ≤ c ∧ c ≤ 55295) ∨ (57344 ≤ c ∧ c ≤ 64975) ∨ (65008 ≤ c ∧ c ≤ 65519) ∨ (65536 ≤ c ∧ c % 65536 ≤ 65533 ∧ c ≤ 1114109 ∧ ¬ (917504 ≤ c ∧ c < 921600))
instance (c : Nat) : Decidable (MayC c) := by unfold MayC; exact inferInstance
theorem meetsFrom_iff (lo hi : Int) : ∀ d k, meetsFrom lo hi d k = true ↔ ∃ j, k ≤ j ∧ j < k + d ∧ lo ≤ spanHi j ∧ spanLo j ≤ hi
 | 0, k => by
  simp only [meetsFrom]
  constructor
  · intro h
    cases h
  · rintro ⟨j, h1, h2, -⟩
    omega
 | d + 1, k => by
  simp only [meetsFrom, Bool.or_eq_true, Bool.and_eq_true, decide_eq_true_eq, meetsFrom_iff lo hi d (k + 1)]
  constructor
  · rintro (⟨h1, h2⟩ | ⟨j, h1, h2, h3, h4⟩)
    · exact ⟨k, Nat.le_refl _, by omega, h1, h2⟩
    · exact ⟨j, by omega, by omega, h3, h4⟩
  · rintro ⟨j, h1, h2, h3, h4⟩
    by_cases e : j = k
    · subst e
      exact .inl ⟨h3, h4⟩
    · exact .inr ⟨j, by omega, by omega, h3, h4⟩
theorem meets_iff (lo hi : Nat) (h : lo ≤ hi) : meetsFrom lo hi 19 0 = true ↔ ∃ c, lo ≤ c ∧ c ≤ hi ∧ MayC c := by
 rw [meetsFrom_iff]
 constructor
 · rintro ⟨j, -, hj, h1, h2⟩
   unfold spanHi at h1
   unfold spanLo at h2
   unfold MayC
   by_cases j0 : j = 0
   · rw [if_pos j0] at h1 h2
     exact ⟨max lo 160, by omega, by omega, by omega⟩
   by_cases j1 : j = 1
   · rw [if_neg j0, if_pos j1] at h1 h2
     exact ⟨max lo 57344, by omega, by omega, by omega⟩
   by_cases j2 : j = 2
   · rw [if_neg j0, if_neg j1, if_pos j2] at h1 h2
     exact ⟨max lo 65008, by omega, by omega, by omega⟩
   rw [if_neg j0, if_neg j1, if_neg j2] at h1 h2
   by_cases j3 : j = 16
   · rw [if_pos j3] at h2
     subst j3
     exact ⟨max lo 921600, by omega, by omega, by omega⟩
   · rw [if_neg j3] at h2
     refine ⟨max lo ((j - 2) * 65536), by omega, by omega, ?_⟩
     omega
 · rintro ⟨c, h1, h2, hc⟩
   unfold MayC at hc
   rcases hc with hc | hc | hc | hc
   · exact ⟨0, by omega, by omega, by simp only [spanHi, if_true]; omega, by simp only [spanLo, if_true]; omega⟩
   · exact ⟨1, by omega, by omega, by simp [spanHi]; omega, by simp [spanLo]; omega⟩
   · exact ⟨2, by omega, by omega, by simp [spanHi]; omega, by simp [spanLo]; omega⟩
   · refine ⟨c / 65536 + 2, by omega, by omega, ?_, ?_⟩
     · unfold spanHi
       rw [if_neg (by omega), if_neg (by omega), if_neg (by omega)]
       omega
     · unfold spanLo
       rw [if_neg (by omega), if_neg (by omega), if_neg (by omega)]
       split <;> omega
def mt (lo hi : Nat) : Bool := decide (lo ≤ hi) && meetsFrom lo hi 19 0
theorem mt_iff (lo hi : Nat) : mt lo hi = true ↔ ∃ c, lo ≤ c ∧ c ≤ hi ∧ MayC c := by
 unfold mt
 by_cases h : lo ≤ hi
 · rw [decide_eq_true h, Bool.true_and]
   exact meets_iff lo hi h
 · rw [decide_eq_false h, Bool.false_and]
   constructor
   · intro h
     cases h
   · rintro ⟨c, h1, h2, -⟩
     omega
theorem mt_of {c lo hi : Nat} (h : MayC c) (h1 : lo ≤ c) (h2 : c ≤ hi) : mt lo hi = true := (mt_iff _ _).2 ⟨c, h1, h2, h⟩
def ucsAt : List Nat → Nat
 | b0 :: b1 :: r =>
  if b0 / 32 = 6 then (if b1 / 64 = 2 ∧ 128 ≤ b0 % 32 * 64 + b1 % 64 ∧ MayC (b0 % 32 * 64 + b1 % 64) then 2 else 0)
  else match r with
   | [] => 0
   | b2 :: r =>
    if b0 / 16 = 14 then (if b1 / 64 = 2 ∧ b2 / 64 = 2 ∧ 2048 ≤ b0 % 16 * 4096 + b1 % 64 * 64 + b2 % 64 ∧ MayC (b0 % 16 * 4096 + b1 % 64 * 64 + b2 % 64) then 3 else 0)
    else match r with
     | [] => 0
     | b3 :: _ =>
      if b0 / 8 = 30 then (if b1 / 64 = 2 ∧ b2 / 64 = 2 ∧ b3 / 64 = 2 ∧ 65536 ≤ b0 % 8 * 262144 + b1 % 64 * 4096 + b2 % 64 * 64 + b3 % 64 ∧ MayC (b0 % 8 * 262144 + b1 % 64 * 4096 + b2 % 64 * 64 + b3 % 64) then 4 else 0)
      else 0
 | _ => 0
def fits : List Nat → Bool
 | [b0] =>
  if b0 / 32 = 6 then mt (max 128 (b0 % 32 * 64)) (b0 % 32 * 64 + 63)
  else if b0 / 16 = 14 then mt (max 2048 (b0 % 16 * 4096)) (b0 % 16 * 4096 + 4095)
  else if b0 / 8 = 30 then mt (max 65536 (b0 % 8 * 262144)) (b0 % 8 * 262144 + 262143) else false
 | [b0, b1] =>
  if b1 / 64 = 2 then
   (if b0 / 32 = 6 then mt (max 128 (b0 % 32 * 64 + b1 % 64)) (b0 % 32 * 64 + b1 % 64)
   else if b0 / 16 = 14 then mt (max 2048 (b0 % 16 * 4096 + b1 % 64 * 64)) (b0 % 16 * 4096 + b1 % 64 * 64 + 63)
   else if b0 / 8 = 30 then mt (max 65536 (b0 % 8 * 262144 + b1 % 64 * 4096)) (b0 % 8 * 262144 + b1 % 64 * 4096 + 4095) else false)
  else false
 | [b0, b1, b2] =>
  if b1 / 64 = 2 ∧ b2 / 64 = 2 then
   (if b0 / 16 = 14 then mt (max 2048 (b0 % 16 * 4096 + b1 % 64 * 64 + b2 % 64)) (b0 % 16 * 4096 + b1 % 64 * 64 + b2 % 64)
   else if b0 / 8 = 30 then mt (max 65536 (b0 % 8 * 262144 + b1 % 64 * 4096 + b2 % 64 * 64)) (b0 % 8 * 262144 + b1 % 64 * 4096 + b2 % 64 * 64 + 63) else false)
  else false
 | [b0, b1, b2, b3] =>
  if b1 / 64 = 2 ∧ b2 / 64 = 2 ∧ b3 / 64 = 2 then
   (if b0 / 8 = 30 then mt (max 65536 (b0 % 8 * 262144 + b1 % 64 * 4096 + b2 % 64 * 64 + b3 % 64)) (b0 % 8 * 262144 + b1 % 64 * 4096 + b2 % 64 * 64 + b3 % 64) else false)
  else false
 | _ => false
theorem ucsAt_low (b : Nat) (r : List Nat) (h : b < 192) : ucsAt (b :: r) = 0 := by
 unfold ucsAt
 repeat' split
 all_goals first | rfl | (exfalso; omega) | (simp only [List.cons.injEq] at *; omega)
theorem ucsAt_steps (l : List Nat) : ucsAt l = 0 ∨
 (ucsAt l = 2 ∧ ∃ b0 b1 r, l = b0 :: b1 :: r ∧ 192 ≤ b0 ∧ fits [b0] = true ∧ ucsAt [b0, b1] = 2) ∨
 (ucsAt l = 3 ∧ ∃ b0 b1 b2 r, l = b0 :: b1 :: b2 :: r ∧ 192 ≤ b0 ∧ fits [b0] = true ∧ ucsAt [b0, b1] = 0 ∧ fits [b0, b1] = true ∧ ucsAt [b0, b1, b2] = 3) ∨
 (ucsAt l = 4 ∧ ∃ b0 b1 b2 b3 r, l = b0 :: b1 :: b2 :: b3 :: r ∧ 192 ≤ b0 ∧ fits [b0] = true ∧ ucsAt [b0, b1] = 0 ∧ fits [b0, b1] = true ∧ ucsAt [b0, b1, b2] = 0 ∧ fits [b0, b1, b2] = true ∧ ucsAt [b0, b1, b2, b3] = 4) := by
 match l with
 | [] => exact .inl rfl
 | [b0] => exact .inl rfl
 | b0 :: b1 :: r =>
  by_cases h2 : b0 / 32 = 6
  · by_cases hg : b1 / 64 = 2 ∧ 128 ≤ b0 % 32 * 64 + b1 % 64 ∧ MayC (b0 % 32 * 64 + b1 % 64)
    · refine .inr (.inl ⟨by simp only [ucsAt]; rw [if_pos h2, if_pos hg], b0, b1, r, rfl, by omega, ?_, by simp only [ucsAt]; rw [if_pos h2, if_pos hg]⟩)
      simp only [fits]
      rw [if_pos h2]
      exact mt_of hg.2.2 (by omega) (by omega)
    · exact .inl (by simp only [ucsAt]; rw [if_pos h2, if_neg hg])
  · match r with
    | [] => exact .inl (by simp only [ucsAt]; rw [if_neg h2])
    | b2 :: r =>
     by_cases h3 : b0 / 16 = 14
     · by_cases hg : b1 / 64 = 2 ∧ b2 / 64 = 2 ∧ 2048 ≤ b0 % 16 * 4096 + b1 % 64 * 64 + b2 % 64 ∧ MayC (b0 % 16 * 4096 + b1 % 64 * 64 + b2 % 64)
       · refine .inr (.inr (.inl ⟨by simp only [ucsAt]; rw [if_neg h2, if_pos h3, if_pos hg], b0, b1, b2, r, rfl, by omega, ?_, by simp only [ucsAt]; rw [if_neg h2], ?_, by simp only [ucsAt]; rw [if_neg h2, if_pos h3, if_pos hg]⟩))
         · simp only [fits]
           rw [if_neg h2, if_pos h3]
           exact mt_of hg.2.2.2 (by omega) (by omega)
         · simp only [fits]
           rw [if_pos hg.1, if_neg h2, if_pos h3]
           exact mt_of hg.2.2.2 (by omega) (by omega)
       · exact .inl (by simp only [ucsAt]; rw [if_neg h2, if_pos h3, if_neg hg])
     · match r with
       | [] => exact .inl (by simp only [ucsAt]; rw [if_neg h2, if_neg h3])
       | b3 :: r =>
        by_cases h4 : b0 / 8 = 30
        · by_cases hg : b1 / 64 = 2 ∧ b2 / 64 = 2 ∧ b3 / 64 = 2 ∧ 65536 ≤ b0 % 8 * 262144 + b1 % 64 * 4096 + b2 % 64 * 64 + b3 % 64 ∧ MayC (b0 % 8 * 262144 + b1 % 64 * 4096 + b2 % 64 * 64 + b3 % 64)
          · refine .inr (.inr (.inr ⟨by simp only [ucsAt]; rw [if_neg h2, if_neg h3, if_pos h4, if_pos hg], b0, b1, b2, b3, r, rfl, by omega, ?_, by simp only [ucsAt]; rw [if_neg h2], ?_, by simp only [ucsAt]; rw [if_neg h2, if_neg h3], ?_, by simp only [ucsAt]; rw [if_neg h2, if_neg h3, if_pos h4, if_pos hg]⟩))
            · simp only [fits]
              rw [if_neg h2, if_neg h3, if_pos h4]
              exact mt_of hg.2.2.2.2 (by omega) (by omega)
            · simp only [fits]
              rw [if_pos hg.1, if_neg h2, if_neg h3, if_pos h4]
              exact mt_of hg.2.2.2.2 (by omega) (by omega)
            · simp only [fits]
              rw [if_pos ⟨hg.1, hg.2.1⟩, if_neg h3, if_pos h4]
              exact mt_of hg.2.2.2.2 (by omega) (by omega)
          · exact .inl (by simp only [ucsAt]; rw [if_neg h2, if_neg h3, if_pos h4, if_neg hg])
        · exact .inl (by simp only [ucsAt]; rw [if_neg h2, if_neg h3, if_neg h4])
inductive Q where
 | top | p1 | p2 | u (l : List Nat) | e0 | ns | n | nd | np1 | np2 | c (k : Nat) | st
def isOp (c : Nat) : Bool := c == 43 || c == 35 || c == 46 || c == 47 || c == 59 || c == 63 || c == 38
def fin (b : Nat) : Option Q := if b = 44 then some .ns else if b = 125 then some .top else none
def nsStep (b : Nat) : Option Q := if isWord b = true then some .n else if b = 37 then some .np1 else none
def step : Q → Nat → Option Q
 | .top, b => if isLit b = true then some .top else if b = 37 then some .p1 else if b = 123 then some .e0 else if fits [b] = true then some (.u [b]) else none
 | .p1, b => if isHex b = true then some .p2 else none
 | .p2, b => if isHex b = true then some .top else none
 | .u l, b => if ucsAt (l ++ [b]) = l.length + 1 then some .top else if fits (l ++ [b]) = true then some (.u (l ++ [b])) else none
 | .e0, b => if isOp b = true then some .ns else nsStep b
 | .ns, b => nsStep b
 | .nd, b => nsStep b
 | .n, b => if isWord b = true then some .n else if b = 37 then some .np1 else if b = 46 then some .nd else if b = 42 then some .st else if b = 58 then some (.c 0) else fin b
 | .np1, b => if isHex b = true then some .np2 else none
 | .np2, b => if isHex b = true then some .n else none
 | .c k, b => if isDigit b = true ∧ k < 4 ∧ ¬ (k = 0 ∧ b = 48) then some (.c (k + 1)) else if k = 0 then none else fin b
 | .st, b => fin b
def nstep : Q → Nat → Option Q
 | .n, b => if isWord b = true then some .n else if b = 37 then some .np1 else if b = 46 then some .nd else none
 | .ns, b => nsStep b
 | .nd, b => nsStep b
 | .np1, b => if isHex b = true then some .np2 else none
 | .np2, b => if isHex b = true then some .n else none
 | _, _ => none
def run (f : Q → Nat → Option Q) : Q → List Nat → Option Q
 | q, [] => some q
 | q, b :: r => match f q b with
  | none => none
  | some q' => run f q' r
section
variable {f : Q → Nat → Option Q}
theorem run_nil (q : Q) : run f q [] = some q := rfl
theorem run_some {q q' : Q} {b : Nat} (h : f q b = some q') (r : List Nat) : run f q (b :: r) = run f q' r := by simp only [run, h]
theorem run_none {q : Q} {b : Nat} (h : f q b = none) (r : List Nat) : run f q (b :: r) = none := by simp only [run, h]
theorem run_append (m : List Nat) : ∀ (l : List Nat) (q : Q), run f q (l ++ m) = (run f q l).bind fun q' => run f q' m
 | [], q => rfl
 | b :: r, q => by
  cases h : f q b with
  | none => rw [List.cons_append, run_none h, run_none h, Option.bind_none]
  | some q' => rw [List.cons_append, run_some h, run_some h, run_append m r q']
end
def isN : Q → Bool
 | .n => true
 | _ => false
theorem isN_iff (q : Q) : isN q = true ↔ q = .n := by cases q <;> simp [isN]
def scan : Q → Nat → Nat → List Nat → Nat × Nat
 | _, a, e, [] => (a, e)
 | q, a, e, b :: r => match nstep q b with
  | none => (a, e)
  | some q' => scan q' (a + 1) (if isN q' = true then a + 1 else e) r
theorem scan_none {q : Q} {b : Nat} (h : nstep q b = none) (a e : Nat) (r : List Nat) : scan q a e (b :: r) = (a, e) := by simp only [scan, h]
theorem scan_some {q q' : Q} {b : Nat} (h : nstep q b = some q') (a e : Nat) (r : List Nat) : scan q a e (b :: r) = scan q' (a + 1) (if isN q' = true then a + 1 else e) r := by simp only [scan, h]
theorem scan_end : ∀ (l : List Nat) (q : Q) (a e : Nat),
 ((scan q a e l).2 = e ∧ ∀ m, 1 ≤ m → m ≤ l.length → run nstep q (l.take m) ≠ some .n) ∨
 ∃ m, 1 ≤ m ∧ m ≤ l.length ∧ (scan q a e l).2 = a + m ∧ run nstep q (l.take m) = some .n ∧ ∀ m', m < m' → m' ≤ l.length → run nstep q (l.take m') ≠ some .n
 | [], q, a, e => .inl ⟨rfl, fun m h1 h2 => by simp at h2; omega⟩
 | b :: r, q, a, e => by
  cases h : nstep q b with
  | none =>
   refine .inl ⟨by rw [scan_none h], fun m h1 h2 => ?_⟩
   obtain ⟨m, rfl⟩ : ∃ k, m = k + 1 := ⟨m - 1, by omega⟩
   rw [List.take_succ_cons, run_none h]
   simp
  | some q' =>
   have key : ∀ m, run nstep q ((b :: r).take (m + 1)) = run nstep q' (r.take m) := fun m => by rw [List.take_succ_cons, run_some h]
   rw [scan_some h]
   rcases scan_end r q' (a + 1) (if isN q' = true then a + 1 else e) with ⟨h1, h2⟩ | ⟨m, h1, h2, h3, h4, h5⟩
   · by_cases hn : isN q' = true
     · refine .inr ⟨1, Nat.le_refl _, by simp, by rw [h1, if_pos hn], by rw [key 0]; exact congrArg some ((isN_iff q').1 hn), fun m' g1 g2 => ?_⟩
       obtain ⟨m', rfl⟩ : ∃ k, m' = k + 1 := ⟨m' - 1, by omega⟩
       rw [key]
       exact h2 m' (by omega) (by simpa using g2)
     · refine .inl ⟨by rw [h1, if_neg hn], fun m' g1 g2 => ?_⟩
       obtain ⟨m', rfl⟩ : ∃ k, m' = k + 1 := ⟨m' - 1, by omega⟩
       rw [key]
       by_cases g : m' = 0
       · subst g
         intro h6
         exact hn ((isN_iff q').2 (Option.some.inj h6))
       · exact h2 m' (by omega) (by simpa using g2)
   · refine .inr ⟨m + 1, by omega, by simpa using h2, by rw [h3]; omega, by rw [key]; exact h4, fun m' g1 g2 => ?_⟩
     obtain ⟨m', rfl⟩ : ∃ k, m' = k + 1 := ⟨m' - 1, by omega⟩
     rw [key]
     exact h5 m' (by omega) (by simpa using g2)
def nameEnd (l : List Nat) : Nat := (scan .ns 0 0 l).2
theorem nameEnd_le (l : List Nat) : nameEnd l ≤ l.length := by
 rcases scan_end l .ns 0 0 with ⟨h1, -⟩ | ⟨m, -, h2, h3, -⟩
 · rw [nameEnd, h1]
   omega
 · rw [nameEnd, h3]
   omega
theorem nameEnd_is (l : List Nat) (h : nameEnd l ≠ 0) : run nstep .ns (l.take (nameEnd l)) = some .n := by
 rcases scan_end l .ns 0 0 with ⟨h1, -⟩ | ⟨m, -, h2, h3, h4, -⟩
 · exact absurd h1 h
 · rw [nameEnd, h3, Nat.zero_add]
   exact h4
theorem nameEnd_last (l : List Nat) (m : Nat) (h1 : nameEnd l < m) (h2 : m ≤ l.length) : run nstep .ns (l.take m) ≠ some .n := by
 rcases scan_end l .ns 0 0 with ⟨g1, g2⟩ | ⟨k, -, g2, g3, g4, g5⟩
 · exact g2 m (by omega) h2
 · rw [nameEnd, g3] at h1
   exact g5 m (by omega) h2
theorem nameEnd_eq {l : List Nat} {m : Nat} (h1 : m ≤ l.length) (h2 : run nstep .ns (l.take m) = some .n) (h3 : ∀ k, m < k → k ≤ l.length → run nstep .ns (l.take k) ≠ some .n) : nameEnd l = m := by
 rcases Nat.lt_trichotomy (nameEnd l) m with h | h | h
 · exact absurd h2 (nameEnd_last l m h h1)
 · exact h
 · exact absurd (nameEnd_is l (by omega)) (h3 _ h (nameEnd_le l))
structure MVar where
 name : List Nat
 max : Int
 star : Bool
def trip : List Nat → Bool
 | a :: b :: c :: _ => a == 37 && (isHex b && isHex c)
 | _ => false
def pieceN : List Nat → Nat
 | [] => 0
 | b :: r => if isLit b = true then 1 else if trip (b :: r) = true then 3 else ucsAt (b :: r)
def piecesN : Nat → List Nat → Nat
 | 0, _ => 0
 | d + 1, l => if pieceN l = 0 then 0 else pieceN l + piecesN d (l.drop (pieceN l))
theorem lit_kind {b : Nat} (h : isLit b = true) : b ≠ 37 ∧ b ≠ 123 ∧ b ≠ 44 + 81 ∧ b < 192 := by
 refine ⟨?_, ?_, ?_, ?_⟩
 · rintro rfl; revert h; decide
 · rintro rfl; revert h; decide
 · rintro rfl; revert h; decide
 · simp [isLit] at h
   omega
theorem step_lit {b : Nat} (h : isLit b = true) : step .top b = some .top := by simp only [step]; rw [if_pos h]
theorem step_pct : step .top 37 = some .p1 := by
 have : isLit 37 = false := by decide
 simp [step, this]
theorem step_u {b : Nat} (h : 192 ≤ b) : step .top b = if fits [b] = true then some (.u [b]) else none := by
 have h1 : ¬ isLit b = true := fun g => by have := lit_kind g; omega
 simp only [step]
 rw [if_neg h1, if_neg (by omega), if_neg (by omega)]
theorem step_u_next {l : List Nat} {b : Nat} (h : ucsAt (l ++ [b]) ≠ l.length + 1) (hf : fits (l ++ [b]) = true) : step (.u l) b = some (.u (l ++ [b])) := by simp only [step]; rw [if_neg h, if_pos hf]
theorem step_u_top {l : List Nat} {b : Nat} (h : ucsAt (l ++ [b]) = l.length + 1) : step (.u l) b = some .top := by simp only [step]; rw [if_pos h]
theorem piece_top {l : List Nat} (h : pieceN l ≠ 0) : pieceN l ≤ l.length ∧ run step .top (l.take (pieceN l)) = some .top ∧ l.head? ≠ some 123 := by
 match l, h with
 | [], h => exact absurd rfl h
 | b :: r, h =>
  by_cases h1 : isLit b = true
  · have e : pieceN (b :: r) = 1 := by simp only [pieceN]; rw [if_pos h1]
    rw [e]
    refine ⟨by simp, by rw [List.take_succ_cons, List.take_zero, run_some (step_lit h1), run_nil], ?_⟩
    intro g
    exact (lit_kind h1).2.1 (Option.some.inj g)
  by_cases h2 : trip (b :: r) = true
  · have e : pieceN (b :: r) = 3 := by simp only [pieceN]; rw [if_neg h1, if_pos h2]
    rw [e]
    match r, h2 with
    | [], h2 => cases h2
    | [_], h2 => cases h2
    | c :: d :: r, h2 =>
     simp only [trip, Bool.and_eq_true, beq_iff_eq] at h2
     obtain ⟨rfl, hc, hd⟩ := h2
     refine ⟨by simp, ?_, by simp⟩
     rw [List.take_succ_cons, List.take_succ_cons, List.take_succ_cons, List.take_zero, run_some step_pct, run_some (q' := .p2) (by simp only [step]; rw [if_pos hc]), run_some (q' := .top) (by simp only [step]; rw [if_pos hd]), run_nil]
  have e : pieceN (b :: r) = ucsAt (b :: r) := by simp only [pieceN]; rw [if_neg h1, if_neg h2]
  rw [e] at h ⊢
  rcases ucsAt_steps (b :: r) with g | ⟨g, b0, b1, r', he, hb, f1, u2⟩ | ⟨g, b0, b1, b2, r', he, hb, f1, u2, f2, u3⟩ | ⟨g, b0, b1, b2, b3, r', he, hb, f1, u2, f2, u3, f3, u4⟩
  · exact absurd g h
  · rw [g, he]
    have s1 : step .top b0 = some (.u [b0]) := by rw [step_u hb, if_pos f1]
    refine ⟨by simp, ?_, by simp; omega⟩
    rw [List.take_succ_cons, List.take_succ_cons, List.take_zero, run_some s1, run_some (step_u_top (l := [b0]) u2), run_nil]
  · rw [g, he]
    have s1 : step .top b0 = some (.u [b0]) := by rw [step_u hb, if_pos f1]
    have s2 : step (.u [b0]) b1 = some (.u [b0, b1]) := step_u_next (l := [b0]) (by simp [u2]) f2
    refine ⟨by simp, ?_, by simp; omega⟩
    rw [List.take_succ_cons, List.take_succ_cons, List.take_succ_cons, List.take_zero, run_some s1, run_some s2, run_some (step_u_top (l := [b0, b1]) u3), run_nil]
  · rw [g, he]
    have s1 : step .top b0 = some (.u [b0]) := by rw [step_u hb, if_pos f1]
    have s2 : step (.u [b0]) b1 = some (.u [b0, b1]) := step_u_next (l := [b0]) (by simp [u2]) f2
    have s3 : step (.u [b0, b1]) b2 = some (.u [b0, b1, b2]) := step_u_next (l := [b0, b1]) (by simp [u3]) f3
    refine ⟨by simp, ?_, by simp; omega⟩
    rw [List.take_succ_cons, List.take_succ_cons, List.take_succ_cons, List.take_succ_cons, List.take_zero, run_some s1, run_some s2, run_some s3, run_some (step_u_top (l := [b0, b1, b2]) u4), run_nil]
structure MPart where
 lit : List Nat
 op : Int
 specs : List MVar
end Go.Proofs.YtlocbpaikdgmbaaGreatDoor.P
end
section
namespace Go.Proofs.YtlocbpaikdgmbaaGreatDoor.P
open Go.RowKit Go.Proofs.YtlocbpaikdgmbaaGreatDoorW.PrintWords Go.Proofs.YtlocbpaikdgmbaaGreatDoorW.PrintLast Go.Proofs.YtlocbpaikdgmbaaGreatDoorW.PrintMore
set_option linter.unusedVariables false
set_option linter.unusedSimpArgs false
theorem w64 {n : Int} (h1 : -9223372036854775808 ≤ n) (h2 : n < 9223372036854775808) : wrap64 n = n := by unfold wrap64; omega
theorem Ev.pos {α : Type} {c : Prop} [Decidable c] {f g : Nat → Option α} {r : α} (h : c) (k : Ev f r) : Ev (fun n => if c then f n else g n) r := Ev.congr (fun n => if_pos h) k
theorem Ev.neg {α : Type} {c : Prop} [Decidable c] {f g : Nat → Option α} {r : α} (h : ¬ c) (k : Ev g r) : Ev (fun n => if c then f n else g n) r := Ev.congr (fun n => if_neg h) k
theorem trip_short {l : List Nat} (h : l.length < 3) : trip l = false := by
 match l, h with
 | [], _ => rfl
 | [_], _ => rfl
 | [_, _], _ => rfl
 | _ :: _ :: _ :: _, h =>
  simp only [List.length_cons] at h
  omega
def vM (x : S55) : MVar := ⟨bs x.f0, x.f1, x.f2⟩
def pM (x : S31) : MPart := ⟨bs x.f0, x.f1, x.f2.map vM⟩
end Go.Proofs.YtlocbpaikdgmbaaGreatDoor.P
end
section
namespace Go.Proofs.YtlocbpaikdgmbaaGreatDoor.P
set_option linter.unusedVariables false
set_option linter.unusedSimpArgs false
def MayR (c : Nat) : Prop := c ≤ 1114111 ∧ (c < 55296 ∨ 57343 < c)
instance (c : Nat) : Decidable (MayR c) := by unfold MayR; exact inferInstance
theorem mayC_mayR {c : Nat} (h : MayC c) : MayR c := by
 unfold MayC at h
 unfold MayR
 omega
def uAt : List Nat → Nat × Nat
 | [] => (0, 0)
 | b0 :: r =>
  if b0 < 128 then (b0, 1) else match r with
  | [] => (0, 0)
  | b1 :: r =>
   if b0 / 32 = 6 then (if b1 / 64 = 2 ∧ 128 ≤ b0 % 32 * 64 + b1 % 64 then (b0 % 32 * 64 + b1 % 64, 2) else (0, 0))
   else match r with
   | [] => (0, 0)
   | b2 :: r =>
    if b0 / 16 = 14 then (if b1 / 64 = 2 ∧ b2 / 64 = 2 ∧ 2048 ≤ b0 % 16 * 4096 + b1 % 64 * 64 + b2 % 64 ∧ MayR (b0 % 16 * 4096 + b1 % 64 * 64 + b2 % 64) then (b0 % 16 * 4096 + b1 % 64 * 64 + b2 % 64, 3) else (0, 0))
    else match r with
    | [] => (0, 0)
    | b3 :: _ =>
     if b0 / 8 = 30 then (if b1 / 64 = 2 ∧ b2 / 64 = 2 ∧ b3 / 64 = 2 ∧ 65536 ≤ b0 % 8 * 262144 + b1 % 64 * 4096 + b2 % 64 * 64 + b3 % 64 ∧ MayR (b0 % 8 * 262144 + b1 % 64 * 4096 + b2 % 64 * 64 + b3 % 64) then (b0 % 8 * 262144 + b1 % 64 * 4096 + b2 % 64 * 64 + b3 % 64, 4) else (0, 0))
     else (0, 0)
theorem uo {c n : Nat} (hn : n ≠ 0) : (if ((c, n) : Nat × Nat).2 = 0 then 0 else if MayC ((c, n) : Nat × Nat).1 then ((c, n) : Nat × Nat).2 else 0) = if MayC c then n else 0 := if_neg hn
theorem uo0 : (if ((0, 0) : Nat × Nat).2 = 0 then 0 else if MayC ((0, 0) : Nat × Nat).1 then ((0, 0) : Nat × Nat).2 else 0) = 0 := rfl
theorem ucs_uAt (l : List Nat) (hl : ∀ b ∈ l, b < 256) : ucsAt l = if (uAt l).2 = 0 then 0 else if MayC (uAt l).1 then (uAt l).2 else 0 := by
 match l, hl with
 | [], _ => rfl
 | [b0], _ =>
  simp only [uAt, ucsAt]
  by_cases h : b0 < 128
  · rw [if_pos h, uo (by decide), if_neg]
    unfold MayC
    omega
  · rw [if_neg h, uo0]
 | b0 :: b1 :: r, _ =>
  by_cases h : b0 < 128
  · rw [ucsAt_low _ _ (by omega)]
    simp only [uAt]
    rw [if_pos h, uo (by decide), if_neg]
    unfold MayC
    omega
  by_cases h2 : b0 / 32 = 6
  · simp only [uAt, ucsAt]
    rw [if_neg h, if_pos h2, if_pos h2]
    by_cases hg : b1 / 64 = 2 ∧ 128 ≤ b0 % 32 * 64 + b1 % 64
    · rw [if_pos hg, uo (by decide)]
      by_cases hm : MayC (b0 % 32 * 64 + b1 % 64)
      · rw [if_pos hm, if_pos ⟨hg.1, hg.2, hm⟩]
      · rw [if_neg hm, if_neg fun g => hm g.2.2]
    · rw [if_neg hg, uo0, if_neg fun g => hg ⟨g.1, g.2.1⟩]
  match r with
  | [] =>
   simp only [uAt, ucsAt]
   rw [if_neg h, if_neg h2, if_neg h2, uo0]
  | b2 :: r =>
   by_cases h3 : b0 / 16 = 14
   · simp only [uAt, ucsAt]
     rw [if_neg h, if_neg h2, if_neg h2, if_pos h3, if_pos h3]
     by_cases hg : b1 / 64 = 2 ∧ b2 / 64 = 2 ∧ 2048 ≤ b0 % 16 * 4096 + b1 % 64 * 64 + b2 % 64 ∧ MayR (b0 % 16 * 4096 + b1 % 64 * 64 + b2 % 64)
     · rw [if_pos hg, uo (by decide)]
       by_cases hm : MayC (b0 % 16 * 4096 + b1 % 64 * 64 + b2 % 64)
       · rw [if_pos hm, if_pos ⟨hg.1, hg.2.1, hg.2.2.1, hm⟩]
       · rw [if_neg hm, if_neg fun g => hm g.2.2.2]
     · rw [if_neg hg, uo0, if_neg fun g => hg ⟨g.1, g.2.1, g.2.2.1, mayC_mayR g.2.2.2⟩]
   match r with
   | [] =>
    simp only [uAt, ucsAt]
    rw [if_neg h, if_neg h2, if_neg h2, if_neg h3, if_neg h3, uo0]
   | b3 :: r =>
    by_cases h4 : b0 / 8 = 30
    · simp only [uAt, ucsAt]
      rw [if_neg h, if_neg h2, if_neg h2, if_neg h3, if_neg h3, if_pos h4, if_pos h4]
      by_cases hg : b1 / 64 = 2 ∧ b2 / 64 = 2 ∧ b3 / 64 = 2 ∧ 65536 ≤ b0 % 8 * 262144 + b1 % 64 * 4096 + b2 % 64 * 64 + b3 % 64 ∧ MayR (b0 % 8 * 262144 + b1 % 64 * 4096 + b2 % 64 * 64 + b3 % 64)
      · rw [if_pos hg, uo (by decide)]
        by_cases hm : MayC (b0 % 8 * 262144 + b1 % 64 * 4096 + b2 % 64 * 64 + b3 % 64)
        · rw [if_pos hm, if_pos ⟨hg.1, hg.2.1, hg.2.2.1, hg.2.2.2.1, hm⟩]
        · rw [if_neg hm, if_neg fun g => hm g.2.2.2.2]
      · rw [if_neg hg, uo0, if_neg fun g => hg ⟨g.1, g.2.1, g.2.2.1, g.2.2.2.1, mayC_mayR g.2.2.2.2⟩]
    · simp only [uAt, ucsAt]
      rw [if_neg h, if_neg h2, if_neg h2, if_neg h3, if_neg h3, if_neg h4, if_neg h4, uo0]
def width (b0 : Nat) : Nat := if b0 < 128 then 1 else if b0 / 32 = 6 then 2 else if b0 / 16 = 14 then 3 else if b0 / 8 = 30 then 4 else 5
theorem uAt_width (b0 : Nat) (r : List Nat) : (uAt (b0 :: r)).2 = 0 ∨ ((uAt (b0 :: r)).2 = width b0 ∧ width b0 ≤ r.length + 1 ∧ width b0 ≤ 4 ∧ ∀ m, width b0 ≤ m → uAt ((b0 :: r).take m) = uAt (b0 :: r)) := by
 by_cases h : b0 < 128
 · have e : width b0 = 1 := by unfold width; rw [if_pos h]
   refine .inr ⟨?_, by omega, by omega, fun m hm => ?_⟩
   · simp only [uAt]
     rw [if_pos h, e]
   · obtain ⟨m, rfl⟩ : ∃ k, m = k + 1 := ⟨m - 1, by omega⟩
     rw [List.take_succ_cons]
     simp only [uAt]
     rw [if_pos h, if_pos h]
 match r with
 | [] =>
  left
  simp only [uAt]
  rw [if_neg h]
 | b1 :: r =>
  by_cases h2 : b0 / 32 = 6
  · have e : width b0 = 2 := by unfold width; rw [if_neg h, if_pos h2]
    by_cases hg : b1 / 64 = 2 ∧ 128 ≤ b0 % 32 * 64 + b1 % 64
    · refine .inr ⟨?_, by rw [e]; simp, by omega, fun m hm => ?_⟩
      · simp only [uAt]
        rw [if_neg h, if_pos h2, if_pos hg, e]
      · obtain ⟨m, rfl⟩ : ∃ k, m = k + 2 := ⟨m - 2, by omega⟩
        rw [List.take_succ_cons, List.take_succ_cons]
        simp only [uAt]
        rw [if_neg h, if_pos h2, if_neg h, if_pos h2]
    · left
      simp only [uAt]
      rw [if_neg h, if_pos h2, if_neg hg]
  match r with
  | [] =>
   left
   simp only [uAt]
   rw [if_neg h, if_neg h2]
  | b2 :: r =>
   by_cases h3 : b0 / 16 = 14
   · have e : width b0 = 3 := by unfold width; rw [if_neg h, if_neg h2, if_pos h3]
     by_cases hg : b1 / 64 = 2 ∧ b2 / 64 = 2 ∧ 2048 ≤ b0 % 16 * 4096 + b1 % 64 * 64 + b2 % 64 ∧ MayR (b0 % 16 * 4096 + b1 % 64 * 64 + b2 % 64)
     · refine .inr ⟨?_, by rw [e]; simp, by omega, fun m hm => ?_⟩
       · simp only [uAt]
         rw [if_neg h, if_neg h2, if_pos h3, if_pos hg, e]
       · obtain ⟨m, rfl⟩ : ∃ k, m = k + 3 := ⟨m - 3, by omega⟩
         rw [List.take_succ_cons, List.take_succ_cons, List.take_succ_cons]
         simp only [uAt]
         rw [if_neg h, if_neg h2, if_pos h3, if_neg h, if_neg h2, if_pos h3]
     · left
       simp only [uAt]
       rw [if_neg h, if_neg h2, if_pos h3, if_neg hg]
   match r with
   | [] =>
    left
    simp only [uAt]
    rw [if_neg h, if_neg h2, if_neg h3]
   | b3 :: r =>
    by_cases h4 : b0 / 8 = 30
    · have e : width b0 = 4 := by unfold width; rw [if_neg h, if_neg h2, if_neg h3, if_pos h4]
      by_cases hg : b1 / 64 = 2 ∧ b2 / 64 = 2 ∧ b3 / 64 = 2 ∧ 65536 ≤ b0 % 8 * 262144 + b1 % 64 * 4096 + b2 % 64 * 64 + b3 % 64 ∧ MayR (b0 % 8 * 262144 + b1 % 64 * 4096 + b2 % 64 * 64 + b3 % 64)
      · refine .inr ⟨?_, by rw [e]; simp, by omega, fun m hm => ?_⟩
        · simp only [uAt]
          rw [if_neg h, if_neg h2, if_neg h3, if_pos h4, if_pos hg, e]
        · obtain ⟨m, rfl⟩ : ∃ k, m = k + 4 := ⟨m - 4, by omega⟩
          rw [List.take_succ_cons, List.take_succ_cons, List.take_succ_cons, List.take_succ_cons]
          simp only [uAt]
      · left
        simp only [uAt]
        rw [if_neg h, if_neg h2, if_neg h3, if_pos h4, if_neg hg]
    · left
      simp only [uAt]
      rw [if_neg h, if_neg h2, if_neg h3, if_neg h4]
theorem mt_le {lo hi : Nat} (h : lo ≤ hi) : meetsFrom lo hi 19 0 = mt lo hi := by
 unfold mt
 rw [decide_eq_true h, Bool.true_and]
def u2 (b0 b1 : Nat) : Nat := b0 % 32 * 64 + b1 % 64
def u3 (b0 b1 b2 : Nat) : Nat := b0 % 16 * 4096 + b1 % 64 * 64 + b2 % 64
def u4 (b0 b1 b2 b3 : Nat) : Nat := b0 % 8 * 262144 + b1 % 64 * 4096 + b2 % 64 * 64 + b3 % 64
theorem width2 {b0 : Nat} (h : b0 / 32 = 6) : width b0 = 2 := by unfold width; rw [if_neg (by omega), if_pos h]
theorem width3 {b0 : Nat} (h : b0 / 16 = 14) : width b0 = 3 := by unfold width; rw [if_neg (by omega), if_neg (by omega), if_pos h]
theorem width4 {b0 : Nat} (h : b0 / 8 = 30) : width b0 = 4 := by unfold width; rw [if_neg (by omega), if_neg (by omega), if_neg (by omega), if_pos h]
theorem uAt2 {b0 : Nat} (h : b0 / 32 = 6) (b1 : Nat) (r : List Nat) : uAt (b0 :: b1 :: r) = if b1 / 64 = 2 ∧ 128 ≤ u2 b0 b1 then (u2 b0 b1, 2) else (0, 0) := by
 simp only [uAt]
 rw [if_neg (by omega), if_pos h]
 rfl
theorem uAt3 {b0 : Nat} (h : b0 / 16 = 14) (b1 b2 : Nat) (r : List Nat) : uAt (b0 :: b1 :: b2 :: r) = if b1 / 64 = 2 ∧ b2 / 64 = 2 ∧ 2048 ≤ u3 b0 b1 b2 ∧ MayR (u3 b0 b1 b2) then (u3 b0 b1 b2, 3) else (0, 0) := by
 simp only [uAt]
 rw [if_neg (by omega), if_neg (by omega), if_pos h]
 rfl
theorem uAt4 {b0 : Nat} (h : b0 / 8 = 30) (b1 b2 b3 : Nat) (r : List Nat) : uAt (b0 :: b1 :: b2 :: b3 :: r) = if b1 / 64 = 2 ∧ b2 / 64 = 2 ∧ b3 / 64 = 2 ∧ 65536 ≤ u4 b0 b1 b2 b3 ∧ MayR (u4 b0 b1 b2 b3) then (u4 b0 b1 b2 b3, 4) else (0, 0) := by
 simp only [uAt]
 rw [if_neg (by omega), if_neg (by omega), if_neg (by omega), if_pos h]
 rfl
end Go.Proofs.YtlocbpaikdgmbaaGreatDoor.P
end
section
namespace Go.Proofs.YtlocbpaikdgmbaaGreatDoor.P
open Go.RowKit Go.Proofs.YtlocbpaikdgmbaaGreatDoorW.PrintWords Go.Proofs.YtlocbpaikdgmbaaGreatDoorW.PrintLast Go.Proofs.YtlocbpaikdgmbaaGreatDoorW.PrintMore
def figsFrom (s : ByteArray) : Nat → Int → Int
 | 0, n => n
 | d + 1, n => if isDigit (bt s n).toNat = true ∧ ¬ (n = 0 ∧ bt s n = 48) then figsFrom s d (n + 1) else n
theorem figsFrom_le (s : ByteArray) (d : Nat) (n : Int) : n ≤ figsFrom s d n ∧ figsFrom s d n ≤ n + d := by
 induction d generalizing n with
 | zero => exact ⟨Int.le_refl _, by simp [figsFrom]⟩
 | succ d ih =>
  rw [figsFrom]
  split
  · have := ih (n + 1)
    omega
  · omega
def spec_figures.f (s : ByteArray) : Option Int := if s.size ≤ 1099511627776 then some (figsFrom s (min s.size 4) 0) else none
structure Set1 (w wr : World) (f : Nat → Bool) (g : Nat) : Prop where
 s : Four wr g (wd f)
 b : Below w.heap.size w wr
theorem Set1.step {w wr w1 : World} {f : Nat → Bool} {g : Nat} (H : Set1 w wr f g) (hb : Below wr.heap.size wr w1) : Set1 w w1 f g :=
 ⟨H.s.kept (hb.block _ H.s.lt), below_then H.b H.b.size hb⟩
set_option maxRecDepth 100000 in
set_option maxHeartbeats 800000 in
theorem spec_figures.calls (s : ByteArray) (r : Int) (w : World) (h : spec_figures.f s = some r) :
 Calls Tryz.prog 175 #[.string s] w fun e w' => e = .returned (.int .i64 r) ∧ Below w.heap.size w w' := by
 unfold spec_figures.f at h
 split at h
 · rename_i hs
   injection h with h
   have HR := Lib.hid h
   clear h
   go_enter Tryz.func175, Tryz.ntmps175
   go_wp2_with fail
   refine (chars_Digit.calls _ _ rfl).mono ?_
   rintro e w1 ⟨rfl, hb⟩
   have HB := Lib.hid hb
   clear hb
   unfold setV
   go_wp2
   all_goals
    go_loopw [5, 11] (fun _ a wr => ∃ (d : Nat) (n : Int), a = .int .i64 n ∧ 0 ≤ n ∧ (d : Int) + n = min s.size 4 ∧ Hid (figsFrom s d n = r) ∧ Hid (Set1 w wr isDigit w1.heap.size)) (fun _ a _ => 4 - (intOf a).toNat)
    case atStart =>
     exact ⟨min s.size 4, 0, rfl, by omega, by omega, HR, Lib.hid ⟨Four.newP w1 isDigit _, HB.out.alloc HB.out.size _⟩⟩
    case round =>
     obtain ⟨d, n, rfl, hn0, hk, HE, HS⟩ := hrel
     cases d with
     | zero =>
      have hE := HE.out
      rw [figsFrom] at hE
      have HE1 := Lib.hid hE
      clear hE HE
      go_wp2
      go_ret
      refine ⟨?_, HS.out.b⟩
      show Ending.returned (.int .i64 _) = _
      rw [← HE1.out]
      congr 2
      omega
     | succ d =>
      have hE := HE.out
      rw [figsFrom] at hE
      have hnlt : n < s.size := by omega
      have hnt : n.toNat < s.size := by omega
      have hix := bt_at s n
      have hcr := bt_range s n
      obtain ⟨c, hc⟩ : ∃ c, c = bt s n := ⟨_, rfl⟩
      rw [← hc] at hE hcr hix
      obtain ⟨hc0, hc1⟩ := hcr
      have c0 := HS.out.s.cell 0 (by omega)
      have c1 := HS.out.s.cell 1 (by omega)
      have c2 := HS.out.s.cell 2 (by omega)
      have c3 := HS.out.s.cell 3 (by omega)
      have HE0 := Lib.hid hE
      clear hc hE HE
      cases hb : isDigit c.toNat with
      | false =>
       have HDB := Lib.hid hb
       have hE := HE0.out
       rw [if_neg (fun h => by rw [hb] at h; exact absurd h.1 (by simp))] at hE
       have HE1 := Lib.hid hE
       clear hE hb HE0
       go_wp2_with fail
       have k0 := cell_regrown c0
       have k1 := cell_regrown c1
       have k2 := cell_regrown c2
       have k3 := cell_regrown c3
       refine wp_region_quiet_below (by kernel_rfl) (by kernel_rfl) ?_
       repeat (go_big_quiet_step (exact Calls.regrown_of (chars_Set_Has.calls isDigit c false _ (by rw [chars_Set_Has.f, if_pos ⟨hc0, hc1⟩, HDB.out]))))
       refine wpQuiet_nil ?_
       rintro _ ⟨⟨dq, osq⟩, rfl⟩
       have HX5 := Lib.hid (HS.out.step (below_regrown wr dq osq))
       go_wp2
       go_ret
       exact ⟨by show Ending.returned (.int .i64 n) = _; rw [HE1.out], HX5.out.b⟩
      | true =>
       have HDB := Lib.hid hb
       have hq : ((n == 0) = true ∧ (c == 48) = true ∧ Hid (n = r)) ∨ ((n == 0) = true ∧ (c == 48) = false ∧ Hid (figsFrom s d (n + 1) = r)) ∨ ((n == 0) = false ∧ Hid (figsFrom s d (n + 1) = r)) := by
        have hE := HE0.out
        by_cases h1 : n = 0
        · by_cases h2 : c = 48
          · rw [if_neg (fun h => h.2 ⟨h1, h2⟩)] at hE
            exact .inl ⟨beq_iff_eq.2 (by omega), beq_iff_eq.2 h2, Lib.hid hE⟩
          · rw [if_pos ⟨hb, fun h => h2 h.2⟩] at hE
            exact .inr (.inl ⟨beq_iff_eq.2 (by omega), beq_eq_false_iff_ne.2 h2, Lib.hid hE⟩)
        · rw [if_pos ⟨hb, fun h => h1 h.1⟩] at hE
          exact .inr (.inr ⟨beq_eq_false_iff_ne.2 (by omega), Lib.hid hE⟩)
       clear hb HE0
       rcases hq with ⟨q1, q2, HE1⟩ | ⟨q1, q2, HE1⟩ | ⟨q1, HE1⟩
       · go_wp2_with fail
         have k0 := cell_regrown c0
         have k1 := cell_regrown c1
         have k2 := cell_regrown c2
         have k3 := cell_regrown c3
         refine wp_region_quiet_below (by kernel_rfl) (by kernel_rfl) ?_
         repeat (go_big_quiet_step (exact Calls.regrown_of (chars_Set_Has.calls isDigit c true _ (by rw [chars_Set_Has.f, if_pos ⟨hc0, hc1⟩, HDB.out]))))
         refine wpQuiet_nil ?_
         rintro _ ⟨⟨dq, osq⟩, rfl⟩
         have HX5 := Lib.hid (HS.out.step (below_regrown wr dq osq))
         go_wp2
         go_ret
         exact ⟨by show Ending.returned (.int .i64 n) = _; rw [HE1.out], HX5.out.b⟩
       all_goals
        go_wp2_with fail
        have k0 := cell_regrown c0
        have k1 := cell_regrown c1
        have k2 := cell_regrown c2
        have k3 := cell_regrown c3
        refine wp_region_quiet_below (by kernel_rfl) (by kernel_rfl) ?_
        repeat (go_big_quiet_step (exact Calls.regrown_of (chars_Set_Has.calls isDigit c true _ (by rw [chars_Set_Has.f, if_pos ⟨hc0, hc1⟩, HDB.out]))))
        refine wpQuiet_nil ?_
        rintro _ ⟨⟨dq, osq⟩, rfl⟩
        have HX5 := Lib.hid (HS.out.step (below_regrown wr dq osq))
        go_wp2
        go_roundw
        case rel => exact ⟨d, n + 1, by go_num, by omega, by omega, HE1, HX5⟩
        case measure => simp [intOf]; omega
 · cases h
end Go.Proofs.YtlocbpaikdgmbaaGreatDoor.P
end
section
namespace Go.Proofs.YtlocbpaikdgmbaaGreatDoor.P
open Go.RowKit Go.Proofs.YtlocbpaikdgmbaaGreatDoorW.PrintWords Go.Proofs.YtlocbpaikdgmbaaGreatDoorW.PrintLast Go.Proofs.YtlocbpaikdgmbaaGreatDoorW.PrintMore
attribute [local go_sem] max2_int min2_int max_two min_two max_three min_three max_four min_four
set_option linter.unusedVariables false
set_option linter.unusedSimpArgs false
def vname_Bad.f (a0 : ByteArray) : Option (Int) := (vname_ends.f a0).bind fun bt657 => (some bt657.1)
set_option maxHeartbeats 8000000 in
set_option maxRecDepth 100000 in
theorem vname_Bad.calls (a0 : ByteArray) (r : Int) (w : World) (h : vname_Bad.f a0 = some r) :
 Calls Tryz.prog 165 #[.string a0] w fun e w' => e = .returned (.int .i64 r) ∧ Below w.heap.size w w' := by
 have HB := Aside0.mk (Below.refl w.heap.size w)
 have H : ((vname_ends.f a0).bind fun bt657 => (some bt657.1)) = some r := h
 clear h
 replace H := Option.bind_eq_some_iff.mp H
 obtain ⟨⟨t657, t658⟩, A20, H⟩ := H
 replace H : (some t657) = some r := H
 have A2 := Aside0.mk A20
 clear A20
 obtain rfl := Option.some.inj H
 go_enter Tryz.func165, Tryz.ntmps165
 go_wp2_with (first | ((with_reducible refine gate_callee (f := 171) rfl ?_); refine goesL_ (some 7) rfl rfl Tryz.func171 (by kernel_rfl) rfl #[.string a0] rfl (by (try simp only [List.map_toArray, List.map_cons, List.map_nil]); first | done | rfl | (simp only [List.length_drop, List.length_take]; rfl)) ?_; (with_reducible refine (vname_ends.calls a0 t657 t658 _ A2.out).mono ?_); rintro e w3 ⟨rfl, hb⟩; refine ⟨_, rfl, ?_⟩; have n0_ := Aside0.mk (below_step (by repeat (first | (with_reducible first | exact HB.out | apply below_alloc | apply pw_below_drewN | apply below_drew1) | exact HB.out)) hb); clear HB; have HB := n0_; clear n0_; (try clear hb); (try clear hb2); (try clear hk); (try clear hi)))
 go_ret
 exact ⟨by first | rfl | (simp [errW_none, errW_some] <;> rfl) | (simp [*, errW_none, errW_some] <;> rfl), by repeat (first | (with_reducible first | exact HB.out | apply below_alloc | apply pw_below_drewN | apply below_drew1) | exact HB.out)⟩
end Go.Proofs.YtlocbpaikdgmbaaGreatDoor.P
end
section
namespace Go.Proofs.YtlocbpaikdgmbaaGreatDoor.P
open Go.RowKit Go.Proofs.YtlocbpaikdgmbaaGreatDoorW.PrintWords Go.Proofs.YtlocbpaikdgmbaaGreatDoorW.PrintLast Go.Proofs.YtlocbpaikdgmbaaGreatDoorW.PrintMore
def anyFrom (s : ByteArray) : Nat → Nat → Int
 | 0, _ => -1
 | k + 1, p => if p < s.size then (if ((Utf8.decode s p).1 : Int) = 44 ∨ ((Utf8.decode s p).1 : Int) = 125 then (p : Int) else anyFrom s k (p + (Utf8.decode s p).2)) else -1
def twoEnds : ByteArray := ⟨#[44, 125]⟩
def endAt (d : Nat) : Int := if d = 0 then 44 else 125
theorem twoEnds_decode (d : Nat) (h : d < 2) : (((Utf8.decode twoEnds d).1 : Int), (Utf8.decode twoEnds d).2) = (endAt d, 1) := by
 match d, h with
 | 0, _ => decide
 | 1, _ => decide
set_option maxRecDepth 100000 in
set_option maxHeartbeats 800000 in
theorem tmpl_anyAt.calls (s : ByteArray) (hs : s.size ≤ 1099511627776) (w : World) :
 Calls Tryz.prog 150 #[.string s, .string twoEnds] w fun e w' => e = .returned (.int .i64 (anyFrom s s.size 0)) ∧ Below w.heap.size w w' := by
 obtain ⟨r, hr⟩ : ∃ r, r = anyFrom s s.size 0 := ⟨_, rfl⟩
 rw [← hr]
 have HR := Lib.hid hr.symm
 have HD := Lib.hid twoEnds_decode
 have hsz : twoEnds.size = 2 := rfl
 obtain ⟨E, hE⟩ : ∃ E, E = twoEnds := ⟨_, rfl⟩
 rw [← hE] at hsz HD ⊢
 clear hr hE
 go_enter Tryz.func150, Tryz.ntmps150
 go_wp2
 go_loopw [5, 6, 8] (fun _ _ _ wr => ∃ (k p : Nat), Hid (wr.heap[w.heap.size]? = some (.stringIter s p)) ∧ Hid (anyFrom s k p = r) ∧ s.size ≤ p + k ∧ p ≤ s.size ∧ Hid (Below w.heap.size w wr)) (fun _ _ _ wr => s.size - wr.iterPos w.heap.size)
 case atStart =>
  exact ⟨s.size, 0, Lib.hid (World.iter_heap w s 0), HR, by omega, by omega, Lib.hid ((Below.refl _ _).alloc (Nat.le_refl _) _)⟩
 case round =>
  obtain ⟨k, p, HK, HC, hk, hp, HBw⟩ := hrel
  by_cases hlt : p < s.size
  · cases k with
    | zero => omega
    | succ k =>
    have hC := HC.out
    rw [anyFrom, if_pos hlt] at hC
    have hnx : ∀ ty, (Instr.next (.pointer (some ⟨w.heap.size, 0, none⟩)) true ty).run Tryz.prog wr = _ := fun ty => Lib.run_next_any_at wr w.heap.size s p ty HK.out hlt
    obtain ⟨c, hc⟩ : ∃ c : Int, c = ((Utf8.decode s p).1 : Int) := ⟨_, rfl⟩
    obtain ⟨n, hn⟩ : ∃ n, n = (Utf8.decode s p).2 := ⟨_, rfl⟩
    rw [← hc, ← hn] at hnx hC
    have hn1 : 1 ≤ n := by rw [hn]; exact decode_pos s p hlt
    have hnle : p + n ≤ s.size := by rw [hn]; exact decode_fits s p hlt
    have HK1 := Lib.hid (Lib.iterAt_heap wr w.heap.size s p (p + n) HK.out)
    have HB1 := Lib.hid (Lib.below_iterAt HBw.out (Nat.le_refl _) s (p + n))
    have HC1 := Lib.hid hC
    clear hc hn hC HC
    go_wp2_with fail
    obtain ⟨W1, hW1⟩ : ∃ W1, W1 = wr.iterAt w.heap.size s (p + n) := ⟨_, rfl⟩
    rw [← hW1] at HK1 HB1
    rw [← hW1]
    have HW1 := Lib.hid hW1
    clear hW1 hnx
    have hlt1 : w.heap.size < W1.heap.size := (Array.getElem?_eq_some_iff.1 HK1.out).1
    go_loopw [8] (fun _ W => ∃ d : Nat, d ≤ 2 ∧ (∀ j, j < d → c ≠ endAt j) ∧ Hid (W.heap[W1.heap.size]? = some (.stringIter E d)) ∧ Hid (W.heap[w.heap.size]? = some (.stringIter s (p + n))) ∧ Hid (Below w.heap.size w W)) (fun _ W => 2 - W.iterPos W1.heap.size)
    case atStart =>
     exact ⟨0, by omega, fun j hj => by omega, Lib.hid (World.iter_heap W1 E 0), Lib.hid ((heap_alloc_old W1 _ hlt1).trans HK1.out), Lib.hid (HB1.out.alloc (Nat.le_of_lt hlt1) _)⟩
    case round =>
     obtain ⟨d, hd, hne, HI, HO, HBi⟩ := hrel
     by_cases hd2 : d < 2
     · have hnx := fun ty => Lib.run_next_any_at (P := Tryz.prog) _ W1.heap.size E d ty HI.out (by rw [hsz]; exact hd2)
       have hdec := HD.out d hd2
       simp only [Prod.mk.injEq] at hdec
       rw [hdec.1, hdec.2] at hnx
       have hE2 : endAt d = 44 ∨ endAt d = 125 := by unfold endAt; split <;> simp
       obtain ⟨x, hx⟩ : ∃ x, x = endAt d := ⟨_, rfl⟩
       rw [← hx] at hnx hE2
       have HX := Lib.hid hx
       clear hdec hx
       have HI1 := Lib.hid (Lib.iterAt_heap _ W1.heap.size E d (d + 1) HI.out)
       have HB2 := Lib.hid (Lib.below_iterAt HBi.out (Nat.le_of_lt hlt1) E (d + 1))
       have HO2 := Lib.hid ((Lib.iterAt_other _ W1.heap.size w.heap.size E (d + 1) (by omega)).trans HO.out)
       by_cases hcx : c = x
       · have q1 : (c == x) = true := beq_iff_eq.2 hcx
         have hC := HC1.out
         rw [if_pos (by rw [hcx]; exact hE2)] at hC
         have HCC := Lib.hid hC
         clear hC hcx hE2
         go_wp2
         go_ret
         exact ⟨by show Ending.returned (.int .i64 (p : Int)) = _; rw [HCC.out], HB2.out⟩
       · have q1 : (c == x) = false := beq_eq_false_iff_ne.2 hcx
         have HN := Lib.hid (show ∀ j, j < d + 1 → c ≠ endAt j from fun j hj => by
          rcases Nat.lt_succ_iff_lt_or_eq.1 hj with h | h
          · exact hne j h
          · rw [h, ← HX.out]; exact hcx)
         clear hne hcx hE2
         go_wp2
         go_roundw
         case rel => exact ⟨d + 1, by omega, HN.out, HI1, HO2, HB2⟩
         case measure =>
          have h1 := HI.out
          have h2 := HI1.out
          simp only [World.iterPos, h1, h2]
          omega
     · have hnx := fun ty => Lib.run_next_end_at (P := Tryz.prog) _ W1.heap.size E d ty HI.out (by rw [hsz]; exact hd2)
       have hC := HC1.out
       have hd3 : d = 2 := by omega
       rw [if_neg (fun h => by
        rcases h with h | h
        · exact hne 0 (by omega) h
        · exact hne 1 (by omega) h)] at hC
       have HCC := Lib.hid hC
       clear hC hne hd3
       go_wp2
       go_roundw
       case rel => exact ⟨k, p + n, HO, HCC, by omega, by omega, HBi⟩
       case measure =>
        have h1 := HK.out
        have h2 := HO.out
        simp only [World.iterPos, h1, h2]
        omega
  · have hnx : ∀ ty, (Instr.next (.pointer (some ⟨w.heap.size, 0, none⟩)) true ty).run Tryz.prog wr = _ := fun ty => Lib.run_next_end_at wr w.heap.size s p ty HK.out hlt
    have hC := HC.out
    have hstop : anyFrom s k p = -1 := by
     cases k with
     | zero => rfl
     | succ k => rw [anyFrom, if_neg hlt]
    rw [hstop] at hC
    have HC1 := Lib.hid hC
    clear hC HC hstop
    go_wp2
    go_ret
    exact ⟨by show Ending.returned (.int .i64 (-1)) = _; rw [HC1.out], HBw.out⟩
def filledFrom (c : Int) : Nat → List Int → Int × Bool
 | 0, _ => (0, false)
 | d + 1, x =>
  if x.length ≤ 4 then
   (if (charsFrom (strOfNums x) (strOfNums x).size 0).2 < (strOfNums x).size then filledFrom c d (x ++ [c])
    else match (charsFrom (strOfNums x) (strOfNums x).size 0).1 with
     | [n] => (n, true)
     | _ => filledFrom c d (x ++ [c]))
  else (0, false)
def ucs_filled.f (b : ByteArray) (c : Int) : Option (Int × Bool) := if b.size ≤ 1099511627776 then some (filledFrom c 6 (bytesOf b)) else none
theorem filled_step (c : Int) (d : Nat) (x : List Int) (s : ByteArray) (hs : s = strOfNums x) (hx : x.length ≤ 4) :
 ∃ l ok, utf_Chars.f s = some (l, ok) ∧ filledFrom c (d + 1) x = if ok = true ∧ l.length = 1 then (l.getD 0 0, true) else filledFrom c d (x ++ [c]) := by
 have hsz : s.size ≤ 4 := by rw [hs, strOfNums_size]; exact hx
 rw [filledFrom, if_pos hx, ← hs]
 by_cases hb : (charsFrom s s.size 0).2 < s.size
 · refine ⟨[], false, by rw [utf_Chars.f, if_pos (by omega), if_pos hb], ?_⟩
   rw [if_pos hb, if_neg (by simp)]
 · refine ⟨(charsFrom s s.size 0).1, true, by rw [utf_Chars.f, if_pos (by omega), if_neg hb], ?_⟩
   rw [if_neg hb]
   generalize (charsFrom s s.size 0).1 = l
   cases l with
   | nil => simp
   | cons a l =>
    cases l with
    | nil => simp
    | cons b l => simp
theorem heapcell_new (W : World) (u : Value) (t : TypeId) : (W.alloc (.cells #[u] t)).cell? ((⟨W.heap.size, 0, none⟩ : Addr).add 0) = some u := by
 rw [show ((⟨W.heap.size, 0, none⟩ : Addr).add 0) = ⟨W.heap.size, 0, none⟩ from rfl]
 simp
theorem bytes_nums (s : ByteArray) : byteVals s = nums .u8 (bytesOf s) := by simp [byteVals, nums, bytesOf]
theorem RowM.base {w : World} {base : Nat} {e : TypeId} {v : Value} {xs : List Value} (h : RowM w base e v xs) (k : Nat) (hk : v.ownBlock = some k) : base ≤ k := by
 obtain ⟨g, cap, cur, fz, rfl, hg, _⟩ := h
 have : g = k := by simpa [Value.ownBlock] using hk
 omega
theorem RowM.reads {w : World} {base : Nat} {e : TypeId} {v : Value} {xs : List Int} (h : RowM w base e v (nums .u8 xs)) (hl : xs.length ≤ 9223372036854775807) : ∃ g cap, v = .slice (some ⟨g, 0, none⟩) xs.length cap ∧ ReadsInt w .u8 (some ⟨g, 0, none⟩) xs.length xs := by
 obtain ⟨g, cap, hv, hc⟩ := h.cells
 rw [nums_length] at hv
 refine ⟨g, cap, hv, rfl, hl, fun _ => ⟨_, rfl, fun j hj => ?_⟩⟩
 have hadd : (⟨g, 0, none⟩ : Addr).add j = ⟨g, j, none⟩ := by unfold Addr.add; split <;> simp_all
 rw [hadd]
 refine hc j _ ?_
 simp [nums, List.getElem?_eq_getElem hj, List.getD_eq_getElem?_getD]
def sliceLen : Value → Nat
 | .slice _ n _ => n
 | _ => 0
theorem infoByte : (Tryz.prog.info? 5).map (fun i => (i.zero, i.size, i.bytes)) = some (some (.int .u8 0), 1, 1) := by kernel_rfl
set_option maxRecDepth 100000 in
set_option maxHeartbeats 800000 in
theorem ucs_filled.calls (b : ByteArray) (c : Int) (r1 : Int) (r2 : Bool) (w : World) (h : ucs_filled.f b c = some (r1, r2)) :
 Calls Tryz.prog 169 #[.string b, .int .u8 c] w fun e w' => e = .returned (.tuple #[.int .i64 r1, .bool r2]) ∧ Below w.heap.size w w' := by
 unfold ucs_filled.f at h
 split at h
 · rename_i hs
   injection h with h
   have hcv : ∀ W : World, (convert 9 98 (.string b)).run Tryz.prog W = .ok (.slice (some ⟨W.heap.size, 0, none⟩) b.size (grownCap W b.size 0 5)) (Lib.bytesWorld W 5 b) := fun W => Lib.run_convert_string_bytes W _ _ _ b Tryz.underlying9 Tryz.underlying98 Tryz.underlying5
   have hrow := RowM.made w 5 b (by simp only [maxLen]; omega)
   rw [bytes_nums] at hrow
   have HRow := Lib.hid hrow
   have HB := Lib.hid (RowM.below_made w 5 b)
   have hbl := bytesOf_length b
   obtain ⟨x, hx⟩ : ∃ x, x = bytesOf b := ⟨_, rfl⟩
   rw [← hx] at HRow h hbl
   have HR := Lib.hid h
   have hxl : x.length ≤ 1099511627776 := by omega
   have HL := Lib.hid hbl
   clear h hrow hx hbl
   obtain ⟨i0, hi0, hzz⟩ := Option.map_eq_some_iff.1 infoByte
   simp only [Prod.mk.injEq] at hzz
   obtain ⟨hz0, hz1, hz2⟩ := hzz
   go_enter Tryz.func169, Tryz.ntmps169
   go_wp2
   go_loopw [6, 7, 8] (fun v _ _ wr => ∃ (d : Nat) (x : List Int), Hid (RowM wr w.heap.size 5 v (nums .u8 x)) ∧ Hid (filledFrom c d x = (r1, r2)) ∧ 6 ≤ x.length + d ∧ x.length ≤ 1099511627777 ∧ Hid (Below w.heap.size w wr) ∧ sliceLen v = x.length) (fun v _ _ _ => 5 - sliceLen v)
   case atStart => exact ⟨6, x, HRow, HR, by omega, by omega, HB, HL.out.symm⟩
   case round =>
    obtain ⟨d, x, HW, HF, hd, hx, HBw, hv⟩ := hrel
    obtain ⟨g, cap, rfl, hreads⟩ := HW.out.reads (by omega)
    have hcs : (convert 98 9 (.slice (some ⟨g, 0, none⟩) x.length cap)).run Tryz.prog wr = .ok (.string (strOfNums x)) wr := string_of_reads Tryz.underlying98 Tryz.underlying5 Tryz.underlying9 hreads
    clear hreads hv
    by_cases hle : x.length ≤ 4
    · cases d with
      | zero => omega
      | succ d =>
       obtain ⟨s, hs'⟩ : ∃ s, s = strOfNums x := ⟨_, rfl⟩
       have hssz : s.size ≤ 4 := by rw [hs', strOfNums_size]; exact hle
       obtain ⟨l, ok, hch, hst⟩ := filled_step c d x s hs' hle
       rw [← hs'] at hcs
       have HF1 := hst.symm.trans HF.out
       have HCH := Lib.hid hch
       have hleb : decide (x.length ≤ 4) = true := decide_eq_true hle
       clear hs' hst hch
       go_wp2_with fail
       refine (utf_Chars.calls s _ _ _ HCH.out).mono ?_
       rintro e w2 ⟨v0, rfl, hrow2, hb2⟩
       obtain ⟨A0, c0, rfl, hl0, hr0⟩ := Kd.R_reads hrow2
       have HR2 := Lib.hid hr0
       have HW2 := Lib.hid (HW.out.below hb2)
       have HB2 := Lib.hid (below_then HBw.out HBw.out.size hb2)
       have hsz2 := hb2.size
       clear hrow2 hb2 hr0 hcs HW HBw
       cases ok with
       | false =>
        rw [if_neg (by simp)] at HF1
        have HFF := Lib.hid HF1
        clear HF1 HF
        go_wp2_with (at_builtin; go_must (refine wpList_append_mark _ rfl _ _ 98 rfl w.heap.size 5 i0 (.int .u8 0) 1 Tryz.underlying98 hi0 hz0 hz1 hz2 rfl _ (nums .u8 x) rfl (HW2.out.below ((Below.refl _ _).alloc (Nat.le_refl _) _)) ⟨w2.heap.size, 0, none⟩ (.int .u8 c) rfl ?hu rfl ?h63 ?hby ?hbase ?_))
        case hu => exact heapcell_new w2 _ _
        case h63 => rw [nums_length]; simp only [maxLen]; omega
        case hby => rw [nums_length]; omega
        case hbase => simp; have := HB2.out.size; omega
        intro v' w3 hrow3 hg3
        rw [show nums .u8 x ++ [Value.int .u8 c] = nums .u8 (x ++ [c]) by rw [nums_append]; rfl] at hrow3
        have HR3 := Lib.hid hrow3
        have HB3 := Lib.hid ((HB2.out.alloc HB2.out.size _).grown hg3 (by simp; have := HB2.out.size; omega) (fun k hk => HW2.out.base k hk))
        obtain ⟨g3, cap3, rfl, _⟩ := hrow3.reads (by simp; omega)
        rw [List.length_append, List.length_singleton] at *
        clear hrow3 hg3
        go_wp2
        go_roundw
        case rel => exact ⟨d, x ++ [c], HR3, HFF, by simp; omega, by simp; omega, HB3, by simp [sliceLen]⟩
        case measure => simp [sliceLen]; omega
       | true =>
        by_cases h1 : l.length = 1
        · have h1b : (l.length == 1) = true := beq_iff_eq.2 h1
          rw [if_pos ⟨rfl, h1⟩] at HF1
          have HFF := Lib.hid HF1
          clear HF1 HF
          obtain ⟨n, rfl⟩ : ∃ n, l = [n] := by
           cases l with
           | nil => simp at h1
           | cons a l => cases l with
            | nil => exact ⟨a, rfl⟩
            | cons b l => simp at h1
          obtain ⟨ad, rfl, hca⟩ := Kd.at_int HR2.out 0 (by omega) (by simp)
          have hca2 : w2.cell? ad = some (.int .i64 n) := by
           have : ad.add (0 : Int).toNat = ad := by unfold Addr.add; split <;> simp_all
           rw [this] at hca
           exact hca
          clear hca
          go_wp2
          go_ret2
          have := HFF.out
          simp only [Prod.mk.injEq] at this
          obtain ⟨rfl, rfl⟩ := this
          exact ⟨rfl, HB2.out⟩
        · have h1b : (l.length == 1) = false := beq_eq_false_iff_ne.2 h1
          rw [if_neg (fun h => h1 h.2)] at HF1
          have HFF := Lib.hid HF1
          clear HF1 HF
          go_wp2_with (at_builtin; go_must (refine wpList_append_mark _ rfl _ _ 98 rfl w.heap.size 5 i0 (.int .u8 0) 1 Tryz.underlying98 hi0 hz0 hz1 hz2 rfl _ (nums .u8 x) rfl (HW2.out.below ((Below.refl _ _).alloc (Nat.le_refl _) _)) ⟨w2.heap.size, 0, none⟩ (.int .u8 c) rfl ?hu rfl ?h63 ?hby ?hbase ?_))
          case hu => exact heapcell_new w2 _ _
          case h63 => rw [nums_length]; simp only [maxLen]; omega
          case hby => rw [nums_length]; omega
          case hbase => simp; have := HB2.out.size; omega
          intro v' w3 hrow3 hg3
          rw [show nums .u8 x ++ [Value.int .u8 c] = nums .u8 (x ++ [c]) by rw [nums_append]; rfl] at hrow3
          have HR3 := Lib.hid hrow3
          have HB3 := Lib.hid ((HB2.out.alloc HB2.out.size _).grown hg3 (by simp; have := HB2.out.size; omega) (fun k hk => HW2.out.base k hk))
          obtain ⟨g3, cap3, rfl, _⟩ := hrow3.reads (by simp; omega)
          rw [List.length_append, List.length_singleton] at *
          clear hrow3 hg3
          go_wp2
          go_roundw
          case rel => exact ⟨d, x ++ [c], HR3, HFF, by simp; omega, by simp; omega, HB3, by simp [sliceLen]⟩
          case measure => simp [sliceLen]; omega
    · have hleb : decide (x.length ≤ 4) = false := decide_eq_false hle
      have hz : (0, false) = (r1, r2) := by
       rw [← HF.out]
       cases d with
       | zero => rfl
       | succ d => rw [filledFrom, if_neg hle]
      have HZ := Lib.hid hz
      clear hz
      go_wp2
      go_ret2
      have := HZ.out
      simp only [Prod.mk.injEq] at this
      obtain ⟨rfl, rfl⟩ := this
      exact ⟨rfl, HBw.out⟩
 · cases h
end Go.Proofs.YtlocbpaikdgmbaaGreatDoor.P
end
section
namespace Go.Proofs.YtlocbpaikdgmbaaGreatDoor.P
open Go.RowKit Go.Proofs.YtlocbpaikdgmbaaGreatDoorW.PrintWords Go.Proofs.YtlocbpaikdgmbaaGreatDoorW.PrintLast Go.Proofs.YtlocbpaikdgmbaaGreatDoorW.PrintMore
attribute [local go_sem] max2_int min2_int max_two min_two max_three min_three max_four min_four
set_option linter.unusedVariables false
set_option linter.unusedSimpArgs false
def ucs_ends.f (a0 : ByteArray) : Option (Int × Int × Bool) := (ucs_filled.f a0 128).bind fun bt636 => ((ucs_filled.f a0 191).bind fun bt638 => (if a0.toList = ([224] : List UInt8) then ((ucs_filled.f (⟨#[224, 160]⟩ : ByteArray) 128).bind fun bt640 => (if bt640.2 = true then (some (bt640.1, bt638.1, bt638.2)) else (some (bt640.1, bt638.1, false)))) else (if a0.toList = ([240] : List UInt8) then ((ucs_filled.f (⟨#[240, 144]⟩ : ByteArray) 128).bind fun bt642 => (if bt642.2 = true then (some (bt642.1, bt638.1, bt638.2)) else (some (bt642.1, bt638.1, false)))) else (if a0.toList = ([237] : List UInt8) then ((ucs_filled.f (⟨#[237, 159]⟩ : ByteArray) 191).bind fun bt644 => (if bt636.2 = true then (some (bt636.1, bt644.1, bt644.2)) else (some (bt636.1, bt644.1, false)))) else (if a0.toList = ([244] : List UInt8) then ((ucs_filled.f (⟨#[244, 143]⟩ : ByteArray) 191).bind fun bt646 => (if bt636.2 = true then (some (bt636.1, bt646.1, bt646.2)) else (some (bt636.1, bt646.1, false)))) else (if bt636.2 = true then (some (bt636.1, bt638.1, bt638.2)) else (some (bt636.1, bt638.1, false))))))))
set_option maxHeartbeats 8000000 in
set_option maxRecDepth 100000 in
theorem ucs_ends.calls (a0 : ByteArray) (r1 : Int) (r2 : Int) (r3 : Bool) (w : World) (h : ucs_ends.f a0 = some (r1, r2, r3)) :
 Calls Tryz.prog 154 #[.string a0] w fun e w' => e = .returned (.tuple #[.int .i64 r1, .int .i64 r2, .bool r3]) ∧ Below w.heap.size w w' := by
 have HB := Aside0.mk (Below.refl w.heap.size w)
 have H : ((ucs_filled.f a0 128).bind fun bt636 => ((ucs_filled.f a0 191).bind fun bt638 => (if a0.toList = ([224] : List UInt8) then ((ucs_filled.f (⟨#[224, 160]⟩ : ByteArray) 128).bind fun bt640 => (if bt640.2 = true then (some (bt640.1, bt638.1, bt638.2)) else (some (bt640.1, bt638.1, false)))) else (if a0.toList = ([240] : List UInt8) then ((ucs_filled.f (⟨#[240, 144]⟩ : ByteArray) 128).bind fun bt642 => (if bt642.2 = true then (some (bt642.1, bt638.1, bt638.2)) else (some (bt642.1, bt638.1, false)))) else (if a0.toList = ([237] : List UInt8) then ((ucs_filled.f (⟨#[237, 159]⟩ : ByteArray) 191).bind fun bt644 => (if bt636.2 = true then (some (bt636.1, bt644.1, bt644.2)) else (some (bt636.1, bt644.1, false)))) else (if a0.toList = ([244] : List UInt8) then ((ucs_filled.f (⟨#[244, 143]⟩ : ByteArray) 191).bind fun bt646 => (if bt636.2 = true then (some (bt636.1, bt646.1, bt646.2)) else (some (bt636.1, bt646.1, false)))) else (if bt636.2 = true then (some (bt636.1, bt638.1, bt638.2)) else (some (bt636.1, bt638.1, false))))))))) = some (r1, r2, r3) := h
 clear h
 replace H := Option.bind_eq_some_iff.mp H
 obtain ⟨⟨t636, t637⟩, A20, H⟩ := H
 replace H : ((ucs_filled.f a0 191).bind fun bt638 => (if a0.toList = ([224] : List UInt8) then ((ucs_filled.f (⟨#[224, 160]⟩ : ByteArray) 128).bind fun bt640 => (if bt640.2 = true then (some (bt640.1, bt638.1, bt638.2)) else (some (bt640.1, bt638.1, false)))) else (if a0.toList = ([240] : List UInt8) then ((ucs_filled.f (⟨#[240, 144]⟩ : ByteArray) 128).bind fun bt642 => (if bt642.2 = true then (some (bt642.1, bt638.1, bt638.2)) else (some (bt642.1, bt638.1, false)))) else (if a0.toList = ([237] : List UInt8) then ((ucs_filled.f (⟨#[237, 159]⟩ : ByteArray) 191).bind fun bt644 => (if t637 = true then (some (t636, bt644.1, bt644.2)) else (some (t636, bt644.1, false)))) else (if a0.toList = ([244] : List UInt8) then ((ucs_filled.f (⟨#[244, 143]⟩ : ByteArray) 191).bind fun bt646 => (if t637 = true then (some (t636, bt646.1, bt646.2)) else (some (t636, bt646.1, false)))) else (if t637 = true then (some (t636, bt638.1, bt638.2)) else (some (t636, bt638.1, false)))))))) = some (r1, r2, r3) := H
 have A2 := Aside0.mk A20
 clear A20
 replace H := Option.bind_eq_some_iff.mp H
 obtain ⟨⟨t638, t639⟩, A30, H⟩ := H
 replace H : (if a0.toList = ([224] : List UInt8) then ((ucs_filled.f (⟨#[224, 160]⟩ : ByteArray) 128).bind fun bt640 => (if bt640.2 = true then (some (bt640.1, t638, t639)) else (some (bt640.1, t638, false)))) else (if a0.toList = ([240] : List UInt8) then ((ucs_filled.f (⟨#[240, 144]⟩ : ByteArray) 128).bind fun bt642 => (if bt642.2 = true then (some (bt642.1, t638, t639)) else (some (bt642.1, t638, false)))) else (if a0.toList = ([237] : List UInt8) then ((ucs_filled.f (⟨#[237, 159]⟩ : ByteArray) 191).bind fun bt644 => (if t637 = true then (some (t636, bt644.1, bt644.2)) else (some (t636, bt644.1, false)))) else (if a0.toList = ([244] : List UInt8) then ((ucs_filled.f (⟨#[244, 143]⟩ : ByteArray) 191).bind fun bt646 => (if t637 = true then (some (t636, bt646.1, bt646.2)) else (some (t636, bt646.1, false)))) else (if t637 = true then (some (t636, t638, t639)) else (some (t636, t638, false))))))) = some (r1, r2, r3) := H
 have A3 := Aside0.mk A30
 clear A30
 by_cases c4 : a0.toList = ([224] : List UInt8)
 · rw [if_pos c4] at H
   have c4b0 : (a0.toList == ([224] : List UInt8)) = true := beq_iff_eq.mpr c4
   have c4b1 : (a0.toList != ([224] : List UInt8)) = false := bne_eq_false_iff_eq.mpr c4
   clear c4
   replace H := Option.bind_eq_some_iff.mp H
   obtain ⟨⟨t640, t641⟩, A50, H⟩ := H
   replace H : (if t641 = true then (some (t640, t638, t639)) else (some (t640, t638, false))) = some (r1, r2, r3) := H
   have A5 := Aside0.mk A50
   clear A50
   by_cases c6 : t641 = true
   · subst c6
     have H1 : (some (t640, t638, t639)) = some (r1, r2, r3) := by rw [if_pos rfl] at H; exact H
     clear H
     have H := H1
     clear H1
     simp only [Option.some.injEq, Prod.mk.injEq] at H
     obtain ⟨rfl, rfl, rfl⟩ := H
     go_enter Tryz.func154, Tryz.ntmps154
     go_wp2_with (first | ((with_reducible refine gate_callee (f := 169) rfl ?_); refine goesL_ (some 11) rfl rfl Tryz.func169 (by kernel_rfl) rfl #[.string a0, .int .u8 128] rfl (by (try simp only [List.map_toArray, List.map_cons, List.map_nil]); first | done | rfl | (simp only [List.length_drop, List.length_take]; rfl)) ?_; (with_reducible refine (ucs_filled.calls a0 128 t636 t637 _ A2.out).mono ?_); rintro e w7 ⟨rfl, hb⟩; refine ⟨_, rfl, ?_⟩; have n0_ := Aside0.mk (below_step (by repeat (first | (with_reducible first | exact HB.out | apply below_alloc | apply pw_below_drewN | apply below_drew1) | exact HB.out)) hb); clear HB; have HB := n0_; clear n0_; (try clear hb); (try clear hb2); (try clear hk); (try clear hi)) | ((with_reducible refine gate_callee (f := 169) rfl ?_); refine goesL_ (some 16) rfl rfl Tryz.func169 (by kernel_rfl) rfl #[.string a0, .int .u8 191] rfl (by (try simp only [List.map_toArray, List.map_cons, List.map_nil]); first | done | rfl | (simp only [List.length_drop, List.length_take]; rfl)) ?_; (with_reducible refine (ucs_filled.calls a0 191 t638 t639 _ A3.out).mono ?_); rintro e w8 ⟨rfl, hb⟩; refine ⟨_, rfl, ?_⟩; have n0_ := Aside0.mk (below_step (by repeat (first | (with_reducible first | exact HB.out | apply below_alloc | apply pw_below_drewN | apply below_drew1) | exact HB.out)) hb); clear HB; have HB := n0_; clear n0_; (try clear hb); (try clear hb2); (try clear hk); (try clear hi)) | ((with_reducible refine gate_callee (f := 169) rfl ?_); refine goesL_ (some 23) rfl rfl Tryz.func169 (by kernel_rfl) rfl #[.string (⟨#[224, 160]⟩ : ByteArray), .int .u8 128] rfl (by (try simp only [List.map_toArray, List.map_cons, List.map_nil]); first | done | rfl | (simp only [List.length_drop, List.length_take]; rfl)) ?_; (with_reducible refine (ucs_filled.calls (⟨#[224, 160]⟩ : ByteArray) 128 t640 true _ A5.out).mono ?_); rintro e w9 ⟨rfl, hb⟩; refine ⟨_, rfl, ?_⟩; have n0_ := Aside0.mk (below_step (by repeat (first | (with_reducible first | exact HB.out | apply below_alloc | apply pw_below_drewN | apply below_drew1) | exact HB.out)) hb); clear HB; have HB := n0_; clear n0_; (try clear hb); (try clear hb2); (try clear hk); (try clear hi)))
     go_ret3
     exact ⟨by first | rfl | (simp [errW_none, errW_some] <;> rfl) | (simp [*, errW_none, errW_some] <;> rfl), by repeat (first | (with_reducible first | exact HB.out | apply below_alloc | apply pw_below_drewN | apply below_drew1) | exact HB.out)⟩
   · replace c6 := Bool.eq_false_iff.mpr c6
     subst c6
     have H1 : (some (t640, t638, false)) = some (r1, r2, r3) := by rw [if_neg (show ¬ (false = true) by decide)] at H; exact H
     clear H
     have H := H1
     clear H1
     simp only [Option.some.injEq, Prod.mk.injEq] at H
     obtain ⟨rfl, rfl, rfl⟩ := H
     go_enter Tryz.func154, Tryz.ntmps154
     go_wp2_with (first | ((with_reducible refine gate_callee (f := 169) rfl ?_); refine goesL_ (some 11) rfl rfl Tryz.func169 (by kernel_rfl) rfl #[.string a0, .int .u8 128] rfl (by (try simp only [List.map_toArray, List.map_cons, List.map_nil]); first | done | rfl | (simp only [List.length_drop, List.length_take]; rfl)) ?_; (with_reducible refine (ucs_filled.calls a0 128 t636 t637 _ A2.out).mono ?_); rintro e w10 ⟨rfl, hb⟩; refine ⟨_, rfl, ?_⟩; have n0_ := Aside0.mk (below_step (by repeat (first | (with_reducible first | exact HB.out | apply below_alloc | apply pw_below_drewN | apply below_drew1) | exact HB.out)) hb); clear HB; have HB := n0_; clear n0_; (try clear hb); (try clear hb2); (try clear hk); (try clear hi)) | ((with_reducible refine gate_callee (f := 169) rfl ?_); refine goesL_ (some 16) rfl rfl Tryz.func169 (by kernel_rfl) rfl #[.string a0, .int .u8 191] rfl (by (try simp only [List.map_toArray, List.map_cons, List.map_nil]); first | done | rfl | (simp only [List.length_drop, List.length_take]; rfl)) ?_; (with_reducible refine (ucs_filled.calls a0 191 t638 t639 _ A3.out).mono ?_); rintro e w11 ⟨rfl, hb⟩; refine ⟨_, rfl, ?_⟩; have n0_ := Aside0.mk (below_step (by repeat (first | (with_reducible first | exact HB.out | apply below_alloc | apply pw_below_drewN | apply below_drew1) | exact HB.out)) hb); clear HB; have HB := n0_; clear n0_; (try clear hb); (try clear hb2); (try clear hk); (try clear hi)) | ((with_reducible refine gate_callee (f := 169) rfl ?_); refine goesL_ (some 23) rfl rfl Tryz.func169 (by kernel_rfl) rfl #[.string (⟨#[224, 160]⟩ : ByteArray), .int .u8 128] rfl (by (try simp only [List.map_toArray, List.map_cons, List.map_nil]); first | done | rfl | (simp only [List.length_drop, List.length_take]; rfl)) ?_; (with_reducible refine (ucs_filled.calls (⟨#[224, 160]⟩ : ByteArray) 128 t640 false _ A5.out).mono ?_); rintro e w12 ⟨rfl, hb⟩; refine ⟨_, rfl, ?_⟩; have n0_ := Aside0.mk (below_step (by repeat (first | (with_reducible first | exact HB.out | apply below_alloc | apply pw_below_drewN | apply below_drew1) | exact HB.out)) hb); clear HB; have HB := n0_; clear n0_; (try clear hb); (try clear hb2); (try clear hk); (try clear hi)))
     go_ret3
     exact ⟨by first | rfl | (simp [errW_none, errW_some] <;> rfl) | (simp [*, errW_none, errW_some] <;> rfl), by repeat (first | (with_reducible first | exact HB.out | apply below_alloc | apply pw_below_drewN | apply below_drew1) | exact HB.out)⟩
 · rw [if_neg c4] at H
   have c4b0 : (a0.toList == ([224] : List UInt8)) = false := beq_eq_false_iff_ne.mpr c4
   have c4b1 : (a0.toList != ([224] : List UInt8)) = true := bne_iff_ne.mpr c4
   by_cases c13 : a0.toList = ([240] : List UInt8)
   · rw [if_pos c13] at H
     have c13b0 : (a0.toList == ([240] : List UInt8)) = true := beq_iff_eq.mpr c13
     have c13b1 : (a0.toList != ([240] : List UInt8)) = false := bne_eq_false_iff_eq.mpr c13
     clear c13
     replace H := Option.bind_eq_some_iff.mp H
     obtain ⟨⟨t642, t643⟩, A140, H⟩ := H
     replace H : (if t643 = true then (some (t642, t638, t639)) else (some (t642, t638, false))) = some (r1, r2, r3) := H
     have A14 := Aside0.mk A140
     clear A140
     by_cases c15 : t643 = true
     · subst c15
       have H1 : (some (t642, t638, t639)) = some (r1, r2, r3) := by rw [if_pos rfl] at H; exact H
       clear H
       have H := H1
       clear H1
       simp only [Option.some.injEq, Prod.mk.injEq] at H
       obtain ⟨rfl, rfl, rfl⟩ := H
       go_enter Tryz.func154, Tryz.ntmps154
       go_wp2_with (first | ((with_reducible refine gate_callee (f := 169) rfl ?_); refine goesL_ (some 11) rfl rfl Tryz.func169 (by kernel_rfl) rfl #[.string a0, .int .u8 128] rfl (by (try simp only [List.map_toArray, List.map_cons, List.map_nil]); first | done | rfl | (simp only [List.length_drop, List.length_take]; rfl)) ?_; (with_reducible refine (ucs_filled.calls a0 128 t636 t637 _ A2.out).mono ?_); rintro e w16 ⟨rfl, hb⟩; refine ⟨_, rfl, ?_⟩; have n0_ := Aside0.mk (below_step (by repeat (first | (with_reducible first | exact HB.out | apply below_alloc | apply pw_below_drewN | apply below_drew1) | exact HB.out)) hb); clear HB; have HB := n0_; clear n0_; (try clear hb); (try clear hb2); (try clear hk); (try clear hi)) | ((with_reducible refine gate_callee (f := 169) rfl ?_); refine goesL_ (some 16) rfl rfl Tryz.func169 (by kernel_rfl) rfl #[.string a0, .int .u8 191] rfl (by (try simp only [List.map_toArray, List.map_cons, List.map_nil]); first | done | rfl | (simp only [List.length_drop, List.length_take]; rfl)) ?_; (with_reducible refine (ucs_filled.calls a0 191 t638 t639 _ A3.out).mono ?_); rintro e w17 ⟨rfl, hb⟩; refine ⟨_, rfl, ?_⟩; have n0_ := Aside0.mk (below_step (by repeat (first | (with_reducible first | exact HB.out | apply below_alloc | apply pw_below_drewN | apply below_drew1) | exact HB.out)) hb); clear HB; have HB := n0_; clear n0_; (try clear hb); (try clear hb2); (try clear hk); (try clear hi)) | ((with_reducible refine gate_callee (f := 169) rfl ?_); refine goesL_ (some 29) rfl rfl Tryz.func169 (by kernel_rfl) rfl #[.string (⟨#[240, 144]⟩ : ByteArray), .int .u8 128] rfl (by (try simp only [List.map_toArray, List.map_cons, List.map_nil]); first | done | rfl | (simp only [List.length_drop, List.length_take]; rfl)) ?_; (with_reducible refine (ucs_filled.calls (⟨#[240, 144]⟩ : ByteArray) 128 t642 true _ A14.out).mono ?_); rintro e w18 ⟨rfl, hb⟩; refine ⟨_, rfl, ?_⟩; have n0_ := Aside0.mk (below_step (by repeat (first | (with_reducible first | exact HB.out | apply below_alloc | apply pw_below_drewN | apply below_drew1) | exact HB.out)) hb); clear HB; have HB := n0_; clear n0_; (try clear hb); (try clear hb2); (try clear hk); (try clear hi)))
       go_ret3
       exact ⟨by first | rfl | (simp [errW_none, errW_some] <;> rfl) | (simp [*, errW_none, errW_some] <;> rfl), by repeat (first | (with_reducible first | exact HB.out | apply below_alloc | apply pw_below_drewN | apply below_drew1) | exact HB.out)⟩
     · replace c15 := Bool.eq_false_iff.mpr c15
       subst c15
       have H1 : (some (t642, t638, false)) = some (r1, r2, r3) := by rw [if_neg (show ¬ (false = true) by decide)] at H; exact H
       clear H
       have H := H1
       clear H1
       simp only [Option.some.injEq, Prod.mk.injEq] at H
       obtain ⟨rfl, rfl, rfl⟩ := H
       go_enter Tryz.func154, Tryz.ntmps154
       go_wp2_with (first | ((with_reducible refine gate_callee (f := 169) rfl ?_); refine goesL_ (some 11) rfl rfl Tryz.func169 (by kernel_rfl) rfl #[.string a0, .int .u8 128] rfl (by (try simp only [List.map_toArray, List.map_cons, List.map_nil]); first | done | rfl | (simp only [List.length_drop, List.length_take]; rfl)) ?_; (with_reducible refine (ucs_filled.calls a0 128 t636 t637 _ A2.out).mono ?_); rintro e w19 ⟨rfl, hb⟩; refine ⟨_, rfl, ?_⟩; have n0_ := Aside0.mk (below_step (by repeat (first | (with_reducible first | exact HB.out | apply below_alloc | apply pw_below_drewN | apply below_drew1) | exact HB.out)) hb); clear HB; have HB := n0_; clear n0_; (try clear hb); (try clear hb2); (try clear hk); (try clear hi)) | ((with_reducible refine gate_callee (f := 169) rfl ?_); refine goesL_ (some 16) rfl rfl Tryz.func169 (by kernel_rfl) rfl #[.string a0, .int .u8 191] rfl (by (try simp only [List.map_toArray, List.map_cons, List.map_nil]); first | done | rfl | (simp only [List.length_drop, List.length_take]; rfl)) ?_; (with_reducible refine (ucs_filled.calls a0 191 t638 t639 _ A3.out).mono ?_); rintro e w20 ⟨rfl, hb⟩; refine ⟨_, rfl, ?_⟩; have n0_ := Aside0.mk (below_step (by repeat (first | (with_reducible first | exact HB.out | apply below_alloc | apply pw_below_drewN | apply below_drew1) | exact HB.out)) hb); clear HB; have HB := n0_; clear n0_; (try clear hb); (try clear hb2); (try clear hk); (try clear hi)) | ((with_reducible refine gate_callee (f := 169) rfl ?_); refine goesL_ (some 29) rfl rfl Tryz.func169 (by kernel_rfl) rfl #[.string (⟨#[240, 144]⟩ : ByteArray), .int .u8 128] rfl (by (try simp only [List.map_toArray, List.map_cons, List.map_nil]); first | done | rfl | (simp only [List.length_drop, List.length_take]; rfl)) ?_; (with_reducible refine (ucs_filled.calls (⟨#[240, 144]⟩ : ByteArray) 128 t642 false _ A14.out).mono ?_); rintro e w21 ⟨rfl, hb⟩; refine ⟨_, rfl, ?_⟩; have n0_ := Aside0.mk (below_step (by repeat (first | (with_reducible first | exact HB.out | apply below_alloc | apply pw_below_drewN | apply below_drew1) | exact HB.out)) hb); clear HB; have HB := n0_; clear n0_; (try clear hb); (try clear hb2); (try clear hk); (try clear hi)))
       go_ret3
       exact ⟨by first | rfl | (simp [errW_none, errW_some] <;> rfl) | (simp [*, errW_none, errW_some] <;> rfl), by repeat (first | (with_reducible first | exact HB.out | apply below_alloc | apply pw_below_drewN | apply below_drew1) | exact HB.out)⟩
   · rw [if_neg c13] at H
     have c13b0 : (a0.toList == ([240] : List UInt8)) = false := beq_eq_false_iff_ne.mpr c13
     have c13b1 : (a0.toList != ([240] : List UInt8)) = true := bne_iff_ne.mpr c13
     by_cases c22 : a0.toList = ([237] : List UInt8)
     · rw [if_pos c22] at H
       have c22b0 : (a0.toList == ([237] : List UInt8)) = true := beq_iff_eq.mpr c22
       have c22b1 : (a0.toList != ([237] : List UInt8)) = false := bne_eq_false_iff_eq.mpr c22
       clear c22
       replace H := Option.bind_eq_some_iff.mp H
       obtain ⟨⟨t644, t645⟩, A230, H⟩ := H
       replace H : (if t637 = true then (some (t636, t644, t645)) else (some (t636, t644, false))) = some (r1, r2, r3) := H
       have A23 := Aside0.mk A230
       clear A230
       by_cases c24 : t637 = true
       · subst c24
         have H1 : (some (t636, t644, t645)) = some (r1, r2, r3) := by rw [if_pos rfl] at H; exact H
         clear H
         have H := H1
         clear H1
         simp only [Option.some.injEq, Prod.mk.injEq] at H
         obtain ⟨rfl, rfl, rfl⟩ := H
         go_enter Tryz.func154, Tryz.ntmps154
         go_wp2_with (first | ((with_reducible refine gate_callee (f := 169) rfl ?_); refine goesL_ (some 11) rfl rfl Tryz.func169 (by kernel_rfl) rfl #[.string a0, .int .u8 128] rfl (by (try simp only [List.map_toArray, List.map_cons, List.map_nil]); first | done | rfl | (simp only [List.length_drop, List.length_take]; rfl)) ?_; (with_reducible refine (ucs_filled.calls a0 128 t636 true _ A2.out).mono ?_); rintro e w25 ⟨rfl, hb⟩; refine ⟨_, rfl, ?_⟩; have n0_ := Aside0.mk (below_step (by repeat (first | (with_reducible first | exact HB.out | apply below_alloc | apply pw_below_drewN | apply below_drew1) | exact HB.out)) hb); clear HB; have HB := n0_; clear n0_; (try clear hb); (try clear hb2); (try clear hk); (try clear hi)) | ((with_reducible refine gate_callee (f := 169) rfl ?_); refine goesL_ (some 16) rfl rfl Tryz.func169 (by kernel_rfl) rfl #[.string a0, .int .u8 191] rfl (by (try simp only [List.map_toArray, List.map_cons, List.map_nil]); first | done | rfl | (simp only [List.length_drop, List.length_take]; rfl)) ?_; (with_reducible refine (ucs_filled.calls a0 191 t638 t639 _ A3.out).mono ?_); rintro e w26 ⟨rfl, hb⟩; refine ⟨_, rfl, ?_⟩; have n0_ := Aside0.mk (below_step (by repeat (first | (with_reducible first | exact HB.out | apply below_alloc | apply pw_below_drewN | apply below_drew1) | exact HB.out)) hb); clear HB; have HB := n0_; clear n0_; (try clear hb); (try clear hb2); (try clear hk); (try clear hi)) | ((with_reducible refine gate_callee (f := 169) rfl ?_); refine goesL_ (some 35) rfl rfl Tryz.func169 (by kernel_rfl) rfl #[.string (⟨#[237, 159]⟩ : ByteArray), .int .u8 191] rfl (by (try simp only [List.map_toArray, List.map_cons, List.map_nil]); first | done | rfl | (simp only [List.length_drop, List.length_take]; rfl)) ?_; (with_reducible refine (ucs_filled.calls (⟨#[237, 159]⟩ : ByteArray) 191 t644 t645 _ A23.out).mono ?_); rintro e w27 ⟨rfl, hb⟩; refine ⟨_, rfl, ?_⟩; have n0_ := Aside0.mk (below_step (by repeat (first | (with_reducible first | exact HB.out | apply below_alloc | apply pw_below_drewN | apply below_drew1) | exact HB.out)) hb); clear HB; have HB := n0_; clear n0_; (try clear hb); (try clear hb2); (try clear hk); (try clear hi)))
         go_ret3
         exact ⟨by first | rfl | (simp [errW_none, errW_some] <;> rfl) | (simp [*, errW_none, errW_some] <;> rfl), by repeat (first | (with_reducible first | exact HB.out | apply below_alloc | apply pw_below_drewN | apply below_drew1) | exact HB.out)⟩
       · replace c24 := Bool.eq_false_iff.mpr c24
         subst c24
         have H1 : (some (t636, t644, false)) = some (r1, r2, r3) := by rw [if_neg (show ¬ (false = true) by decide)] at H; exact H
         clear H
         have H := H1
         clear H1
         simp only [Option.some.injEq, Prod.mk.injEq] at H
         obtain ⟨rfl, rfl, rfl⟩ := H
         go_enter Tryz.func154, Tryz.ntmps154
         go_wp2_with (first | ((with_reducible refine gate_callee (f := 169) rfl ?_); refine goesL_ (some 11) rfl rfl Tryz.func169 (by kernel_rfl) rfl #[.string a0, .int .u8 128] rfl (by (try simp only [List.map_toArray, List.map_cons, List.map_nil]); first | done | rfl | (simp only [List.length_drop, List.length_take]; rfl)) ?_; (with_reducible refine (ucs_filled.calls a0 128 t636 false _ A2.out).mono ?_); rintro e w28 ⟨rfl, hb⟩; refine ⟨_, rfl, ?_⟩; have n0_ := Aside0.mk (below_step (by repeat (first | (with_reducible first | exact HB.out | apply below_alloc | apply pw_below_drewN | apply below_drew1) | exact HB.out)) hb); clear HB; have HB := n0_; clear n0_; (try clear hb); (try clear hb2); (try clear hk); (try clear hi)) | ((with_reducible refine gate_callee (f := 169) rfl ?_); refine goesL_ (some 16) rfl rfl Tryz.func169 (by kernel_rfl) rfl #[.string a0, .int .u8 191] rfl (by (try simp only [List.map_toArray, List.map_cons, List.map_nil]); first | done | rfl | (simp only [List.length_drop, List.length_take]; rfl)) ?_; (with_reducible refine (ucs_filled.calls a0 191 t638 t639 _ A3.out).mono ?_); rintro e w29 ⟨rfl, hb⟩; refine ⟨_, rfl, ?_⟩; have n0_ := Aside0.mk (below_step (by repeat (first | (with_reducible first | exact HB.out | apply below_alloc | apply pw_below_drewN | apply below_drew1) | exact HB.out)) hb); clear HB; have HB := n0_; clear n0_; (try clear hb); (try clear hb2); (try clear hk); (try clear hi)) | ((with_reducible refine gate_callee (f := 169) rfl ?_); refine goesL_ (some 35) rfl rfl Tryz.func169 (by kernel_rfl) rfl #[.string (⟨#[237, 159]⟩ : ByteArray), .int .u8 191] rfl (by (try simp only [List.map_toArray, List.map_cons, List.map_nil]); first | done | rfl | (simp only [List.length_drop, List.length_take]; rfl)) ?_; (with_reducible refine (ucs_filled.calls (⟨#[237, 159]⟩ : ByteArray) 191 t644 t645 _ A23.out).mono ?_); rintro e w30 ⟨rfl, hb⟩; refine ⟨_, rfl, ?_⟩; have n0_ := Aside0.mk (below_step (by repeat (first | (with_reducible first | exact HB.out | apply below_alloc | apply pw_below_drewN | apply below_drew1) | exact HB.out)) hb); clear HB; have HB := n0_; clear n0_; (try clear hb); (try clear hb2); (try clear hk); (try clear hi)))
         go_ret3
         exact ⟨by first | rfl | (simp [errW_none, errW_some] <;> rfl) | (simp [*, errW_none, errW_some] <;> rfl), by repeat (first | (with_reducible first | exact HB.out | apply below_alloc | apply pw_below_drewN | apply below_drew1) | exact HB.out)⟩
     · rw [if_neg c22] at H
       have c22b0 : (a0.toList == ([237] : List UInt8)) = false := beq_eq_false_iff_ne.mpr c22
       have c22b1 : (a0.toList != ([237] : List UInt8)) = true := bne_iff_ne.mpr c22
       by_cases c31 : a0.toList = ([244] : List UInt8)
       · rw [if_pos c31] at H
         have c31b0 : (a0.toList == ([244] : List UInt8)) = true := beq_iff_eq.mpr c31
         have c31b1 : (a0.toList != ([244] : List UInt8)) = false := bne_eq_false_iff_eq.mpr c31
         clear c31
         replace H := Option.bind_eq_some_iff.mp H
         obtain ⟨⟨t646, t647⟩, A320, H⟩ := H
         replace H : (if t637 = true then (some (t636, t646, t647)) else (some (t636, t646, false))) = some (r1, r2, r3) := H
         have A32 := Aside0.mk A320
         clear A320
         by_cases c33 : t637 = true
         · subst c33
           have H1 : (some (t636, t646, t647)) = some (r1, r2, r3) := by rw [if_pos rfl] at H; exact H
           clear H
           have H := H1
           clear H1
           simp only [Option.some.injEq, Prod.mk.injEq] at H
           obtain ⟨rfl, rfl, rfl⟩ := H
           go_enter Tryz.func154, Tryz.ntmps154
           go_wp2_with (first | ((with_reducible refine gate_callee (f := 169) rfl ?_); refine goesL_ (some 11) rfl rfl Tryz.func169 (by kernel_rfl) rfl #[.string a0, .int .u8 128] rfl (by (try simp only [List.map_toArray, List.map_cons, List.map_nil]); first | done | rfl | (simp only [List.length_drop, List.length_take]; rfl)) ?_; (with_reducible refine (ucs_filled.calls a0 128 t636 true _ A2.out).mono ?_); rintro e w34 ⟨rfl, hb⟩; refine ⟨_, rfl, ?_⟩; have n0_ := Aside0.mk (below_step (by repeat (first | (with_reducible first | exact HB.out | apply below_alloc | apply pw_below_drewN | apply below_drew1) | exact HB.out)) hb); clear HB; have HB := n0_; clear n0_; (try clear hb); (try clear hb2); (try clear hk); (try clear hi)) | ((with_reducible refine gate_callee (f := 169) rfl ?_); refine goesL_ (some 16) rfl rfl Tryz.func169 (by kernel_rfl) rfl #[.string a0, .int .u8 191] rfl (by (try simp only [List.map_toArray, List.map_cons, List.map_nil]); first | done | rfl | (simp only [List.length_drop, List.length_take]; rfl)) ?_; (with_reducible refine (ucs_filled.calls a0 191 t638 t639 _ A3.out).mono ?_); rintro e w35 ⟨rfl, hb⟩; refine ⟨_, rfl, ?_⟩; have n0_ := Aside0.mk (below_step (by repeat (first | (with_reducible first | exact HB.out | apply below_alloc | apply pw_below_drewN | apply below_drew1) | exact HB.out)) hb); clear HB; have HB := n0_; clear n0_; (try clear hb); (try clear hb2); (try clear hk); (try clear hi)) | ((with_reducible refine gate_callee (f := 169) rfl ?_); refine goesL_ (some 41) rfl rfl Tryz.func169 (by kernel_rfl) rfl #[.string (⟨#[244, 143]⟩ : ByteArray), .int .u8 191] rfl (by (try simp only [List.map_toArray, List.map_cons, List.map_nil]); first | done | rfl | (simp only [List.length_drop, List.length_take]; rfl)) ?_; (with_reducible refine (ucs_filled.calls (⟨#[244, 143]⟩ : ByteArray) 191 t646 t647 _ A32.out).mono ?_); rintro e w36 ⟨rfl, hb⟩; refine ⟨_, rfl, ?_⟩; have n0_ := Aside0.mk (below_step (by repeat (first | (with_reducible first | exact HB.out | apply below_alloc | apply pw_below_drewN | apply below_drew1) | exact HB.out)) hb); clear HB; have HB := n0_; clear n0_; (try clear hb); (try clear hb2); (try clear hk); (try clear hi)))
           go_ret3
           exact ⟨by first | rfl | (simp [errW_none, errW_some] <;> rfl) | (simp [*, errW_none, errW_some] <;> rfl), by repeat (first | (with_reducible first | exact HB.out | apply below_alloc | apply pw_below_drewN | apply below_drew1) | exact HB.out)⟩
         · replace c33 := Bool.eq_false_iff.mpr c33
           subst c33
           have H1 : (some (t636, t646, false)) = some (r1, r2, r3) := by rw [if_neg (show ¬ (false = true) by decide)] at H; exact H
           clear H
           have H := H1
           clear H1
           simp only [Option.some.injEq, Prod.mk.injEq] at H
           obtain ⟨rfl, rfl, rfl⟩ := H
           go_enter Tryz.func154, Tryz.ntmps154
           go_wp2_with (first | ((with_reducible refine gate_callee (f := 169) rfl ?_); refine goesL_ (some 11) rfl rfl Tryz.func169 (by kernel_rfl) rfl #[.string a0, .int .u8 128] rfl (by (try simp only [List.map_toArray, List.map_cons, List.map_nil]); first | done | rfl | (simp only [List.length_drop, List.length_take]; rfl)) ?_; (with_reducible refine (ucs_filled.calls a0 128 t636 false _ A2.out).mono ?_); rintro e w37 ⟨rfl, hb⟩; refine ⟨_, rfl, ?_⟩; have n0_ := Aside0.mk (below_step (by repeat (first | (with_reducible first | exact HB.out | apply below_alloc | apply pw_below_drewN | apply below_drew1) | exact HB.out)) hb); clear HB; have HB := n0_; clear n0_; (try clear hb); (try clear hb2); (try clear hk); (try clear hi)) | ((with_reducible refine gate_callee (f := 169) rfl ?_); refine goesL_ (some 16) rfl rfl Tryz.func169 (by kernel_rfl) rfl #[.string a0, .int .u8 191] rfl (by (try simp only [List.map_toArray, List.map_cons, List.map_nil]); first | done | rfl | (simp only [List.length_drop, List.length_take]; rfl)) ?_; (with_reducible refine (ucs_filled.calls a0 191 t638 t639 _ A3.out).mono ?_); rintro e w38 ⟨rfl, hb⟩; refine ⟨_, rfl, ?_⟩; have n0_ := Aside0.mk (below_step (by repeat (first | (with_reducible first | exact HB.out | apply below_alloc | apply pw_below_drewN | apply below_drew1) | exact HB.out)) hb); clear HB; have HB := n0_; clear n0_; (try clear hb); (try clear hb2); (try clear hk); (try clear hi)) | ((with_reducible refine gate_callee (f := 169) rfl ?_); refine goesL_ (some 41) rfl rfl Tryz.func169 (by kernel_rfl) rfl #[.string (⟨#[244, 143]⟩ : ByteArray), .int .u8 191] rfl (by (try simp only [List.map_toArray, List.map_cons, List.map_nil]); first | done | rfl | (simp only [List.length_drop, List.length_take]; rfl)) ?_; (with_reducible refine (ucs_filled.calls (⟨#[244, 143]⟩ : ByteArray) 191 t646 t647 _ A32.out).mono ?_); rintro e w39 ⟨rfl, hb⟩; refine ⟨_, rfl, ?_⟩; have n0_ := Aside0.mk (below_step (by repeat (first | (with_reducible first | exact HB.out | apply below_alloc | apply pw_below_drewN | apply below_drew1) | exact HB.out)) hb); clear HB; have HB := n0_; clear n0_; (try clear hb); (try clear hb2); (try clear hk); (try clear hi)))
           go_ret3
           exact ⟨by first | rfl | (simp [errW_none, errW_some] <;> rfl) | (simp [*, errW_none, errW_some] <;> rfl), by repeat (first | (with_reducible first | exact HB.out | apply below_alloc | apply pw_below_drewN | apply below_drew1) | exact HB.out)⟩
       · rw [if_neg c31] at H
         have c31b0 : (a0.toList == ([244] : List UInt8)) = false := beq_eq_false_iff_ne.mpr c31
         have c31b1 : (a0.toList != ([244] : List UInt8)) = true := bne_iff_ne.mpr c31
         by_cases c40 : t637 = true
         · subst c40
           have H1 : (some (t636, t638, t639)) = some (r1, r2, r3) := by rw [if_pos rfl] at H; exact H
           clear H
           have H := H1
           clear H1
           simp only [Option.some.injEq, Prod.mk.injEq] at H
           obtain ⟨rfl, rfl, rfl⟩ := H
           go_enter Tryz.func154, Tryz.ntmps154
           go_wp2_with (first | ((with_reducible refine gate_callee (f := 169) rfl ?_); refine goesL_ (some 11) rfl rfl Tryz.func169 (by kernel_rfl) rfl #[.string a0, .int .u8 128] rfl (by (try simp only [List.map_toArray, List.map_cons, List.map_nil]); first | done | rfl | (simp only [List.length_drop, List.length_take]; rfl)) ?_; (with_reducible refine (ucs_filled.calls a0 128 t636 true _ A2.out).mono ?_); rintro e w41 ⟨rfl, hb⟩; refine ⟨_, rfl, ?_⟩; have n0_ := Aside0.mk (below_step (by repeat (first | (with_reducible first | exact HB.out | apply below_alloc | apply pw_below_drewN | apply below_drew1) | exact HB.out)) hb); clear HB; have HB := n0_; clear n0_; (try clear hb); (try clear hb2); (try clear hk); (try clear hi)) | ((with_reducible refine gate_callee (f := 169) rfl ?_); refine goesL_ (some 16) rfl rfl Tryz.func169 (by kernel_rfl) rfl #[.string a0, .int .u8 191] rfl (by (try simp only [List.map_toArray, List.map_cons, List.map_nil]); first | done | rfl | (simp only [List.length_drop, List.length_take]; rfl)) ?_; (with_reducible refine (ucs_filled.calls a0 191 t638 t639 _ A3.out).mono ?_); rintro e w42 ⟨rfl, hb⟩; refine ⟨_, rfl, ?_⟩; have n0_ := Aside0.mk (below_step (by repeat (first | (with_reducible first | exact HB.out | apply below_alloc | apply pw_below_drewN | apply below_drew1) | exact HB.out)) hb); clear HB; have HB := n0_; clear n0_; (try clear hb); (try clear hb2); (try clear hk); (try clear hi)))
           go_ret3
           exact ⟨by first | rfl | (simp [errW_none, errW_some] <;> rfl) | (simp [*, errW_none, errW_some] <;> rfl), by repeat (first | (with_reducible first | exact HB.out | apply below_alloc | apply pw_below_drewN | apply below_drew1) | exact HB.out)⟩
         · replace c40 := Bool.eq_false_iff.mpr c40
           subst c40
           have H1 : (some (t636, t638, false)) = some (r1, r2, r3) := by rw [if_neg (show ¬ (false = true) by decide)] at H; exact H
           clear H
           have H := H1
           clear H1
           simp only [Option.some.injEq, Prod.mk.injEq] at H
           obtain ⟨rfl, rfl, rfl⟩ := H
           go_enter Tryz.func154, Tryz.ntmps154
           go_wp2_with (first | ((with_reducible refine gate_callee (f := 169) rfl ?_); refine goesL_ (some 11) rfl rfl Tryz.func169 (by kernel_rfl) rfl #[.string a0, .int .u8 128] rfl (by (try simp only [List.map_toArray, List.map_cons, List.map_nil]); first | done | rfl | (simp only [List.length_drop, List.length_take]; rfl)) ?_; (with_reducible refine (ucs_filled.calls a0 128 t636 false _ A2.out).mono ?_); rintro e w43 ⟨rfl, hb⟩; refine ⟨_, rfl, ?_⟩; have n0_ := Aside0.mk (below_step (by repeat (first | (with_reducible first | exact HB.out | apply below_alloc | apply pw_below_drewN | apply below_drew1) | exact HB.out)) hb); clear HB; have HB := n0_; clear n0_; (try clear hb); (try clear hb2); (try clear hk); (try clear hi)) | ((with_reducible refine gate_callee (f := 169) rfl ?_); refine goesL_ (some 16) rfl rfl Tryz.func169 (by kernel_rfl) rfl #[.string a0, .int .u8 191] rfl (by (try simp only [List.map_toArray, List.map_cons, List.map_nil]); first | done | rfl | (simp only [List.length_drop, List.length_take]; rfl)) ?_; (with_reducible refine (ucs_filled.calls a0 191 t638 t639 _ A3.out).mono ?_); rintro e w44 ⟨rfl, hb⟩; refine ⟨_, rfl, ?_⟩; have n0_ := Aside0.mk (below_step (by repeat (first | (with_reducible first | exact HB.out | apply below_alloc | apply pw_below_drewN | apply below_drew1) | exact HB.out)) hb); clear HB; have HB := n0_; clear n0_; (try clear hb); (try clear hb2); (try clear hk); (try clear hi)))
           go_ret3
           exact ⟨by first | rfl | (simp [errW_none, errW_some] <;> rfl) | (simp [*, errW_none, errW_some] <;> rfl), by repeat (first | (with_reducible first | exact HB.out | apply below_alloc | apply pw_below_drewN | apply below_drew1) | exact HB.out)⟩
end Go.Proofs.YtlocbpaikdgmbaaGreatDoor.P
end
section
namespace Go.Proofs.YtlocbpaikdgmbaaGreatDoor.P
open Go.RowKit Go.Proofs.YtlocbpaikdgmbaaGreatDoorW.PrintWords Go.Proofs.YtlocbpaikdgmbaaGreatDoorW.PrintLast Go.Proofs.YtlocbpaikdgmbaaGreatDoorW.PrintMore
def spanCell (k j : Nat) : Int :=
 if j = 0 then 160 else if j = 1 then 55295 else if j = 2 then 57344 else if j = 3 then 64975 else if j = 4 then 65008 else if j = 5 then 65519
 else if j / 2 < k + 2 then (if j % 2 = 0 then ((j / 2 - 2 : Nat) : Int) * 65536 else ((j / 2 - 2 : Nat) : Int) * 65536 + 65533) else 0
def spanTab (k : Nat) : Array Value := ((List.range 38).map fun j => Value.int .i64 (spanCell k j)).toArray
theorem spanTab_size (k : Nat) : (spanTab k).size = 38 := by simp [spanTab]
theorem spanTab_get (k j : Nat) (h : j < 38) : (spanTab k)[j]? = some (.int .i64 (spanCell k j)) := by simp [spanTab, h]
theorem spanTab_step (k : Nat) (h1 : 1 ≤ k) (h2 : k ≤ 16) : ((spanTab k).setIfInBounds ((2 + k) * 2) (.int .i64 ((k : Int) * 65536))).setIfInBounds ((2 + k) * 2 + 1) (.int .i64 ((k : Int) * 65536 + 65533)) = spanTab (k + 1) := by
 apply Array.ext_getElem?
 intro j
 by_cases hj : j < 38
 · rw [spanTab_get (k + 1) j hj, Array.getElem?_setIfInBounds, Array.getElem?_setIfInBounds, spanTab_get k j hj]
   simp only [Array.size_setIfInBounds, spanTab_size]
   by_cases e1 : (2 + k) * 2 + 1 = j
   · subst e1
     rw [if_pos rfl, if_pos hj]
     unfold spanCell
     simp only [show ((2 + k) * 2 + 1) / 2 = k + 2 by omega, show ((2 + k) * 2 + 1) % 2 = 1 by omega]
     simp
     omega
   · rw [if_neg e1]
     by_cases e2 : (2 + k) * 2 = j
     · subst e2
       rw [if_pos rfl, if_pos hj]
       unfold spanCell
       simp only [show ((2 + k) * 2) / 2 = k + 2 by omega, show ((2 + k) * 2) % 2 = 0 by omega]
       simp
       omega
     · rw [if_neg e2]
       have : j / 2 < k + 2 ↔ j / 2 < k + 1 + 2 := by omega
       unfold spanCell
       simp only [this]
 · rw [Array.getElem?_eq_none (by simp [spanTab_size]; omega), Array.getElem?_eq_none (by rw [spanTab_size]; omega)]
def spanAll : Array Value := (spanTab 17).setIfInBounds 32 (.int .i64 921600)
theorem span_build : Tryz.prog.built 211 [(0, .agg #[.int .i64 160, .int .i64 55295]), (1, .agg #[.int .i64 57344, .int .i64 64975]), (2, .agg #[.int .i64 65008, .int .i64 65519])] = some (spanTab 1) := by kernel_rfl
theorem span_size : (Tryz.prog.info? 211).map (·.size) = some 38 := by kernel_rfl
section
variable {P : Program}
theorem wpList_build_to {ops : Array Oper} {rest : List Oper} {o : Oper} {a : Act} {w : World} {Q : Exit → Act → World → Prop} (hg : o.guard = none) (t : TypeId) (parts : Array (Nat × Operand)) (ho : o.op = .build t parts) (cs : Array Value)
 (hb : P.built t (parts.map fun (i, x) => (i, a.eval x)).toList = some cs) (h : wpList P ops Q rest (a.put o.dst (.agg cs)) w) : wpList P ops Q (o :: rest) a w :=
 wpList_build hg t parts ho (by rw [hb]; rfl) (by rw [hb]; exact h)
end
theorem spanTab_one (k : Nat) : (spanTab k).all (·.oneCell') = true := by simp [spanTab, Value.oneCell']
theorem heap_setRow_other (w : World) (g k : Nat) (cs : Array Value) (h : k ≠ g) : (w.setRow g cs).heap[k]? = w.heap[k]? := by
 simp only [World.setRow, Array.getElem?_modify]
 rw [if_neg (fun e => h e.symm)]
theorem spanAll_one : spanAll.all (·.oneCell') = true := by kernel_rfl
structure SpInv (w wr : World) (cs : Array Value) : Prop where
 s : wr.heap[w.heap.size + 1]? = some (.cells cs 211 (0, 0))
 r : ∃ z, wr.heap[w.heap.size]? = some (.cells z 211 (0, 0)) ∧ z.size = 38
 b : Below w.heap.size w wr
set_option maxRecDepth 100000 in
set_option maxHeartbeats 400000 in
theorem ucs_spans.calls (w : World) :
 Calls Tryz.prog 170 #[] w fun e w' => e = .returned (.agg spanAll) ∧ Below w.heap.size w w' := by
 obtain ⟨T, hT⟩ : ∃ T, T = spanTab := ⟨_, rfl⟩
 have hsb := span_build
 have h1 := spanTab_one 1
 have hz := spanTab_size 1
 rw [← hT] at hsb h1 hz
 have HB := Lib.hid hsb
 have H1 := Lib.hid h1
 have HZ := Lib.hid hz
 have HT := Lib.hid hT
 clear hsb h1 hz hT
 go_enter Tryz.func170, Tryz.ntmps170
 go_wp2_with (first | (refine wpList_build_to rfl 211 _ rfl (T 1) ?hb ?_) | (refine wpList_store_row rfl 211 _ _ rfl (w.heap.size + 1) (T 1) rfl rfl 211 ?old ?hg ?hi ?ho H1.out ?_))
 case hb => exact HB.out
 case hg => exact heap_alloc2_new w _ _
 case hi => rw [HZ.out]; exact span_size
 case ho => rw [HZ.out]; rfl
 go_loopw [2] (fun p wr => ∃ k : Nat, 1 ≤ k ∧ k ≤ 17 ∧ p = .int .i64 k ∧ Hid (SpInv w wr (T k))) (fun p _ => 17 - (intOf p).toNat)
 case atStart =>
  refine ⟨1, by omega, by omega, rfl, Lib.hid ⟨?_, ⟨_, (heap_setRow_other _ _ _ _ (by omega)).trans (heap_alloc2_old w _ _), rfl⟩, ?_⟩⟩
  · exact setRow_heap _ _ _ _ _ _ (heap_alloc2_new w _ _)
  · exact (((Below.refl _ _).alloc (Nat.le_refl _) _).alloc (by simp) _).trans ⟨rfl, rfl, rfl, by simp, fun k hk => heap_setRow_other _ _ _ _ (by omega)⟩
 case round =>
  obtain ⟨k, hk1, hk2, rfl, HS⟩ := hrel
  have hcell : ∀ j, j < 38 → wr.cell? ⟨w.heap.size + 1, j, none⟩ = some (.int .i64 (spanCell k j)) := fun j hj => by
   rw [cell_of_row _ _ _ _ _ _ HS.out.s, HT.out]; exact spanTab_get k j hj
  have hfree : ∀ j, wr.frozen? ⟨w.heap.size + 1, j, none⟩ = false := fun j => frozen_of_row _ _ j _ _ HS.out.s
  by_cases hlt : k ≤ 16
  · have hkc : (1 : Int) ≤ (k : Int) := by omega
    have hkd : (k : Int) ≤ 16 := by omega
    have c0 := hcell ((2 + k) * 2) (by omega)
    have c1 := hcell ((2 + k) * 2 + 1) (by omega)
    have f0 := hfree ((2 + k) * 2)
    have f1 := hfree ((2 + k) * 2 + 1)
    clear hcell hfree
    go_wp2
    go_roundw
    case rel =>
     refine ⟨k + 1, by omega, by omega, by go_num, Lib.hid ⟨?_, ?_, ?_⟩⟩
     · have h1 := heap_setCell_same _ _ ((2 + k) * 2 + 1) _ _ (.int .i64 ((k : Int) * 65536 + 65533)) (heap_setCell_same _ _ ((2 + k) * 2) _ _ (.int .i64 ((k : Int) * 65536)) HS.out.s)
       rw [HT.out, spanTab_step k hk1 hlt] at h1
       rw [HT.out]
       exact h1
     · obtain ⟨z, hz, hs⟩ := HS.out.r
       exact ⟨z, (heap_setCell_other _ _ _ _ (by simp)).trans ((heap_setCell_other _ _ _ _ (by simp)).trans hz), hs⟩
     · exact (HS.out.b.setCell (by simp) _).setCell (by simp) _
    case measure => simp [intOf]; omega
  · obtain rfl : k = 17 := by omega
    have c0 := hcell 32 (by omega)
    have f0 := hfree 32
    have HS2 := Lib.hid (heap_setCell_same _ _ 32 _ _ (.int .i64 921600) HS.out.s)
    rw [HT.out] at HS2
    clear hcell hfree
    obtain ⟨z, hz, hzs⟩ := HS.out.r
    have HZ1 := Lib.hid ((heap_setCell_other wr ⟨w.heap.size + 1, 32, none⟩ w.heap.size (.int .i64 921600) (by simp)).trans hz)
    have HZ2 := Lib.hid hzs
    clear hz hzs
    have HA := Lib.hid (show (spanTab 17).setIfInBounds 32 (.int .i64 921600) = spanAll from rfl)
    rw [HA.out] at HS2
    have hsz : spanAll.size = 38 := by simp [spanAll, spanTab_size]
    have hone := spanAll_one
    obtain ⟨A, hA⟩ : ∃ A, A = spanAll := ⟨_, rfl⟩
    rw [← hA] at HS2 hsz hone
    have HAE := Lib.hid hA
    have HSZ := Lib.hid hsz
    have HO := Lib.hid hone
    clear HA hA hsz hone
    have HB2 := Lib.hid HS.out.b
    go_wp2_with (first | (refine wpList_load_row rfl 211 _ rfl (w.heap.size + 1) rfl 211 A (0, 0) _ HS2.out Tryz.underlying211 rfl ?hi ?_) | (refine wpList_store_row rfl 211 _ _ rfl w.heap.size A rfl rfl 211 z HZ1.out ?hj ?ho HO.out ?_))
    case hi => rw [HSZ.out]; exact span_size
    case hj => rw [HSZ.out]; exact span_size
    case ho => rw [HSZ.out]; exact HZ2.out
    refine bodyPost_ret (v := .agg A) ?_ rfl ⟨by rw [HAE.out], HB2.out.trans ⟨rfl, rfl, rfl, by simp, fun i hi => ?_⟩⟩
    · exact results_cell_row Tryz.results170 _ _ w.heap.size 211 A (0, 0) _ rfl (setRow_heap _ _ _ _ _ _ HZ1.out) Tryz.underlying211 rfl (by rw [HSZ.out]; exact span_size)
    · rw [heap_setRow_other _ _ _ _ (by omega)]
      exact heap_setCell_other _ _ _ _ (by simp; omega)
theorem span_index (k : Nat) (hk : k < 19) (W : World) :
 (Instr.index 211 (.agg spanAll) (.int .i64 (k : Int))).run Tryz.prog W = .ok (.agg #[.int .i64 (spanLo k), .int .i64 (spanHi k)]) W :=
 match k, hk with
 | 0, _ => by kernel_rfl
 | 1, _ => by kernel_rfl
 | 2, _ => by kernel_rfl
 | 3, _ => by kernel_rfl
 | 4, _ => by kernel_rfl
 | 5, _ => by kernel_rfl
 | 6, _ => by kernel_rfl
 | 7, _ => by kernel_rfl
 | 8, _ => by kernel_rfl
 | 9, _ => by kernel_rfl
 | 10, _ => by kernel_rfl
 | 11, _ => by kernel_rfl
 | 12, _ => by kernel_rfl
 | 13, _ => by kernel_rfl
 | 14, _ => by kernel_rfl
 | 15, _ => by kernel_rfl
 | 16, _ => by kernel_rfl
 | 17, _ => by kernel_rfl
 | 18, _ => by kernel_rfl
 | n + 19, h => absurd h (by omega)
def ucs_meets.f (low high : Int) : Option Bool := some (meetsFrom low high 19 0)
set_option maxRecDepth 100000 in
set_option maxHeartbeats 400000 in
theorem ucs_meets.calls (low high : Int) (r : Bool) (w : World) (h : ucs_meets.f low high = some r) :
 Calls Tryz.prog 155 #[.int .i64 low, .int .i64 high] w fun e w' => e = .returned (.bool r) ∧ Below w.heap.size w w' := by
 injection h with h
 have HR := Lib.hid h
 clear h
 go_enter Tryz.func155, Tryz.ntmps155
 go_wp2_with fail
 refine (ucs_spans.calls _).mono ?_
 rintro e w1 ⟨rfl, hb⟩
 have HX := Lib.hid span_index
 obtain ⟨A, hA⟩ : ∃ A, A = spanAll := ⟨_, rfl⟩
 rw [← hA] at HX ⊢
 clear hA
 go_wp2
 go_loopw [6, 8] (fun _ i wr => ∃ k d : Nat, k + d = 19 ∧ i = .int .i64 k ∧ Hid (meetsFrom low high d k = r) ∧ Hid (Below w.heap.size w wr)) (fun _ i _ => 19 - (intOf i).toNat)
 case atStart => exact ⟨0, 19, rfl, rfl, HR, Lib.hid hb⟩
 case round =>
  obtain ⟨k, d, hkd, rfl, HM, HBw⟩ := hrel
  cases d with
  | zero =>
   have hk : k = 19 := by omega
   subst hk
   go_wp2
   go_ret
   exact ⟨by rw [← HM.out]; rfl, HBw.out⟩
  | succ d =>
   have hlt : k < 19 := by omega
   have hi := HX.out k hlt
   have HM1 := HM.out
   rw [meetsFrom] at HM1
   obtain ⟨a, ha⟩ : ∃ a, a = spanLo k := ⟨_, rfl⟩
   obtain ⟨b, hb'⟩ : ∃ b, b = spanHi k := ⟨_, rfl⟩
   rw [← ha, ← hb'] at hi HM1
   clear ha hb' HM
   by_cases h1 : low ≤ b
   · have h1b : decide (low ≤ b) = true := decide_eq_true h1
     by_cases h2 : a ≤ high
     · have h2b : decide (a ≤ high) = true := decide_eq_true h2
       have HMM := Lib.hid (show true = r by rw [← HM1]; simp [h1b, h2b])
       clear HM1
       go_wp2
       go_ret
       exact ⟨by rw [← HMM.out]; rfl, HBw.out.alloc HBw.out.size _⟩
     · have h2b : decide (a ≤ high) = false := decide_eq_false h2
       have HMM := Lib.hid (show meetsFrom low high d (k + 1) = r by rw [← HM1]; simp [h1b, h2b])
       clear HM1
       go_wp2
       go_roundw
       case rel => exact ⟨k + 1, d, by omega, by go_num, HMM, Lib.hid (HBw.out.alloc HBw.out.size _)⟩
       case measure => simp [intOf]; omega
   · have h1b : decide (low ≤ b) = false := decide_eq_false h1
     have HMM := Lib.hid (show meetsFrom low high d (k + 1) = r by rw [← HM1]; simp [h1b])
     clear HM1
     go_wp2
     go_roundw
     case rel => exact ⟨k + 1, d, by omega, by go_num, HMM, Lib.hid (HBw.out.alloc HBw.out.size _)⟩
     case measure => simp [intOf]; omega
end Go.Proofs.YtlocbpaikdgmbaaGreatDoor.P
end
section
namespace Go.Proofs.YtlocbpaikdgmbaaGreatDoor.P
open Go.RowKit Go.Proofs.YtlocbpaikdgmbaaGreatDoorW.PrintWords Go.Proofs.YtlocbpaikdgmbaaGreatDoorW.PrintLast Go.Proofs.YtlocbpaikdgmbaaGreatDoorW.PrintMore
attribute [local go_sem] max2_int min2_int max_two min_two max_three min_three max_four min_four
set_option linter.unusedVariables false
set_option linter.unusedSimpArgs false
def ucs_Fits.j0 : Nat → ByteArray → Bool → Option (Bool)
 | 0, _, _ => none
 | k + 1, x0, x12 => if x12 = true then (some false) else ((ucs_ends.f x0).bind fun bt648 => (if bt648.2.2 = true then ((ucs_meets.f bt648.1 bt648.2.1).bind fun t651 => (some t651)) else (some false)))
def ucs_Fits.f (k : Nat) (a0 : ByteArray) : Option (Bool) := if a0.toList = ([] : List UInt8) then (ucs_Fits.j0 k a0 true) else (if 0 < (a0.size : Int) then (ucs_Fits.j0 k a0 (decide ((bt a0 0) < 192))) else (none))
set_option maxHeartbeats 8000000 in
set_option maxRecDepth 100000 in
theorem ucs_Fits.calls (k : Nat) (a0 : ByteArray) (r : Bool) (w : World) (h : ucs_Fits.f k a0 = some r) :
 Calls Tryz.prog 127 #[.string a0] w fun e w' => e = .returned (.bool r) ∧ Below w.heap.size w w' := by
 have HB := Aside0.mk (Below.refl w.heap.size w)
 have H : (if a0.toList = ([] : List UInt8) then (ucs_Fits.j0 k a0 true) else (if 0 < (a0.size : Int) then (ucs_Fits.j0 k a0 (decide ((bt a0 0) < 192))) else (none))) = some r := h
 clear h
 have HC2 := Aside0.mk H
 clear H
 go_enter Tryz.func127, Tryz.ntmps127
 go_upto_region 1 with (fail)
 go_cut [12] (fun v12 wc => ∃ (kq : Nat) (x12_1 : Bool), v12 = .bool x12_1 ∧ Aside0 (ucs_Fits.j0 kq a0 x12_1 = some r) ∧ Aside0 (kq ≤ k) ∧ Aside0 (Below w.heap.size w wc))
 case first =>
  have H := HC2.out
  clear HC2
  by_cases c3 : a0.toList = ([] : List UInt8)
  · rw [if_pos c3] at H
    have c3b0 : (a0.toList == ([] : List UInt8)) = true := beq_iff_eq.mpr c3
    have c3b1 : (a0.toList != ([] : List UInt8)) = false := bne_eq_false_iff_eq.mpr c3
    clear c3
    (first | rw [c3b0] | (simp only [i64_w, i32_w]; rw [c3b0]) | skip)
    have H' := Aside0.mk H
    clear H
    go_wp2
    go_meet
    case rel => exact ⟨_, (true), (by first | rfl | (simp; done) | (simp [*]; done)), H', ⟨by first | omega | exact Nat.le_refl _⟩, ⟨by repeat (first | (with_reducible first | exact HB.out | apply below_alloc | apply pw_below_drewN | apply below_drew1) | exact HB.out)⟩⟩
  · rw [if_neg c3] at H
    have c3b0 : (a0.toList == ([] : List UInt8)) = false := beq_eq_false_iff_ne.mpr c3
    have c3b1 : (a0.toList != ([] : List UInt8)) = true := bne_iff_ne.mpr c3
    (first | rw [c3b0] | (simp only [i64_w, i32_w]; rw [c3b0]) | skip)
    by_cases c4 : 0 < (a0.size : Int)
    · rw [if_pos c4] at H
      have c4b0 : decide (0 < (a0.size : Int)) = true := decide_eq_true c4
      have c4b1 : decide (0 < a0.size) = true := decide_eq_true (by omega)
      clear c4
      have H' := Aside0.mk H
      clear H
      have p5 : 0 ≤ (0 : Int) := (by omega)
      have q5 : 0 < a0.size := (by have : (0 : Int) < (a0.size : Int) := of_decide_eq_true (by first | (with_reducible assumption) | assumption); omega)
      have hx5 : ∀ h : 0 < a0.size, ((a0[0]'h).toNat : Int) = bt a0 0 := bt_at a0 0
      clear p5
      have qi5 : (0 < (a0.size : Int)) = True := eq_true (of_decide_eq_true (by first | (with_reducible assumption) | assumption))
      replace q5 := eq_true q5
      go_wp2
      go_meet
      case rel => exact ⟨_, (decide ((bt a0 0) < 192)), (by first | rfl | (simp; done) | (simp [*]; done)), H', ⟨by first | omega | exact Nat.le_refl _⟩, ⟨by repeat (first | (with_reducible first | exact HB.out | apply below_alloc | apply pw_below_drewN | apply below_drew1) | exact HB.out)⟩⟩
    · rw [if_neg c4] at H
      exact absurd H (by simp)
 case rest =>
  clear HC2
  try clear c1
  try clear p2
  try clear c3
  try clear c3b0
  try clear c3b1
  try clear c4
  try clear c4b0
  try clear c4b1
  try clear p5
  try clear q5
  try clear hx5
  try clear qi5
  try clear p5
  try clear q5
  obtain ⟨kq, x12_1, rfl, HA, HJ1, HB⟩ := hcut
  cases kq with
  | zero => exact absurd HA.out (by simp [ucs_Fits.j0])
  | succ kj1 =>
   have H := HA.out
   clear HA
   simp only [ucs_Fits.j0] at H
   by_cases c6 : x12_1 = true
   · subst c6
     have H1 : (some false) = some r := by rw [if_pos rfl] at H; exact H
     clear H
     have H := H1
     clear H1
     obtain rfl := Option.some.inj H
     go_wp2
     go_ret
     exact ⟨by first | rfl | (simp [errW_none, errW_some] <;> rfl) | (simp [*, errW_none, errW_some] <;> rfl), by repeat (first | (with_reducible first | exact HB.out | apply below_alloc | apply pw_below_drewN | apply below_drew1) | exact HB.out)⟩
   · replace c6 := Bool.eq_false_iff.mpr c6
     subst c6
     have H1 : ((ucs_ends.f a0).bind fun bt648 => (if bt648.2.2 = true then ((ucs_meets.f bt648.1 bt648.2.1).bind fun t651 => (some t651)) else (some false))) = some r := by rw [if_neg (show ¬ (false = true) by decide)] at H; exact H
     clear H
     have H := H1
     clear H1
     replace H := Option.bind_eq_some_iff.mp H
     obtain ⟨⟨t648, t649, t650⟩, A70, H⟩ := H
     replace H : (if t650 = true then ((ucs_meets.f t648 t649).bind fun t651 => (some t651)) else (some false)) = some r := H
     have A7 := Aside0.mk A70
     clear A70
     by_cases c8 : t650 = true
     · subst c8
       have H1 : ((ucs_meets.f t648 t649).bind fun t651 => (some t651)) = some r := by rw [if_pos rfl] at H; exact H
       clear H
       have H := H1
       clear H1
       replace H := Option.bind_eq_some_iff.mp H
       obtain ⟨t651, A90, H⟩ := H
       replace H : (some t651) = some r := H
       have A9 := Aside0.mk A90
       clear A90
       obtain rfl := Option.some.inj H
       go_wp2_with (first | ((with_reducible refine gate_callee (f := 154) rfl ?_); refine goesL_ (some 15) rfl rfl Tryz.func154 (by kernel_rfl) rfl #[.string a0] rfl (by (try simp only [List.map_toArray, List.map_cons, List.map_nil]); first | done | rfl | (simp only [List.length_drop, List.length_take]; rfl)) ?_; (with_reducible refine (ucs_ends.calls a0 t648 t649 true _ A7.out).mono ?_); rintro e w10 ⟨rfl, hb⟩; refine ⟨_, rfl, ?_⟩; have n0_ := Aside0.mk (below_step (by repeat (first | (with_reducible first | exact HB.out | apply below_alloc | apply pw_below_drewN | apply below_drew1) | exact HB.out)) hb); clear HB; have HB := n0_; clear n0_; (try clear hb); (try clear hb2); (try clear hk); (try clear hi)) | (go_at_call 155; (with_reducible refine (ucs_meets.calls t648 t649 t651 _ A9.out).mono ?_); rintro e w11 ⟨rfl, hb⟩; have n0_ := Aside0.mk (below_step (by repeat (first | (with_reducible first | exact HB.out | apply below_alloc | apply pw_below_drewN | apply below_drew1) | exact HB.out)) hb); clear HB; have HB := n0_; clear n0_; (try clear hb); (try clear hb2); (try clear hk); (try clear hi)))
       go_ret
       exact ⟨by first | rfl | (simp [errW_none, errW_some] <;> rfl) | (simp [*, errW_none, errW_some] <;> rfl), by repeat (first | (with_reducible first | exact HB.out | apply below_alloc | apply pw_below_drewN | apply below_drew1) | exact HB.out)⟩
     · replace c8 := Bool.eq_false_iff.mpr c8
       subst c8
       have H1 : (some false) = some r := by rw [if_neg (show ¬ (false = true) by decide)] at H; exact H
       clear H
       have H := H1
       clear H1
       obtain rfl := Option.some.inj H
       go_wp2_with (first | ((with_reducible refine gate_callee (f := 154) rfl ?_); refine goesL_ (some 15) rfl rfl Tryz.func154 (by kernel_rfl) rfl #[.string a0] rfl (by (try simp only [List.map_toArray, List.map_cons, List.map_nil]); first | done | rfl | (simp only [List.length_drop, List.length_take]; rfl)) ?_; (with_reducible refine (ucs_ends.calls a0 t648 t649 false _ A7.out).mono ?_); rintro e w12 ⟨rfl, hb⟩; refine ⟨_, rfl, ?_⟩; have n0_ := Aside0.mk (below_step (by repeat (first | (with_reducible first | exact HB.out | apply below_alloc | apply pw_below_drewN | apply below_drew1) | exact HB.out)) hb); clear HB; have HB := n0_; clear n0_; (try clear hb); (try clear hb2); (try clear hk); (try clear hi)))
       go_ret
       exact ⟨by first | rfl | (simp [errW_none, errW_some] <;> rfl) | (simp [*, errW_none, errW_some] <;> rfl), by repeat (first | (with_reducible first | exact HB.out | apply below_alloc | apply pw_below_drewN | apply below_drew1) | exact HB.out)⟩
def ucs_May.f (a0 : Int) : Option (Bool) := (ucs_meets.f a0 a0).bind fun t620 => (some t620)
set_option maxHeartbeats 8000000 in
set_option maxRecDepth 100000 in
theorem ucs_May.calls (a0 : Int) (r : Bool) (w : World) (h : ucs_May.f a0 = some r) :
 Calls Tryz.prog 167 #[.int .i64 a0] w fun e w' => e = .returned (.bool r) ∧ Below w.heap.size w w' := by
 have HB := Aside0.mk (Below.refl w.heap.size w)
 have H : ((ucs_meets.f a0 a0).bind fun t620 => (some t620)) = some r := h
 clear h
 replace H := Option.bind_eq_some_iff.mp H
 obtain ⟨t620, A20, H⟩ := H
 replace H : (some t620) = some r := H
 have A2 := Aside0.mk A20
 clear A20
 obtain rfl := Option.some.inj H
 go_enter Tryz.func167, Tryz.ntmps167
 go_wp2_with (first | ((with_reducible refine gate_callee (f := 155) rfl ?_); refine goesL_ (some 5) rfl rfl Tryz.func155 (by kernel_rfl) rfl #[.int .i64 a0, .int .i64 a0] rfl (by (try simp only [List.map_toArray, List.map_cons, List.map_nil]); first | done | rfl | (simp only [List.length_drop, List.length_take]; rfl)) ?_; (with_reducible refine (ucs_meets.calls a0 a0 t620 _ A2.out).mono ?_); rintro e w3 ⟨rfl, hb⟩; refine ⟨_, rfl, ?_⟩; have n0_ := Aside0.mk (below_step (by repeat (first | (with_reducible first | exact HB.out | apply below_alloc | apply pw_below_drewN | apply below_drew1) | exact HB.out)) hb); clear HB; have HB := n0_; clear n0_; (try clear hb); (try clear hb2); (try clear hk); (try clear hi)))
 go_ret
 exact ⟨by first | rfl | (simp [errW_none, errW_some] <;> rfl) | (simp [*, errW_none, errW_some] <;> rfl), by repeat (first | (with_reducible first | exact HB.out | apply below_alloc | apply pw_below_drewN | apply below_drew1) | exact HB.out)⟩
def ucs_Take.l0 : Nat → ByteArray → List Int → Int → Int → Option (Int × Int)
 | 0, _, _, _, _ => none
 | k + 1, x4, x16, x17, x18 => if x18 < x17 then (if 0 ≤ x18 then (if x18 < (x16.length : Int) then ((ucs_May.f (rd x16 x18)).bind fun t627 => (if t627 = true then (some (rd x16 x18, (x4.size : Int))) else (ucs_Take.l0 k x4 x16 x17 (wrap64 (x18 + 1))))) else (none)) else (none)) else (some (0, 0))
def ucs_Take.f (k : Nat) (a0 : ByteArray) : Option (Int × Int) := (utf_Prefix.f a0 1).bind fun t621 => ((utf_Chars.f t621).bind fun bt622 => (ucs_Take.l0 k t621 bt622.1 (bt622.1.length : Int) 0))
set_option maxHeartbeats 8000000 in
set_option maxRecDepth 100000 in
theorem ucs_Take.calls (k : Nat) (a0 : ByteArray) (r1 : Int) (r2 : Int) (w : World) (h : ucs_Take.f k a0 = some (r1, r2)) :
 Calls Tryz.prog 152 #[.string a0] w fun e w' => e = .returned (.tuple #[.int .i64 r1, .int .i64 r2]) ∧ Below w.heap.size w w' := by
 have HB := Aside0.mk (Below.refl w.heap.size w)
 have H : ((utf_Prefix.f a0 1).bind fun t621 => ((utf_Chars.f t621).bind fun bt622 => (ucs_Take.l0 k t621 bt622.1 (bt622.1.length : Int) 0))) = some (r1, r2) := h
 clear h
 replace H := Option.bind_eq_some_iff.mp H
 obtain ⟨t621, A20, H⟩ := H
 replace H : ((utf_Chars.f t621).bind fun bt622 => (ucs_Take.l0 k t621 bt622.1 (bt622.1.length : Int) 0)) = some (r1, r2) := H
 have A2 := Aside0.mk A20
 clear A20
 replace H := Option.bind_eq_some_iff.mp H
 obtain ⟨⟨t622, t623⟩, A30, H⟩ := H
 replace H : (ucs_Take.l0 k t621 t622 (t622.length : Int) 0) = some (r1, r2) := H
 have A3 := Aside0.mk A30
 clear A30
 have H' := Aside0.mk H
 clear H
 go_enter Tryz.func152, Tryz.ntmps152
 go_wp2_with (first | ((with_reducible refine gate_callee (f := 138) rfl ?_); refine goesL_ (some 10) rfl rfl Tryz.func138 (by kernel_rfl) rfl #[.string a0, .int .i64 1] rfl (by (try simp only [List.map_toArray, List.map_cons, List.map_nil]); first | done | rfl | (simp only [List.length_drop, List.length_take]; rfl)) ?_; (with_reducible refine (utf_Prefix.calls a0 1 t621 _ A2.out).mono ?_); rintro e w4 ⟨rfl, hb⟩; refine ⟨_, rfl, ?_⟩; have n0_ := Aside0.mk (below_step (by repeat (first | (with_reducible first | exact HB.out | apply below_alloc | apply pw_below_drewN | apply below_drew1) | exact HB.out)) hb); clear HB; have HB := n0_; clear n0_; (try clear hb); (try clear hb2); (try clear hk); (try clear hi)) | ((with_reducible refine gate_callee (f := 166) rfl ?_); refine goesL_ (some 13) rfl rfl Tryz.func166 (by kernel_rfl) rfl #[.string t621] rfl (by (try simp only [List.map_toArray, List.map_cons, List.map_nil]); first | done | rfl | (simp only [List.length_drop, List.length_take]; rfl)) ?_; (with_reducible refine (utf_Chars.calls t621 t622 t623 _ A3.out).mono ?_); rintro e w5 ⟨v624, rfl, ho0, hb⟩; refine ⟨_, rfl, ?_⟩; have n0_ := Aside0.mk (Kd.R_lower ho0 (below_size (by repeat (first | (with_reducible first | exact HB.out | apply below_alloc | apply pw_below_drewN | apply below_drew1) | exact HB.out)))); have n1_ := Aside0.mk (below_step (by repeat (first | (with_reducible first | exact HB.out | apply below_alloc | apply pw_below_drewN | apply below_drew1) | exact HB.out)) hb); clear HB; have HO625 := n0_; have HB := n1_; clear n0_ n1_; (try clear hb); (try clear hb2); (try clear hk); (try clear hi); (try clear ho0); obtain ⟨Ao6, co6, eo6⟩ := Kd.R_slice HO625.out; subst eo6))
 go_loopg [18] k (fun kq v18 w' => ∃ (x18_1 : Int), v18 = .int .i64 x18_1 ∧ Aside0 (ucs_Take.l0 kq t621 t622 (t622.length : Int) x18_1 = some (r1, r2)) ∧ Aside0 (kq ≤ k) ∧ Aside0 (Kd.R (Kd.int .i64) 3 w' w.heap.size (fun _ => True) (.slice Ao6 t622.length co6) t622) ∧ Aside0 (Below w.heap.size w w'))
 case atStart => exact ⟨(0), (by first | rfl | (simp; done) | (simp [*]; done)), H', ⟨Nat.le_refl _⟩, ⟨by (with_reducible repeat (first | apply Kd.R_alloc | apply Kd.R_drewN | apply Kd.R_drew)); exact HO625.out⟩, ⟨by repeat (first | (with_reducible first | exact HB.out | apply below_alloc | apply pw_below_drewN | apply below_drew1) | exact HB.out)⟩⟩
 case round =>
  clear H'
  try clear c1
  try clear p2
  obtain ⟨x18_1, rfl, HA, HK1, HO_16, HB⟩ := hrel
  cases gk with
  | zero => exact absurd HA.out (by simp [ucs_Take.l0])
  | succ k1 =>
   have H := HA.out
   clear HA
   simp only [ucs_Take.l0] at H
   by_cases c7 : x18_1 < (t622.length : Int)
   · rw [if_pos c7] at H
     have c7b0 : decide (x18_1 < (t622.length : Int)) = true := decide_eq_true c7
     clear c7
     by_cases c8 : 0 ≤ x18_1
     · rw [if_pos c8] at H
       have c8b0 : decide (0 ≤ x18_1) = true := decide_eq_true c8
       clear c8
       by_cases c9 : x18_1 < (t622.length : Int)
       · rw [if_pos c9] at H
         have c9b0 : decide (x18_1 < (t622.length : Int)) = true := decide_eq_true c9
         clear c9
         replace H := Option.bind_eq_some_iff.mp H
         obtain ⟨t627, A100, H⟩ := H
         replace H : (if t627 = true then (some (rd t622 x18_1, (t621.size : Int))) else (ucs_Take.l0 k1 t621 t622 (t622.length : Int) (wrap64 (x18_1 + 1)))) = some (r1, r2) := H
         have A10 := Aside0.mk A100
         clear A100
         by_cases c11 : t627 = true
         · subst c11
           have H1 : (some (rd t622 x18_1, (t621.size : Int))) = some (r1, r2) := by rw [if_pos rfl] at H; exact H
           clear H
           have H := H1
           clear H1
           simp only [Option.some.injEq, Prod.mk.injEq] at H
           obtain ⟨rfl, rfl⟩ := H
           have p626 : 0 ≤ (x18_1 : Int) := of_decide_eq_true (by first | (with_reducible assumption) | assumption)
           have q626 : x18_1 < (t622.length : Int) := of_decide_eq_true (by first | (with_reducible assumption) | assumption)
           obtain ⟨ad626, e626, hx626_0⟩ := Kd.at_int (Kd.R_reads' HO_16.out).2.2 x18_1 p626 q626
           cases e626
           replace p626 := eq_true p626
           replace q626 := eq_true q626
           go_wp2_with (first | ((with_reducible refine gate_callee (f := 167) rfl ?_); refine goesL_ (some 23) rfl rfl Tryz.func167 (by kernel_rfl) rfl #[.int .i64 (rd t622 x18_1)] rfl (by (try simp only [List.map_toArray, List.map_cons, List.map_nil]); first | done | rfl | (simp only [List.length_drop, List.length_take]; rfl)) ?_; (with_reducible refine (ucs_May.calls (rd t622 x18_1) true _ A10.out).mono ?_); rintro e w12 ⟨rfl, hb⟩; refine ⟨_, rfl, ?_⟩; have n0_ := Aside0.mk (Kd.R_below (by (with_reducible repeat (first | apply Kd.R_alloc | apply Kd.R_drewN | apply Kd.R_drew)); exact HO_16.out) hb); have n1_ := Aside0.mk (below_step (by repeat (first | (with_reducible first | exact HB.out | apply below_alloc | apply pw_below_drewN | apply below_drew1) | exact HB.out)) hb); clear HO_16; clear HB; have HO_16 := n0_; have HB := n1_; clear n0_ n1_; (try clear hb); (try clear hb2); (try clear hk); (try clear hi)))
           go_ret2
           exact ⟨by first | rfl | (simp [errW_none, errW_some] <;> rfl) | (simp [*, errW_none, errW_some] <;> rfl), by repeat (first | (with_reducible first | exact HB.out | apply below_alloc | apply pw_below_drewN | apply below_drew1) | exact HB.out)⟩
         · replace c11 := Bool.eq_false_iff.mpr c11
           subst c11
           have H1 : (ucs_Take.l0 k1 t621 t622 (t622.length : Int) (wrap64 (x18_1 + 1))) = some (r1, r2) := by rw [if_neg (show ¬ (false = true) by decide)] at H; exact H
           clear H
           have H := H1
           clear H1
           have H' := Aside0.mk H
           clear H
           have p626 : 0 ≤ (x18_1 : Int) := of_decide_eq_true (by first | (with_reducible assumption) | assumption)
           have q626 : x18_1 < (t622.length : Int) := of_decide_eq_true (by first | (with_reducible assumption) | assumption)
           obtain ⟨ad626, e626, hx626_0⟩ := Kd.at_int (Kd.R_reads' HO_16.out).2.2 x18_1 p626 q626
           cases e626
           replace p626 := eq_true p626
           replace q626 := eq_true q626
           go_wp2_with (first | ((with_reducible refine gate_callee (f := 167) rfl ?_); refine goesL_ (some 23) rfl rfl Tryz.func167 (by kernel_rfl) rfl #[.int .i64 (rd t622 x18_1)] rfl (by (try simp only [List.map_toArray, List.map_cons, List.map_nil]); first | done | rfl | (simp only [List.length_drop, List.length_take]; rfl)) ?_; (with_reducible refine (ucs_May.calls (rd t622 x18_1) false _ A10.out).mono ?_); rintro e w13 ⟨rfl, hb⟩; refine ⟨_, rfl, ?_⟩; have n0_ := Aside0.mk (Kd.R_below (by (with_reducible repeat (first | apply Kd.R_alloc | apply Kd.R_drewN | apply Kd.R_drew)); exact HO_16.out) hb); have n1_ := Aside0.mk (below_step (by repeat (first | (with_reducible first | exact HB.out | apply below_alloc | apply pw_below_drewN | apply below_drew1) | exact HB.out)) hb); clear HO_16; clear HB; have HO_16 := n0_; have HB := n1_; clear n0_ n1_; (try clear hb); (try clear hb2); (try clear hk); (try clear hi)))
           go_roundg k1
           case measure => have := HK1.out; omega
           case rel => exact ⟨(wrap64 (x18_1 + 1)), (by first | rfl | (simp; done) | (simp [*]; done)), H', ⟨by have := HK1.out; omega⟩, ⟨by (with_reducible repeat (first | apply Kd.R_alloc | apply Kd.R_drewN | apply Kd.R_drew)); exact HO_16.out⟩, ⟨by repeat (first | (with_reducible first | exact HB.out | apply below_alloc | apply pw_below_drewN | apply below_drew1) | exact HB.out)⟩⟩
       · rw [if_neg c9] at H
         exact absurd H (by simp)
     · rw [if_neg c8] at H
       exact absurd H (by simp)
   · rw [if_neg c7] at H
     have c7b0 : decide (x18_1 < (t622.length : Int)) = false := decide_eq_false c7
     clear c7
     simp only [Option.some.injEq, Prod.mk.injEq] at H
     obtain ⟨rfl, rfl⟩ := H
     go_wp2
     go_ret2
     exact ⟨by first | rfl | (simp [errW_none, errW_some] <;> rfl) | (simp [*, errW_none, errW_some] <;> rfl), by repeat (first | (with_reducible first | exact HB.out | apply below_alloc | apply pw_below_drewN | apply below_drew1) | exact HB.out)⟩
def tmpl_piece.f (k : Nat) (a0 : ByteArray) : Option (Int) := (ucs_Take.f k a0).bind fun bt628 => (if a0.toList = ([] : List UInt8) then (some 0) else ((chars_Literal.f).bind fun t630 => (if 0 < (a0.size : Int) then ((chars_Set_Has.f t630 (bt a0 0)).bind fun t631 => (if t631 = true then (some 1) else ((pct_Triplet.f k a0).bind fun t632 => (if t632 = true then ((pct_One.f 0).bind fun t633 => (some (t633.size : Int))) else (some bt628.2))))) else (none))))
set_option maxHeartbeats 8000000 in
set_option maxRecDepth 100000 in
theorem tmpl_piece.calls (k : Nat) (a0 : ByteArray) (r : Int) (w : World) (h : tmpl_piece.f k a0 = some r) :
 Calls Tryz.prog 125 #[.string a0] w fun e w' => e = .returned (.int .i64 r) ∧ Below w.heap.size w w' := by
 have HB := Aside0.mk (Below.refl w.heap.size w)
 have H : ((ucs_Take.f k a0).bind fun bt628 => (if a0.toList = ([] : List UInt8) then (some 0) else ((chars_Literal.f).bind fun t630 => (if 0 < (a0.size : Int) then ((chars_Set_Has.f t630 (bt a0 0)).bind fun t631 => (if t631 = true then (some 1) else ((pct_Triplet.f k a0).bind fun t632 => (if t632 = true then ((pct_One.f 0).bind fun t633 => (some (t633.size : Int))) else (some bt628.2))))) else (none))))) = some r := h
 clear h
 replace H := Option.bind_eq_some_iff.mp H
 obtain ⟨⟨t628, t629⟩, A20, H⟩ := H
 replace H : (if a0.toList = ([] : List UInt8) then (some 0) else ((chars_Literal.f).bind fun t630 => (if 0 < (a0.size : Int) then ((chars_Set_Has.f t630 (bt a0 0)).bind fun t631 => (if t631 = true then (some 1) else ((pct_Triplet.f k a0).bind fun t632 => (if t632 = true then ((pct_One.f 0).bind fun t633 => (some (t633.size : Int))) else (some t629))))) else (none)))) = some r := H
 have A2 := Aside0.mk A20
 clear A20
 by_cases c3 : a0.toList = ([] : List UInt8)
 · rw [if_pos c3] at H
   have c3b0 : (a0.toList == ([] : List UInt8)) = true := beq_iff_eq.mpr c3
   have c3b1 : (a0.toList != ([] : List UInt8)) = false := bne_eq_false_iff_eq.mpr c3
   clear c3
   obtain rfl := Option.some.inj H
   go_enter Tryz.func125, Tryz.ntmps125
   go_wp2_with (first | ((with_reducible refine gate_callee (f := 152) rfl ?_); refine goesL_ (some 7) rfl rfl Tryz.func152 (by kernel_rfl) rfl #[.string a0] rfl (by (try simp only [List.map_toArray, List.map_cons, List.map_nil]); first | done | rfl | (simp only [List.length_drop, List.length_take]; rfl)) ?_; (with_reducible refine (ucs_Take.calls k a0 t628 t629 _ A2.out).mono ?_); rintro e w4 ⟨rfl, hb⟩; refine ⟨_, rfl, ?_⟩; have n0_ := Aside0.mk (below_step (by repeat (first | (with_reducible first | exact HB.out | apply below_alloc | apply pw_below_drewN | apply below_drew1) | exact HB.out)) hb); clear HB; have HB := n0_; clear n0_; (try clear hb); (try clear hb2); (try clear hk); (try clear hi)))
   go_ret
   exact ⟨by first | rfl | (simp [errW_none, errW_some] <;> rfl) | (simp [*, errW_none, errW_some] <;> rfl), by repeat (first | (with_reducible first | exact HB.out | apply below_alloc | apply pw_below_drewN | apply below_drew1) | exact HB.out)⟩
 · rw [if_neg c3] at H
   have c3b0 : (a0.toList == ([] : List UInt8)) = false := beq_eq_false_iff_ne.mpr c3
   have c3b1 : (a0.toList != ([] : List UInt8)) = true := bne_iff_ne.mpr c3
   replace H := Option.bind_eq_some_iff.mp H
   obtain ⟨t630, A50, H⟩ := H
   replace H : (if 0 < (a0.size : Int) then ((chars_Set_Has.f t630 (bt a0 0)).bind fun t631 => (if t631 = true then (some 1) else ((pct_Triplet.f k a0).bind fun t632 => (if t632 = true then ((pct_One.f 0).bind fun t633 => (some (t633.size : Int))) else (some t629))))) else (none)) = some r := H
   have A5 := Aside0.mk A50
   clear A50
   by_cases c6 : 0 < (a0.size : Int)
   · rw [if_pos c6] at H
     have c6b0 : decide (0 < (a0.size : Int)) = true := decide_eq_true c6
     have c6b1 : decide (0 < a0.size) = true := decide_eq_true (by omega)
     clear c6
     replace H := Option.bind_eq_some_iff.mp H
     obtain ⟨t631, A80, H⟩ := H
     replace H : (if t631 = true then (some 1) else ((pct_Triplet.f k a0).bind fun t632 => (if t632 = true then ((pct_One.f 0).bind fun t633 => (some (t633.size : Int))) else (some t629)))) = some r := H
     have A8 := Aside0.mk A80
     clear A80
     by_cases c9 : t631 = true
     · subst c9
       have H1 : (some 1) = some r := by rw [if_pos rfl] at H; exact H
       clear H
       have H := H1
       clear H1
       obtain rfl := Option.some.inj H
       go_enter Tryz.func125, Tryz.ntmps125
       try go_wp2_with (first | ((with_reducible refine gate_callee (f := 152) rfl ?_); refine goesL_ (some 7) rfl rfl Tryz.func152 (by kernel_rfl) rfl #[.string a0] rfl (by (try simp only [List.map_toArray, List.map_cons, List.map_nil]); first | done | rfl | (simp only [List.length_drop, List.length_take]; rfl)) ?_; (with_reducible refine (ucs_Take.calls k a0 t628 t629 _ A2.out).mono ?_); rintro e w10 ⟨rfl, hb⟩; refine ⟨_, rfl, ?_⟩; have n0_ := Aside0.mk (below_step (by repeat (first | (with_reducible first | exact HB.out | apply below_alloc | apply pw_below_drewN | apply below_drew1) | exact HB.out)) hb); clear HB; have HB := n0_; clear n0_; (try clear hb); (try clear hb2); (try clear hk); (try clear hi)))
       have n0_ := Aside0.mk (below_drew1 HB.out)
       clear HB
       have HB := n0_
       clear n0_
       have p7 : 0 ≤ (0 : Int) := (by omega)
       have q7 : 0 < a0.size := (by have : (0 : Int) < (a0.size : Int) := of_decide_eq_true (by first | (with_reducible assumption) | assumption); omega)
       have hx7 : ∀ h : 0 < a0.size, ((a0[0]'h).toNat : Int) = bt a0 0 := bt_at a0 0
       clear p7
       have qi7 : (0 < (a0.size : Int)) = True := eq_true (of_decide_eq_true (by first | (with_reducible assumption) | assumption))
       replace q7 := eq_true q7
       refine start_ (n := 5) (S := fun w' => True) (ds := []) #[false, false, false, false, false] (by kernel_rfl) rfl rfl trivial (fun hHeld => ?_)
       generalize w10.drew = w11 at HB hHeld ⊢
       refine pure_ (i := 1) (N := some 15) (v := ?_) (a' := ?_) #[false, true, false, false, false] rfl rfl (by kernel_rfl) (fun _ _ _ h => h) (Or.inl ⟨by rfl, ?_⟩) ?_ ?_
       rotate_left
       · intro w'
         go_simp
         with_reducible rfl
       rotate_left
       · simp only [Act.put, List.setIfInBounds_toArray, List.set_cons_zero, List.set_cons_succ, i64_w, i32_w]
         rfl
       refine take_ (i := 2) (N := some 16) (v := ?_) (a' := ?_) #[false, true, true, false, false] rfl rfl (by kernel_rfl) (fun _ _ _ h => h) (Or.inl ⟨by rfl, ?_⟩) hHeld ?_ ?_
       rotate_left
       · intro w' _
         go_simp
         with_reducible rfl
       rotate_left
       · simp only [Act.put, List.setIfInBounds_toArray, List.set_cons_zero, List.set_cons_succ, i64_w, i32_w]
         rfl
       refine one_ (i := 0) (N := some 14) #[true, true, true, false, false] rfl rfl (by kernel_rfl) (by decide) (fun K hK => ?_)
       refine goes_ Tryz.func153 (by kernel_rfl) rfl #[] (by rfl) rfl rfl (by (try simp only [List.map_toArray, List.map_cons, List.map_nil]); first | done | rfl | (simp only [List.length_drop, List.length_take]; rfl)) ?_
       with_reducible refine (chars_Literal.calls  t630 _ A5.out).mono ?_
       rintro e w12 ⟨rfl, hb⟩
       refine ⟨_, rfl, ?_⟩
       have n0_ := Aside0.mk (below_step (by repeat (first | (with_reducible first | exact HB.out | apply below_alloc | apply pw_below_drewN | apply below_drew1) | exact HB.out)) hb)
       clear HB
       have HB := n0_
       clear n0_
       (try clear hb)
       (try clear hb2)
       (try clear hk)
       (try clear hi)
       refine hK.out _ _ trivial (fun hHeld => ?_)
       clear hK K
       refine norm_ (a' := ?_) ?_ ?_
       rotate_left
       · show Act.put _ (some 14) _ = _
         simp only [Act.put, List.setIfInBounds_toArray, List.set_cons_zero, List.set_cons_succ, i64_w, i32_w]
         rfl
       refine one_ (i := 3) (N := some 17) #[true, true, true, true, false] rfl rfl (by kernel_rfl) (by decide) (fun K hK => ?_)
       refine goes_ Tryz.func86 (by kernel_rfl) rfl #[setV t630, .int .u8 (bt a0 0)] (by rfl) rfl rfl (by (try simp only [List.map_toArray, List.map_cons, List.map_nil]); first | done | rfl | (simp only [List.length_drop, List.length_take]; rfl)) ?_
       with_reducible refine (chars_Set_Has.calls t630 (bt a0 0) true _ A8.out).mono ?_
       rintro e w13 ⟨rfl, hb⟩
       refine ⟨_, rfl, ?_⟩
       have n0_ := Aside0.mk (below_step (by repeat (first | (with_reducible first | exact HB.out | apply below_alloc | apply pw_below_drewN | apply below_drew1) | exact HB.out)) hb)
       clear HB
       have HB := n0_
       clear n0_
       (try clear hb)
       (try clear hb2)
       (try clear hk)
       (try clear hi)
       refine hK.out _ _ trivial (fun hHeld => ?_)
       clear hK K
       refine norm_ (a' := ?_) ?_ ?_
       rotate_left
       · show Act.put _ (some 17) _ = _
         simp only [Act.put, List.setIfInBounds_toArray, List.set_cons_zero, List.set_cons_succ, i64_w, i32_w]
         rfl
       refine pure_ (i := 4) (N := some 13) (v := ?_) (a' := ?_) #[true, true, true, true, true] rfl rfl (by kernel_rfl) (fun _ _ _ h => h) (Or.inl ⟨by rfl, ?_⟩) ?_ ?_
       rotate_left
       · intro w'
         go_simp
         with_reducible rfl
       rotate_left
       · simp only [Act.put, List.setIfInBounds_toArray, List.set_cons_zero, List.set_cons_succ, i64_w, i32_w]
         rfl
       refine done_ (by kernel_rfl) ?_
       try go_wp2
       go_ret
       exact ⟨by first | rfl | (simp [errW_none, errW_some] <;> rfl) | (simp [*, errW_none, errW_some] <;> rfl), by repeat (first | (with_reducible first | exact HB.out | apply below_alloc | apply pw_below_drewN | apply below_drew1) | exact HB.out)⟩
     · replace c9 := Bool.eq_false_iff.mpr c9
       subst c9
       have H1 : ((pct_Triplet.f k a0).bind fun t632 => (if t632 = true then ((pct_One.f 0).bind fun t633 => (some (t633.size : Int))) else (some t629))) = some r := by rw [if_neg (show ¬ (false = true) by decide)] at H; exact H
       clear H
       have H := H1
       clear H1
       replace H := Option.bind_eq_some_iff.mp H
       obtain ⟨t632, A140, H⟩ := H
       replace H : (if t632 = true then ((pct_One.f 0).bind fun t633 => (some (t633.size : Int))) else (some t629)) = some r := H
       have A14 := Aside0.mk A140
       clear A140
       by_cases c15 : t632 = true
       · subst c15
         have H1 : ((pct_One.f 0).bind fun t633 => (some (t633.size : Int))) = some r := by rw [if_pos rfl] at H; exact H
         clear H
         have H := H1
         clear H1
         replace H := Option.bind_eq_some_iff.mp H
         obtain ⟨t633, A160, H⟩ := H
         replace H : (some (t633.size : Int)) = some r := H
         have A16 := Aside0.mk A160
         clear A160
         obtain rfl := Option.some.inj H
         go_enter Tryz.func125, Tryz.ntmps125
         try go_wp2_with (first | ((with_reducible refine gate_callee (f := 152) rfl ?_); refine goesL_ (some 7) rfl rfl Tryz.func152 (by kernel_rfl) rfl #[.string a0] rfl (by (try simp only [List.map_toArray, List.map_cons, List.map_nil]); first | done | rfl | (simp only [List.length_drop, List.length_take]; rfl)) ?_; (with_reducible refine (ucs_Take.calls k a0 t628 t629 _ A2.out).mono ?_); rintro e w17 ⟨rfl, hb⟩; refine ⟨_, rfl, ?_⟩; have n0_ := Aside0.mk (below_step (by repeat (first | (with_reducible first | exact HB.out | apply below_alloc | apply pw_below_drewN | apply below_drew1) | exact HB.out)) hb); clear HB; have HB := n0_; clear n0_; (try clear hb); (try clear hb2); (try clear hk); (try clear hi)))
         have n0_ := Aside0.mk (below_drew1 HB.out)
         clear HB
         have HB := n0_
         clear n0_
         have p7 : 0 ≤ (0 : Int) := (by omega)
         have q7 : 0 < a0.size := (by have : (0 : Int) < (a0.size : Int) := of_decide_eq_true (by first | (with_reducible assumption) | assumption); omega)
         have hx7 : ∀ h : 0 < a0.size, ((a0[0]'h).toNat : Int) = bt a0 0 := bt_at a0 0
         clear p7
         have qi7 : (0 < (a0.size : Int)) = True := eq_true (of_decide_eq_true (by first | (with_reducible assumption) | assumption))
         replace q7 := eq_true q7
         refine start_ (n := 5) (S := fun w' => True) (ds := []) #[false, false, false, false, false] (by kernel_rfl) rfl rfl trivial (fun hHeld => ?_)
         generalize w17.drew = w18 at HB hHeld ⊢
         refine pure_ (i := 1) (N := some 15) (v := ?_) (a' := ?_) #[false, true, false, false, false] rfl rfl (by kernel_rfl) (fun _ _ _ h => h) (Or.inl ⟨by rfl, ?_⟩) ?_ ?_
         rotate_left
         · intro w'
           go_simp
           with_reducible rfl
         rotate_left
         · simp only [Act.put, List.setIfInBounds_toArray, List.set_cons_zero, List.set_cons_succ, i64_w, i32_w]
           rfl
         refine take_ (i := 2) (N := some 16) (v := ?_) (a' := ?_) #[false, true, true, false, false] rfl rfl (by kernel_rfl) (fun _ _ _ h => h) (Or.inl ⟨by rfl, ?_⟩) hHeld ?_ ?_
         rotate_left
         · intro w' _
           go_simp
           with_reducible rfl
         rotate_left
         · simp only [Act.put, List.setIfInBounds_toArray, List.set_cons_zero, List.set_cons_succ, i64_w, i32_w]
           rfl
         refine one_ (i := 0) (N := some 14) #[true, true, true, false, false] rfl rfl (by kernel_rfl) (by decide) (fun K hK => ?_)
         refine goes_ Tryz.func153 (by kernel_rfl) rfl #[] (by rfl) rfl rfl (by (try simp only [List.map_toArray, List.map_cons, List.map_nil]); first | done | rfl | (simp only [List.length_drop, List.length_take]; rfl)) ?_
         with_reducible refine (chars_Literal.calls  t630 _ A5.out).mono ?_
         rintro e w19 ⟨rfl, hb⟩
         refine ⟨_, rfl, ?_⟩
         have n0_ := Aside0.mk (below_step (by repeat (first | (with_reducible first | exact HB.out | apply below_alloc | apply pw_below_drewN | apply below_drew1) | exact HB.out)) hb)
         clear HB
         have HB := n0_
         clear n0_
         (try clear hb)
         (try clear hb2)
         (try clear hk)
         (try clear hi)
         refine hK.out _ _ trivial (fun hHeld => ?_)
         clear hK K
         refine norm_ (a' := ?_) ?_ ?_
         rotate_left
         · show Act.put _ (some 14) _ = _
           simp only [Act.put, List.setIfInBounds_toArray, List.set_cons_zero, List.set_cons_succ, i64_w, i32_w]
           rfl
         refine one_ (i := 3) (N := some 17) #[true, true, true, true, false] rfl rfl (by kernel_rfl) (by decide) (fun K hK => ?_)
         refine goes_ Tryz.func86 (by kernel_rfl) rfl #[setV t630, .int .u8 (bt a0 0)] (by rfl) rfl rfl (by (try simp only [List.map_toArray, List.map_cons, List.map_nil]); first | done | rfl | (simp only [List.length_drop, List.length_take]; rfl)) ?_
         with_reducible refine (chars_Set_Has.calls t630 (bt a0 0) false _ A8.out).mono ?_
         rintro e w20 ⟨rfl, hb⟩
         refine ⟨_, rfl, ?_⟩
         have n0_ := Aside0.mk (below_step (by repeat (first | (with_reducible first | exact HB.out | apply below_alloc | apply pw_below_drewN | apply below_drew1) | exact HB.out)) hb)
         clear HB
         have HB := n0_
         clear n0_
         (try clear hb)
         (try clear hb2)
         (try clear hk)
         (try clear hi)
         refine hK.out _ _ trivial (fun hHeld => ?_)
         clear hK K
         refine norm_ (a' := ?_) ?_ ?_
         rotate_left
         · show Act.put _ (some 17) _ = _
           simp only [Act.put, List.setIfInBounds_toArray, List.set_cons_zero, List.set_cons_succ, i64_w, i32_w]
           rfl
         refine pure_ (i := 4) (N := some 13) (v := ?_) (a' := ?_) #[true, true, true, true, true] rfl rfl (by kernel_rfl) (fun _ _ _ h => h) (Or.inl ⟨by rfl, ?_⟩) ?_ ?_
         rotate_left
         · intro w'
           go_simp
           with_reducible rfl
         rotate_left
         · simp only [Act.put, List.setIfInBounds_toArray, List.set_cons_zero, List.set_cons_succ, i64_w, i32_w]
           rfl
         refine done_ (by kernel_rfl) ?_
         try go_wp2_with (first | ((with_reducible refine gate_callee (f := 87) rfl ?_); refine goesL_ (some 20) rfl rfl Tryz.func87 (by kernel_rfl) rfl #[.string a0] rfl (by (try simp only [List.map_toArray, List.map_cons, List.map_nil]); first | done | rfl | (simp only [List.length_drop, List.length_take]; rfl)) ?_; (with_reducible refine (pct_Triplet.calls k a0 true _ A14.out).mono ?_); rintro e w' ⟨rfl, ⟨nd, rfl⟩⟩; refine ⟨_, rfl, ?_⟩) | ((with_reducible refine gate_callee (f := 89) rfl ?_); refine goesL_ (some 21) rfl rfl Tryz.func89 (by kernel_rfl) rfl #[.int .u8 0] rfl (by (try simp only [List.map_toArray, List.map_cons, List.map_nil]); first | done | rfl | (simp only [List.length_drop, List.length_take]; rfl)) ?_; (with_reducible refine (pct_One.calls 0 t633 _ A16.out).mono ?_); rintro e w21 ⟨rfl, hb⟩; refine ⟨_, rfl, ?_⟩; have n0_ := Aside0.mk (below_step (by repeat (first | (with_reducible first | exact HB.out | apply below_alloc | apply pw_below_drewN | apply below_drew1) | exact HB.out)) hb); clear HB; have HB := n0_; clear n0_; (try clear hb); (try clear hb2); (try clear hk); (try clear hi)))
         go_ret
         exact ⟨by first | rfl | (simp [errW_none, errW_some] <;> rfl) | (simp [*, errW_none, errW_some] <;> rfl), by repeat (first | (with_reducible first | exact HB.out | apply below_alloc | apply pw_below_drewN | apply below_drew1) | exact HB.out)⟩
       · replace c15 := Bool.eq_false_iff.mpr c15
         subst c15
         have H1 : (some t629) = some r := by rw [if_neg (show ¬ (false = true) by decide)] at H; exact H
         clear H
         have H := H1
         clear H1
         obtain rfl := Option.some.inj H
         go_enter Tryz.func125, Tryz.ntmps125
         try go_wp2_with (first | ((with_reducible refine gate_callee (f := 152) rfl ?_); refine goesL_ (some 7) rfl rfl Tryz.func152 (by kernel_rfl) rfl #[.string a0] rfl (by (try simp only [List.map_toArray, List.map_cons, List.map_nil]); first | done | rfl | (simp only [List.length_drop, List.length_take]; rfl)) ?_; (with_reducible refine (ucs_Take.calls k a0 t628 t629 _ A2.out).mono ?_); rintro e w22 ⟨rfl, hb⟩; refine ⟨_, rfl, ?_⟩; have n0_ := Aside0.mk (below_step (by repeat (first | (with_reducible first | exact HB.out | apply below_alloc | apply pw_below_drewN | apply below_drew1) | exact HB.out)) hb); clear HB; have HB := n0_; clear n0_; (try clear hb); (try clear hb2); (try clear hk); (try clear hi)))
         have n0_ := Aside0.mk (below_drew1 HB.out)
         clear HB
         have HB := n0_
         clear n0_
         have p7 : 0 ≤ (0 : Int) := (by omega)
         have q7 : 0 < a0.size := (by have : (0 : Int) < (a0.size : Int) := of_decide_eq_true (by first | (with_reducible assumption) | assumption); omega)
         have hx7 : ∀ h : 0 < a0.size, ((a0[0]'h).toNat : Int) = bt a0 0 := bt_at a0 0
         clear p7
         have qi7 : (0 < (a0.size : Int)) = True := eq_true (of_decide_eq_true (by first | (with_reducible assumption) | assumption))
         replace q7 := eq_true q7
         refine start_ (n := 5) (S := fun w' => True) (ds := []) #[false, false, false, false, false] (by kernel_rfl) rfl rfl trivial (fun hHeld => ?_)
         generalize w22.drew = w23 at HB hHeld ⊢
         refine pure_ (i := 1) (N := some 15) (v := ?_) (a' := ?_) #[false, true, false, false, false] rfl rfl (by kernel_rfl) (fun _ _ _ h => h) (Or.inl ⟨by rfl, ?_⟩) ?_ ?_
         rotate_left
         · intro w'
           go_simp
           with_reducible rfl
         rotate_left
         · simp only [Act.put, List.setIfInBounds_toArray, List.set_cons_zero, List.set_cons_succ, i64_w, i32_w]
           rfl
         refine take_ (i := 2) (N := some 16) (v := ?_) (a' := ?_) #[false, true, true, false, false] rfl rfl (by kernel_rfl) (fun _ _ _ h => h) (Or.inl ⟨by rfl, ?_⟩) hHeld ?_ ?_
         rotate_left
         · intro w' _
           go_simp
           with_reducible rfl
         rotate_left
         · simp only [Act.put, List.setIfInBounds_toArray, List.set_cons_zero, List.set_cons_succ, i64_w, i32_w]
           rfl
         refine one_ (i := 0) (N := some 14) #[true, true, true, false, false] rfl rfl (by kernel_rfl) (by decide) (fun K hK => ?_)
         refine goes_ Tryz.func153 (by kernel_rfl) rfl #[] (by rfl) rfl rfl (by (try simp only [List.map_toArray, List.map_cons, List.map_nil]); first | done | rfl | (simp only [List.length_drop, List.length_take]; rfl)) ?_
         with_reducible refine (chars_Literal.calls  t630 _ A5.out).mono ?_
         rintro e w24 ⟨rfl, hb⟩
         refine ⟨_, rfl, ?_⟩
         have n0_ := Aside0.mk (below_step (by repeat (first | (with_reducible first | exact HB.out | apply below_alloc | apply pw_below_drewN | apply below_drew1) | exact HB.out)) hb)
         clear HB
         have HB := n0_
         clear n0_
         (try clear hb)
         (try clear hb2)
         (try clear hk)
         (try clear hi)
         refine hK.out _ _ trivial (fun hHeld => ?_)
         clear hK K
         refine norm_ (a' := ?_) ?_ ?_
         rotate_left
         · show Act.put _ (some 14) _ = _
           simp only [Act.put, List.setIfInBounds_toArray, List.set_cons_zero, List.set_cons_succ, i64_w, i32_w]
           rfl
         refine one_ (i := 3) (N := some 17) #[true, true, true, true, false] rfl rfl (by kernel_rfl) (by decide) (fun K hK => ?_)
         refine goes_ Tryz.func86 (by kernel_rfl) rfl #[setV t630, .int .u8 (bt a0 0)] (by rfl) rfl rfl (by (try simp only [List.map_toArray, List.map_cons, List.map_nil]); first | done | rfl | (simp only [List.length_drop, List.length_take]; rfl)) ?_
         with_reducible refine (chars_Set_Has.calls t630 (bt a0 0) false _ A8.out).mono ?_
         rintro e w25 ⟨rfl, hb⟩
         refine ⟨_, rfl, ?_⟩
         have n0_ := Aside0.mk (below_step (by repeat (first | (with_reducible first | exact HB.out | apply below_alloc | apply pw_below_drewN | apply below_drew1) | exact HB.out)) hb)
         clear HB
         have HB := n0_
         clear n0_
         (try clear hb)
         (try clear hb2)
         (try clear hk)
         (try clear hi)
         refine hK.out _ _ trivial (fun hHeld => ?_)
         clear hK K
         refine norm_ (a' := ?_) ?_ ?_
         rotate_left
         · show Act.put _ (some 17) _ = _
           simp only [Act.put, List.setIfInBounds_toArray, List.set_cons_zero, List.set_cons_succ, i64_w, i32_w]
           rfl
         refine pure_ (i := 4) (N := some 13) (v := ?_) (a' := ?_) #[true, true, true, true, true] rfl rfl (by kernel_rfl) (fun _ _ _ h => h) (Or.inl ⟨by rfl, ?_⟩) ?_ ?_
         rotate_left
         · intro w'
           go_simp
           with_reducible rfl
         rotate_left
         · simp only [Act.put, List.setIfInBounds_toArray, List.set_cons_zero, List.set_cons_succ, i64_w, i32_w]
           rfl
         refine done_ (by kernel_rfl) ?_
         try go_wp2_with (first | ((with_reducible refine gate_callee (f := 87) rfl ?_); refine goesL_ (some 20) rfl rfl Tryz.func87 (by kernel_rfl) rfl #[.string a0] rfl (by (try simp only [List.map_toArray, List.map_cons, List.map_nil]); first | done | rfl | (simp only [List.length_drop, List.length_take]; rfl)) ?_; (with_reducible refine (pct_Triplet.calls k a0 false _ A14.out).mono ?_); rintro e w' ⟨rfl, ⟨nd, rfl⟩⟩; refine ⟨_, rfl, ?_⟩))
         go_ret
         exact ⟨by first | rfl | (simp [errW_none, errW_some] <;> rfl) | (simp [*, errW_none, errW_some] <;> rfl), by repeat (first | (with_reducible first | exact HB.out | apply below_alloc | apply pw_below_drewN | apply below_drew1) | exact HB.out)⟩
   · rw [if_neg c6] at H
     exact absurd H (by simp)
def tmpl_pieces.l0 : Nat → ByteArray → Int → Int → Option (Int)
 | 0, _, _, _ => none
 | k + 1, x0, x3, x4 => if x4 > 0 then (if 0 ≤ (wrap64 (x3 + x4)) then (if (wrap64 (x3 + x4)) ≤ (x0.size : Int) then ((tmpl_piece.f k (x0.extract ((wrap64 (x3 + x4)) : Int).toNat x0.size)).bind fun t635 => (tmpl_pieces.l0 k x0 (wrap64 (x3 + x4)) t635)) else (none)) else (none)) else (some x3)
def tmpl_pieces.f (k : Nat) (a0 : ByteArray) : Option (Int) := (tmpl_piece.f k a0).bind fun t634 => (tmpl_pieces.l0 k a0 0 t634)
set_option maxHeartbeats 8000000 in
set_option maxRecDepth 100000 in
theorem tmpl_pieces.calls (k : Nat) (a0 : ByteArray) (r : Int) (w : World) (h : tmpl_pieces.f k a0 = some r) :
 Calls Tryz.prog 100 #[.string a0] w fun e w' => e = .returned (.int .i64 r) ∧ Below w.heap.size w w' := by
 have HB := Aside0.mk (Below.refl w.heap.size w)
 have H : ((tmpl_piece.f k a0).bind fun t634 => (tmpl_pieces.l0 k a0 0 t634)) = some r := h
 clear h
 replace H := Option.bind_eq_some_iff.mp H
 obtain ⟨t634, A20, H⟩ := H
 replace H : (tmpl_pieces.l0 k a0 0 t634) = some r := H
 have A2 := Aside0.mk A20
 clear A20
 have H' := Aside0.mk H
 clear H
 go_enter Tryz.func100, Tryz.ntmps100
 go_wp2_with (first | ((with_reducible refine gate_callee (f := 125) rfl ?_); refine goesL_ (some 6) rfl rfl Tryz.func125 (by kernel_rfl) rfl #[.string a0] rfl (by (try simp only [List.map_toArray, List.map_cons, List.map_nil]); first | done | rfl | (simp only [List.length_drop, List.length_take]; rfl)) ?_; (with_reducible refine (tmpl_piece.calls k a0 t634 _ A2.out).mono ?_); rintro e w3 ⟨rfl, hb⟩; refine ⟨_, rfl, ?_⟩; have n0_ := Aside0.mk (below_step (by repeat (first | (with_reducible first | exact HB.out | apply below_alloc | apply pw_below_drewN | apply below_drew1) | exact HB.out)) hb); clear HB; have HB := n0_; clear n0_; (try clear hb); (try clear hb2); (try clear hk); (try clear hi)))
 go_loopg [3, 4] k (fun kq v3 v4 w' => ∃ (x3_1 : Int) (x4_1 : Int), v3 = .int .i64 x3_1 ∧ v4 = .int .i64 x4_1 ∧ Aside0 (tmpl_pieces.l0 kq a0 x3_1 x4_1 = some r) ∧ Aside0 (kq ≤ k) ∧ Aside0 (Below w.heap.size w w'))
 case atStart => exact ⟨(0), (t634), (by first | rfl | (simp; done) | (simp [*]; done)), (by first | rfl | (simp; done) | (simp [*]; done)), H', ⟨Nat.le_refl _⟩, ⟨by repeat (first | (with_reducible first | exact HB.out | apply below_alloc | apply pw_below_drewN | apply below_drew1) | exact HB.out)⟩⟩
 case round =>
  clear H'
  try clear c1
  try clear p2
  obtain ⟨x3_1, x4_1, rfl, rfl, HA, HK1, HB⟩ := hrel
  cases gk with
  | zero => exact absurd HA.out (by simp [tmpl_pieces.l0])
  | succ k1 =>
   have H := HA.out
   clear HA
   simp only [tmpl_pieces.l0] at H
   by_cases c4 : x4_1 > 0
   · rw [if_pos c4] at H
     have c4b0 : decide (0 < x4_1) = true := decide_eq_true c4
     clear c4
     obtain ⟨ji5, hji5⟩ : ∃ j_ : Int, (wrap64 (x3_1 + x4_1)) = j_ := ⟨_, rfl⟩
     replace H : (if 0 ≤ (ji5) then (if (ji5) ≤ (a0.size : Int) then ((tmpl_piece.f k1 (a0.extract ((ji5) : Int).toNat a0.size)).bind fun t635 => (tmpl_pieces.l0 k1 a0 ji5 t635)) else (none)) else (none)) = some r := by first | (rw [hji5] at H; exact H) | (simp only [hji5] at H ⊢; exact H)
     have hji5w : (IntKind.i64.wrap (x3_1 + x4_1)) = ji5 := (i64_w _).trans hji5
     by_cases c6 : 0 ≤ (ji5)
     · rw [if_pos c6] at H
       have c6b0 := eq_true c6
       have c6b1 : decide (0 ≤ (ji5)) = true := decide_eq_true c6
       clear c6
       by_cases c7 : (ji5) ≤ (a0.size : Int)
       · rw [if_pos c7] at H
         have c7b0 := eq_true c7
         have c7b1 : decide ((ji5) ≤ (a0.size : Int)) = true := decide_eq_true c7
         clear c7
         replace H := Option.bind_eq_some_iff.mp H
         obtain ⟨t635, A80, H⟩ := H
         replace H : (tmpl_pieces.l0 k1 a0 ji5 t635) = some r := H
         have A8 := Aside0.mk A80
         clear A80
         have H' := Aside0.mk H
         clear H
         go_wp2_with (first | ((with_reducible refine gate_callee (f := 125) rfl ?_); refine goesL_ (some 12) rfl rfl Tryz.func125 (by kernel_rfl) rfl #[.string (a0.extract ((ji5) : Int).toNat a0.size)] rfl (by (try simp only [List.map_toArray, List.map_cons, List.map_nil]); first | done | (simp only [hji5]; rfl) | rfl | (simp only [List.length_drop, List.length_take]; rfl)) ?_; (with_reducible refine (tmpl_piece.calls k1 (a0.extract ((ji5) : Int).toNat a0.size) t635 _ A8.out).mono ?_); rintro e w9 ⟨rfl, hb⟩; refine ⟨_, rfl, ?_⟩; have n0_ := Aside0.mk (below_step (by repeat (first | (with_reducible first | exact HB.out | apply below_alloc | apply pw_below_drewN | apply below_drew1) | exact HB.out)) hb); clear HB; have HB := n0_; clear n0_; (try clear hb); (try clear hb2); (try clear hk); (try clear hi)))
         go_roundg k1
         case measure => have := HK1.out; omega
         case rel => exact ⟨(ji5), (t635), (by first | rfl | (simp; done) | (simp only [← hji5] <;> (first | rfl | simp)) | (simp [*]; done)), (by first | rfl | (simp; done) | (simp [*]; done)), H', ⟨by have := HK1.out; omega⟩, ⟨by repeat (first | (with_reducible first | exact HB.out | apply below_alloc | apply pw_below_drewN | apply below_drew1) | exact HB.out)⟩⟩
       · rw [if_neg c7] at H
         exact absurd H (by simp)
     · rw [if_neg c6] at H
       exact absurd H (by simp)
   · rw [if_neg c4] at H
     have c4b0 : decide (0 < x4_1) = false := decide_eq_false c4
     clear c4
     obtain rfl := Option.some.inj H
     go_wp2
     go_ret
     exact ⟨by first | rfl | (simp [errW_none, errW_some] <;> rfl) | (simp [*, errW_none, errW_some] <;> rfl), by repeat (first | (with_reducible first | exact HB.out | apply below_alloc | apply pw_below_drewN | apply below_drew1) | exact HB.out)⟩
end Go.Proofs.YtlocbpaikdgmbaaGreatDoor.P
end
section
namespace Go.Proofs.YtlocbpaikdgmbaaGreatDoor.P
set_option linter.unusedVariables false
set_option linter.unusedSimpArgs false
def GoodV (v : MVar) : Prop := run nstep .ns v.name = some .n ∧ 0 ≤ v.max ∧ v.max ≤ 9999 ∧ (v.star = true → v.max = 0)
theorem nameEnd_put {n t : List Nat} (h : run nstep .ns n = some .n) (ht : t = [] ∨ ∃ b r, t = b :: r ∧ nstep .n b = none) : nameEnd (n ++ t) = n.length := by
 refine nameEnd_eq (by simp) (by rw [List.take_left]; exact h) fun k h1 h2 => ?_
 rcases ht with rfl | ⟨b, r, rfl, hb⟩
 · simp at h2
   omega
 · obtain ⟨j, rfl⟩ : ∃ j, k = n.length + (j + 1) := ⟨k - n.length - 1, by omega⟩
   rw [List.take_append, List.take_of_length_le (by omega), show n.length + (j + 1) - n.length = j + 1 by omega, List.take_succ_cons, run_append, h]
   show run nstep .n (b :: _) ≠ _
   rw [run_none hb]
   simp
def GoodOp (op : Int) : Prop := op = 0 ∨ ∃ b : Nat, isOp b = true ∧ op = (b : Int)
def GoodP (x : MPart) : Prop := (x.specs = [] → x.op = 0 ∧ x.lit ≠ [] ∧ piecesN (x.lit.length + 1) x.lit = x.lit.length) ∧ (x.specs ≠ [] → x.lit = [] ∧ GoodOp x.op ∧ ∀ v ∈ x.specs, GoodV v)
def MayT : List MPart → Prop
 | [] => True
 | x :: r => GoodP x ∧ (x.specs = [] → ∀ y, r.head? = some y → y.specs ≠ []) ∧ MayT r
end Go.Proofs.YtlocbpaikdgmbaaGreatDoor.P
end
section
namespace Go.Proofs.YtlocbpaikdgmbaaGreatDoor.P
open Go.RowKit Go.Proofs.YtlocbpaikdgmbaaGreatDoorW.PrintWords Go.Proofs.YtlocbpaikdgmbaaGreatDoorW.PrintLast Go.Proofs.YtlocbpaikdgmbaaGreatDoorW.PrintMore
attribute [local go_sem] max2_int min2_int max_two min_two max_three min_three max_four min_four
set_option linter.unusedVariables false
set_option linter.unusedSimpArgs false
mutual
def rf07_Few.l0 : Nat → List (S31) → Int → Option (Bool)
 | 0, _, _ => none
 | k + 1, x0, x3 => if x3 < (x0.length : Int) then (rf07_Few.j1 k x0 x3 (decide (x3 < 31))) else (rf07_Few.j1 k x0 x3 false)
def rf07_Few.j1 : Nat → List (S31) → Int → Bool → Option (Bool)
 | 0, _, _, _ => none
 | k + 1, x0, x3, x12 => if x12 = true then (if 0 ≤ x3 then (if x3 < (x0.length : Int) then (if (((rd_T31 x0 x3).f0).size : Int) > 200 then (rf07_Few.j2 k x0 x3 true) else (rf07_Few.j2 k x0 x3 (decide ((((rd_T31 x0 x3).f2).length : Int) > 20)))) else (none)) else (none)) else (some (decide ((x0.length : Int) ≤ 30)))
def rf07_Few.j2 : Nat → List (S31) → Int → Bool → Option (Bool)
 | 0, _, _, _ => none
 | k + 1, x0, x3, x30 => if x30 = true then (some false) else (rf07_Few.l1 k x0 x3 0)
def rf07_Few.l1 : Nat → List (S31) → Int → Int → Option (Bool)
 | 0, _, _, _ => none
 | k + 1, x0, x3, x4 => if 0 ≤ x3 then (if x3 < (x0.length : Int) then (if x4 < (((rd_T31 x0 x3).f2).length : Int) then (if 0 ≤ x4 then (if (((rd_T55 ((rd_T31 x0 x3).f2) x4).f0).size : Int) > 200 then (some false) else (rf07_Few.l1 k x0 x3 (wrap64 (x4 + 1)))) else (none)) else (rf07_Few.l0 k x0 (wrap64 (x3 + 1)))) else (none)) else (none)
end
def rf07_Few.f (k : Nat) (l0 : List (S31)) : Option (Bool) := rf07_Few.l0 k l0 0
set_option maxHeartbeats 8000000 in
set_option maxRecDepth 100000 in
theorem rf07_Few.calls (k : Nat) (A0 : Option Addr) (c0 : Nat) (l0 : List (S31)) (r : Bool) (w : World) (hr0 : Kd.C k31 w A0 l0.length l0) (hc0 : l0.length ≤ c0) (h : rf07_Few.f k l0 = some r) :
 Calls Tryz.prog 34 #[.slice A0 l0.length c0] w fun e w' => e = .returned (.bool r) ∧ Drawn0 w w' := by
 have HR0 := Aside0.mk hr0
 have HC0 := Aside0.mk hc0
 clear hr0 hc0
 have H : (rf07_Few.l0 k l0 0) = some r := h
 clear h
 have H' := Aside0.mk H
 clear H
 go_enter Tryz.func34, Tryz.ntmps34
 go_wp2
 go_loopg [3] k (fun kq v3 w' => ∃ (x3_1 : Int), v3 = .int .i64 x3_1 ∧ Aside0 (rf07_Few.l0 kq l0 x3_1 = some r) ∧ Aside0 (kq ≤ k) ∧ Drawn0 w w')
 case atStart => exact ⟨(0), (by first | rfl | (simp; done) | (simp [*]; done)), H', ⟨Nat.le_refl _⟩, by repeat (first | exact Drawn0.refl _ | apply Drawn0.step)⟩
 case round =>
  clear H'
  obtain ⟨x3_1, rfl, HA, HK1, ⟨m1, rfl⟩⟩ := hrel
  cases gk with
  | zero => exact absurd HA.out (by simp [rf07_Few.l0])
  | succ k1 =>
   have H := HA.out
   clear HA
   simp only [rf07_Few.l0] at H
   have HC2 := Aside0.mk H
   clear H
   go_upto_region 2 with (fail)
   go_cut [12] (fun v12 wc => ∃ (kq : Nat) (x12_1 : Bool), v12 = .bool x12_1 ∧ Aside0 (rf07_Few.j1 kq l0 x3_1 x12_1 = some r) ∧ Aside0 (kq ≤ k1) ∧ Drawn0 w wc)
   case first =>
    have H := HC2.out
    clear HC2
    by_cases c3 : x3_1 < (l0.length : Int)
    · rw [if_pos c3] at H
      have c3b0 : decide (x3_1 < (l0.length : Int)) = true := decide_eq_true c3
      clear c3
      (first | rw [c3b0] | (simp only [i64_w, i32_w]; rw [c3b0]) | skip)
      have H' := Aside0.mk H
      clear H
      go_wp2
      go_meet
      case rel => exact ⟨_, (decide (x3_1 < 31)), (by first | rfl | (simp; done) | (simp [*]; done)), H', ⟨by have := HK1.out; first | omega | exact Nat.le_refl _⟩, by repeat (first | exact Drawn0.refl _ | apply Drawn0.step)⟩
    · rw [if_neg c3] at H
      have c3b0 : decide (x3_1 < (l0.length : Int)) = false := decide_eq_false c3
      clear c3
      (first | rw [c3b0] | (simp only [i64_w, i32_w]; rw [c3b0]) | skip)
      have H' := Aside0.mk H
      clear H
      go_wp2
      go_meet
      case rel => exact ⟨_, (false), (by first | rfl | (simp; done) | (simp [*]; done)), H', ⟨by have := HK1.out; first | omega | exact Nat.le_refl _⟩, by repeat (first | exact Drawn0.refl _ | apply Drawn0.step)⟩
   case rest =>
    clear HC2
    try clear p2
    try clear c3
    try clear c3b0
    obtain ⟨kq, x12_1, rfl, HA, HJ1, ⟨mc1, rfl⟩⟩ := hcut
    cases kq with
    | zero => exact absurd HA.out (by simp [rf07_Few.j1])
    | succ kj1 =>
     have H := HA.out
     clear HA
     simp only [rf07_Few.j1] at H
     by_cases c4 : x12_1 = true
     · subst c4
       have H1 : (if 0 ≤ x3_1 then (if x3_1 < (l0.length : Int) then (if (((rd_T31 l0 x3_1).f0).size : Int) > 200 then (rf07_Few.j2 kj1 l0 x3_1 true) else (rf07_Few.j2 kj1 l0 x3_1 (decide ((((rd_T31 l0 x3_1).f2).length : Int) > 20)))) else (none)) else (none)) = some r := by rw [if_pos rfl] at H; exact H
       clear H
       have H := H1
       clear H1
       have HC5 := Aside0.mk H
       clear H
       go_upto_region 4 with (fail)
       go_cut [30] (fun v30 wc => ∃ (kq : Nat) (x30_4 : Bool), v30 = .bool x30_4 ∧ Aside0 (rf07_Few.j2 kq l0 x3_1 x30_4 = some r) ∧ Aside0 (kq ≤ kj1) ∧ Drawn0 w wc)
       case first =>
        have H := HC5.out
        clear HC5
        by_cases c6 : 0 ≤ x3_1
        · rw [if_pos c6] at H
          have c6b0 : decide (0 ≤ x3_1) = true := decide_eq_true c6
          clear c6
          (first | rw [c6b0] | (simp only [i64_w, i32_w]; rw [c6b0]) | skip)
          by_cases c7 : x3_1 < (l0.length : Int)
          · rw [if_pos c7] at H
            have c7b0 : decide (x3_1 < (l0.length : Int)) = true := decide_eq_true c7
            clear c7
            by_cases c8 : (((rd_T31 l0 x3_1).f0).size : Int) > 200
            · rw [if_pos c8] at H
              have c8b0 : decide (200 < (((rd_T31 l0 x3_1).f0).size : Int)) = true := decide_eq_true c8
              have c8b1 : decide (200 < ((rd_T31 l0 x3_1).f0).size) = true := decide_eq_true (by omega)
              clear c8
              have H' := Aside0.mk H
              clear H
              have p101 : 0 ≤ (x3_1 : Int) := of_decide_eq_true (by first | (with_reducible assumption) | assumption)
              have q101 : x3_1 < (l0.length : Int) := of_decide_eq_true (by first | (with_reducible assumption) | assumption)
              obtain ⟨ad101, A101_2, c101_2, e101, hx101_0, hx101_1, hx101_2, hl101_2, hi101_2⟩ := at_T31 HR0.out x3_1 p101 q101
              cases e101
              have HR101_2 := Aside0.mk hi101_2
              have HC101_2 := Aside0.mk hl101_2
              clear hi101_2 hl101_2
              replace p101 := eq_true p101
              replace q101 := eq_true q101
              go_wp2
              go_meet
              case rel => exact ⟨_, (true), (by first | rfl | (simp; done) | (simp [*]; done)), H', ⟨by have := HK1.out; have := HJ1.out; first | omega | exact Nat.le_refl _⟩, by repeat (first | exact Drawn0.refl _ | apply Drawn0.step)⟩
            · rw [if_neg c8] at H
              have c8b0 : decide (200 < (((rd_T31 l0 x3_1).f0).size : Int)) = false := decide_eq_false c8
              have c8b1 : decide (200 < ((rd_T31 l0 x3_1).f0).size) = false := decide_eq_false (by omega)
              clear c8
              have H' := Aside0.mk H
              clear H
              have p101 : 0 ≤ (x3_1 : Int) := of_decide_eq_true (by first | (with_reducible assumption) | assumption)
              have q101 : x3_1 < (l0.length : Int) := of_decide_eq_true (by first | (with_reducible assumption) | assumption)
              obtain ⟨ad101, A101_2, c101_2, e101, hx101_0, hx101_1, hx101_2, hl101_2, hi101_2⟩ := at_T31 HR0.out x3_1 p101 q101
              cases e101
              have HR101_2 := Aside0.mk hi101_2
              have HC101_2 := Aside0.mk hl101_2
              clear hi101_2 hl101_2
              replace p101 := eq_true p101
              replace q101 := eq_true q101
              have p102 : 0 ≤ (x3_1 : Int) := of_decide_eq_true (by first | (with_reducible assumption) | assumption)
              have q102 : x3_1 < (l0.length : Int) := of_decide_eq_true (by first | (with_reducible assumption) | assumption)
              obtain ⟨ad102, A102_2, c102_2, e102, hx102_0, hx102_1, hx102_2, hl102_2, hi102_2⟩ := at_T31 HR0.out x3_1 p102 q102
              obtain rfl : ad101 = ad102 := (by injection e102)
              have HR102_2 := Aside0.mk hi102_2
              have HC102_2 := Aside0.mk hl102_2
              clear hi102_2 hl102_2
              replace p102 := eq_true p102
              replace q102 := eq_true q102
              have ea_ := Option.some.inj (hx101_2.symm.trans hx102_2)
              injection ea_ with ea_ en_ ec_
              subst ea_
              subst ec_
              clear en_
              go_wp2
              go_meet
              case rel => exact ⟨_, (decide ((((rd_T31 l0 x3_1).f2).length : Int) > 20)), (by first | rfl | (simp; done) | (simp [*]; done)), H', ⟨by have := HK1.out; have := HJ1.out; first | omega | exact Nat.le_refl _⟩, by repeat (first | exact Drawn0.refl _ | apply Drawn0.step)⟩
          · rw [if_neg c7] at H
            exact absurd H (by simp)
        · rw [if_neg c6] at H
          exact absurd H (by simp)
       case rest =>
        clear HC5
        try clear c1
        try clear p1
        try clear q1
        try clear hx1
        try clear p2
        try clear c3
        try clear c3b0
        try clear c4
        try clear c6
        try clear c6b0
        try clear c7
        try clear c7b0
        try clear c8
        try clear c8b0
        try clear c8b1
        try clear hx101_0
        try clear hx101_1
        try clear hx101_2
        try clear hx102_0
        try clear hx102_1
        try clear hx102_2
        try clear p101
        try clear p102
        try clear p2
        try clear q101
        try clear q102
        obtain ⟨kq, x30_4, rfl, HA, HJ4, ⟨mc4, rfl⟩⟩ := hcut
        cases kq with
        | zero => exact absurd HA.out (by simp [rf07_Few.j2])
        | succ kj4 =>
         have H := HA.out
         clear HA
         simp only [rf07_Few.j2] at H
         by_cases c9 : x30_4 = true
         · subst c9
           have H1 : (some false) = some r := by rw [if_pos rfl] at H; exact H
           clear H
           have H := H1
           clear H1
           obtain rfl := Option.some.inj H
           go_wp2
           go_ret
           exact ⟨by first | rfl | (simp; done) | (simp [*]; done), by repeat (first | exact Drawn0.refl _ | apply Drawn0.step)⟩
         · replace c9 := Bool.eq_false_iff.mpr c9
           subst c9
           have H1 : (rf07_Few.l1 kj4 l0 x3_1 0) = some r := by rw [if_neg (show ¬ (false = true) by decide)] at H; exact H
           clear H
           have H := H1
           clear H1
           have H' := Aside0.mk H
           clear H
           go_wp2
           go_loopg [4] kj4 (fun kq v4 w' => ∃ (x4_4 : Int), v4 = .int .i64 x4_4 ∧ Aside0 (rf07_Few.l1 kq l0 x3_1 x4_4 = some r) ∧ Aside0 (kq ≤ kj4) ∧ Drawn0 w w')
           case atStart => exact ⟨(0), (by first | rfl | (simp; done) | (simp [*]; done)), H', ⟨Nat.le_refl _⟩, by repeat (first | exact Drawn0.refl _ | apply Drawn0.step)⟩
           case round =>
            clear H'
            try clear c1
            try clear p1
            try clear q1
            try clear hx1
            try clear p2
            try clear c3
            try clear c3b0
            try clear c4
            try clear c6
            try clear c6b0
            try clear c7
            try clear c7b0
            try clear c8
            try clear c8b0
            try clear c8b1
            try clear c9
            try clear hx101_0
            try clear hx101_1
            try clear hx101_2
            try clear hx102_0
            try clear hx102_1
            try clear hx102_2
            try clear p1
            try clear p101
            try clear p102
            try clear p2
            try clear q1
            try clear q101
            try clear q102
            obtain ⟨x4_4, rfl, HA, HK4, ⟨m4, rfl⟩⟩ := hrel
            cases gk with
            | zero => exact absurd HA.out (by simp [rf07_Few.l1])
            | succ k4 =>
             have H := HA.out
             clear HA
             simp only [rf07_Few.l1] at H
             by_cases c10 : 0 ≤ x3_1
             · rw [if_pos c10] at H
               have c10b0 : decide (0 ≤ x3_1) = true := decide_eq_true c10
               clear c10
               by_cases c11 : x3_1 < (l0.length : Int)
               · rw [if_pos c11] at H
                 have c11b0 : decide (x3_1 < (l0.length : Int)) = true := decide_eq_true c11
                 clear c11
                 by_cases c12 : x4_4 < (((rd_T31 l0 x3_1).f2).length : Int)
                 · rw [if_pos c12] at H
                   have c12b0 : decide (x4_4 < (((rd_T31 l0 x3_1).f2).length : Int)) = true := decide_eq_true c12
                   clear c12
                   by_cases c13 : 0 ≤ x4_4
                   · rw [if_pos c13] at H
                     have c13b0 : decide (0 ≤ x4_4) = true := decide_eq_true c13
                     clear c13
                     by_cases c14 : (((rd_T55 ((rd_T31 l0 x3_1).f2) x4_4).f0).size : Int) > 200
                     · rw [if_pos c14] at H
                       have c14b0 : decide (200 < (((rd_T55 ((rd_T31 l0 x3_1).f2) x4_4).f0).size : Int)) = true := decide_eq_true c14
                       have c14b1 : decide (200 < ((rd_T55 ((rd_T31 l0 x3_1).f2) x4_4).f0).size) = true := decide_eq_true (by omega)
                       clear c14
                       obtain rfl := Option.some.inj H
                       have p103 : 0 ≤ (x3_1 : Int) := of_decide_eq_true (by first | (with_reducible assumption) | assumption)
                       have q103 : x3_1 < (l0.length : Int) := of_decide_eq_true (by first | (with_reducible assumption) | assumption)
                       obtain ⟨ad103, A103_2, c103_2, e103, hx103_0, hx103_1, hx103_2, hl103_2, hi103_2⟩ := at_T31 HR0.out x3_1 p103 q103
                       cases e103
                       have HR103_2 := Aside0.mk hi103_2
                       have HC103_2 := Aside0.mk hl103_2
                       clear hi103_2 hl103_2
                       replace p103 := eq_true p103
                       replace q103 := eq_true q103
                       have p104 : 0 ≤ (x3_1 : Int) := of_decide_eq_true (by first | (with_reducible assumption) | assumption)
                       have q104 : x3_1 < (l0.length : Int) := of_decide_eq_true (by first | (with_reducible assumption) | assumption)
                       obtain ⟨ad104, A104_2, c104_2, e104, hx104_0, hx104_1, hx104_2, hl104_2, hi104_2⟩ := at_T31 HR0.out x3_1 p104 q104
                       obtain rfl : ad103 = ad104 := (by injection e104)
                       have HR104_2 := Aside0.mk hi104_2
                       have HC104_2 := Aside0.mk hl104_2
                       clear hi104_2 hl104_2
                       replace p104 := eq_true p104
                       replace q104 := eq_true q104
                       have ea_ := Option.some.inj (hx103_2.symm.trans hx104_2)
                       injection ea_ with ea_ en_ ec_
                       subst ea_
                       subst ec_
                       clear en_
                       have p105 : 0 ≤ (x4_4 : Int) := of_decide_eq_true (by first | (with_reducible assumption) | assumption)
                       have q105 : x4_4 < (((rd_T31 l0 x3_1).f2).length : Int) := of_decide_eq_true (by first | (with_reducible assumption) | assumption)
                       obtain ⟨ad105, e105, hx105_0, hx105_1, hx105_2⟩ := at_T55 HR104_2.out x4_4 p105 q105
                       cases e105
                       replace p105 := eq_true p105
                       replace q105 := eq_true q105
                       go_wp2
                       go_ret
                       exact ⟨by first | rfl | (simp; done) | (simp [*]; done), by repeat (first | exact Drawn0.refl _ | apply Drawn0.step)⟩
                     · rw [if_neg c14] at H
                       have c14b0 : decide (200 < (((rd_T55 ((rd_T31 l0 x3_1).f2) x4_4).f0).size : Int)) = false := decide_eq_false c14
                       have c14b1 : decide (200 < ((rd_T55 ((rd_T31 l0 x3_1).f2) x4_4).f0).size) = false := decide_eq_false (by omega)
                       clear c14
                       have H' := Aside0.mk H
                       clear H
                       have p103 : 0 ≤ (x3_1 : Int) := of_decide_eq_true (by first | (with_reducible assumption) | assumption)
                       have q103 : x3_1 < (l0.length : Int) := of_decide_eq_true (by first | (with_reducible assumption) | assumption)
                       obtain ⟨ad103, A103_2, c103_2, e103, hx103_0, hx103_1, hx103_2, hl103_2, hi103_2⟩ := at_T31 HR0.out x3_1 p103 q103
                       cases e103
                       have HR103_2 := Aside0.mk hi103_2
                       have HC103_2 := Aside0.mk hl103_2
                       clear hi103_2 hl103_2
                       replace p103 := eq_true p103
                       replace q103 := eq_true q103
                       have p104 : 0 ≤ (x3_1 : Int) := of_decide_eq_true (by first | (with_reducible assumption) | assumption)
                       have q104 : x3_1 < (l0.length : Int) := of_decide_eq_true (by first | (with_reducible assumption) | assumption)
                       obtain ⟨ad104, A104_2, c104_2, e104, hx104_0, hx104_1, hx104_2, hl104_2, hi104_2⟩ := at_T31 HR0.out x3_1 p104 q104
                       obtain rfl : ad103 = ad104 := (by injection e104)
                       have HR104_2 := Aside0.mk hi104_2
                       have HC104_2 := Aside0.mk hl104_2
                       clear hi104_2 hl104_2
                       replace p104 := eq_true p104
                       replace q104 := eq_true q104
                       have ea_ := Option.some.inj (hx103_2.symm.trans hx104_2)
                       injection ea_ with ea_ en_ ec_
                       subst ea_
                       subst ec_
                       clear en_
                       have p105 : 0 ≤ (x4_4 : Int) := of_decide_eq_true (by first | (with_reducible assumption) | assumption)
                       have q105 : x4_4 < (((rd_T31 l0 x3_1).f2).length : Int) := of_decide_eq_true (by first | (with_reducible assumption) | assumption)
                       obtain ⟨ad105, e105, hx105_0, hx105_1, hx105_2⟩ := at_T55 HR104_2.out x4_4 p105 q105
                       cases e105
                       replace p105 := eq_true p105
                       replace q105 := eq_true q105
                       go_wp2
                       go_roundg k4
                       case measure => have := HK1.out; have := HJ1.out; have := HJ4.out; have := HK4.out; omega
                       case rel => exact ⟨(wrap64 (x4_4 + 1)), (by first | rfl | (simp; done) | (simp [*]; done)), H', ⟨by have := HK1.out; have := HJ1.out; have := HJ4.out; have := HK4.out; omega⟩, by repeat (first | exact Drawn0.refl _ | apply Drawn0.step)⟩
                   · rw [if_neg c13] at H
                     exact absurd H (by simp)
                 · rw [if_neg c12] at H
                   have c12b0 : decide (x4_4 < (((rd_T31 l0 x3_1).f2).length : Int)) = false := decide_eq_false c12
                   clear c12
                   have H' := Aside0.mk H
                   clear H
                   have p103 : 0 ≤ (x3_1 : Int) := of_decide_eq_true (by first | (with_reducible assumption) | assumption)
                   have q103 : x3_1 < (l0.length : Int) := of_decide_eq_true (by first | (with_reducible assumption) | assumption)
                   obtain ⟨ad103, A103_2, c103_2, e103, hx103_0, hx103_1, hx103_2, hl103_2, hi103_2⟩ := at_T31 HR0.out x3_1 p103 q103
                   cases e103
                   have HR103_2 := Aside0.mk hi103_2
                   have HC103_2 := Aside0.mk hl103_2
                   clear hi103_2 hl103_2
                   replace p103 := eq_true p103
                   replace q103 := eq_true q103
                   go_wp2
                   go_roundg k4
                   case measure => have := HK1.out; have := HJ1.out; have := HJ4.out; have := HK4.out; omega
                   case rel => exact ⟨(wrap64 (x3_1 + 1)), (by first | rfl | (simp; done) | (simp [*]; done)), H', ⟨by have := HK1.out; have := HJ1.out; have := HJ4.out; have := HK4.out; omega⟩, by repeat (first | exact Drawn0.refl _ | apply Drawn0.step)⟩
               · rw [if_neg c11] at H
                 exact absurd H (by simp)
             · rw [if_neg c10] at H
               exact absurd H (by simp)
     · replace c4 := Bool.eq_false_iff.mpr c4
       subst c4
       have H1 : (some (decide ((l0.length : Int) ≤ 30))) = some r := by rw [if_neg (show ¬ (false = true) by decide)] at H; exact H
       clear H
       have H := H1
       clear H1
       obtain rfl := Option.some.inj H
       go_wp2
       go_ret
       exact ⟨by first | rfl | (simp; done) | (simp [*]; done), by repeat (first | exact Drawn0.refl _ | apply Drawn0.step)⟩
end Go.Proofs.YtlocbpaikdgmbaaGreatDoor.P
end
