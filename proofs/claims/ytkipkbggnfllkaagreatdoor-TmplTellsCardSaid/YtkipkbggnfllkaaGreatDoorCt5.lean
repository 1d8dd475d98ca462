/- The law TmplTells of the package phalaropelaw07 holds of all parts and every byte: whether the parts may be a template, how it is written, its variables, whether each stands there once, and whether the byte is an operator, the program tells as the document does. Condition: the laid variables of strconv hold what their makers laid (the card's own condition). -/
import Derived.Test.YtkipkbggnfllkaaGreatDoorCt4
import Derived.ChangeMaps5
import Derived.Carry
import Derived.OpenShut
section
namespace Go.Proofs.YtkipkbggnfllkaaGreatDoor.P
open Go.RowKit Go.Proofs.YtkipkbggnfllkaaGreatDoorW.PrintWords Go.Proofs.YtkipkbggnfllkaaGreatDoorW.PrintLast Go.Proofs.YtkipkbggnfllkaaGreatDoorW.PrintMore
set_option linter.unusedVariables false
set_option linter.unusedSimpArgs false
theorem lit_step {s : ByteArray} (g6 : s.toList ≠ []) {R : Bool} (h : Ev (fun k => (rf07_Piece.f k s).bind fun t => if t = 0 then some false else (if 0 ≤ t then (if t ≤ (s.size : Int) then rf07_Literal.l0 k (s.extract t.toNat s.size) else none) else none)) R) : Ev (fun k => rf07_Literal.l0 k s) R :=
 Ev.step (f := _) (fun k => by simp only [rf07_Literal.l0]; rw [if_neg g6]) h
theorem lit_none (n : Nat) {s : ByteArray} (g2 : bs s = []) (g3 : s.toList = []) : Ev (fun k => rf07_Literal.l0 k s) (decide (piecesN n (bs s) = (bs s).length)) := by
 have e : decide (piecesN n (bs s) = (bs s).length) = true := decide_eq_true (by rw [g2]; exact pieces_nil n)
 rw [e]
 exact Ev.step (f := fun _ => some true) (fun k => by simp only [rf07_Literal.l0]; rw [if_pos g3]) (Ev.now _)
theorem lit_from : ∀ (n : Nat) (s : ByteArray), s.size ≤ n → s.size ≤ 1099511627776 → Ev (fun k => rf07_Literal.l0 k s) (decide (piecesN n (bs s) = (bs s).length))
 | 0, s, hn, hs => by
  rcases bs_cases s with ⟨-, g2, g3⟩ | ⟨b, r, -, -, -, g4, -⟩
  · exact lit_none 0 g2 g3
  · omega
 | n + 1, s, hn, hs => by
  rcases bs_cases s with ⟨-, g2, g3⟩ | ⟨b, r, hb, g2, g3, g4, g5, g6, g7⟩
  · exact lit_none (n + 1) g2 g3
  · have hl := bs_length s
    refine lit_step g6 ((ref_piece s hs).bind ?_)
    by_cases h0 : pieceN (bs s) = 0
    · have e : piecesN (n + 1) (bs s) = 0 := (pieces_zero n (bs s)).2 h0
      rw [decide_eq_false (by rw [e]; omega)]
      exact Ev.pos (by omega) (Ev.now _)
    · obtain ⟨q1, -, -⟩ := piece_top h0
      have ih := lit_from n (s.extract (pieceN (bs s)) s.size) (by rw [bs_size_from]; omega) (by rw [bs_size_from]; omega)
      rw [bs_from] at ih
      have e : piecesN (n + 1) (bs s) = pieceN (bs s) + piecesN n ((bs s).drop (pieceN (bs s))) := by
       simp only [piecesN]
       rw [if_neg h0]
      have e2 : decide (piecesN (n + 1) (bs s) = (bs s).length) = decide (piecesN n ((bs s).drop (pieceN (bs s))) = ((bs s).drop (pieceN (bs s))).length) := by
       rw [e, List.length_drop]
       exact decide_eq_decide.2 (by omega)
      rw [e2]
      exact Ev.neg (by omega) (Ev.pos (by omega) (Ev.pos (by omega) (by rw [Int.toNat_natCast]; exact ih)))
def litB (s : ByteArray) : Bool := decide (bs s ≠ [] ∧ piecesN ((bs s).length + 1) (bs s) = (bs s).length)
theorem ref_lit7 (s : ByteArray) (hs : s.size ≤ 1099511627776) : Ev (fun k => rf07_Literal.f k s) (litB s) := by
 have hl := bs_length s
 unfold rf07_Literal.f litB
 by_cases h : s.toList = ([] : List UInt8)
 · rw [decide_eq_false fun g => g.1 (toList_nil.1 h)]
   exact Ev.pos h (Ev.now _)
 · have e : decide (bs s ≠ [] ∧ piecesN ((bs s).length + 1) (bs s) = (bs s).length) = decide (piecesN ((bs s).length + 1) (bs s) = (bs s).length) := decide_eq_decide.2 ⟨fun g => g.2, fun g => ⟨fun k => h (toList_nil.2 k), g⟩⟩
   rw [e]
   exact Ev.neg h (lit_from ((bs s).length + 1) s (by omega) hs)
def gv (v : S43) : Bool := nameFrom .ns (bs v.f0) && (decide (0 ≤ v.f1) && (decide (v.f1 ≤ 9999) && (!v.f2 || v.f1 == 0)))
theorem gv_iff (v : S43) : gv v = true ↔ GoodV (vM v) := by
 unfold gv GoodV vM
 simp only [Bool.and_eq_true, nameFrom_iff, decide_eq_true_eq, Bool.or_eq_true, Bool.not_eq_true', beq_iff_eq]
 constructor
 · rintro ⟨a, b, c, d⟩
   refine ⟨a, b, c, fun e => ?_⟩
   rcases d with d | d
   · rw [d] at e
     cases e
   · exact d
 · rintro ⟨a, b, c, d⟩
   refine ⟨a, b, c, ?_⟩
   cases h : v.f2 with
   | false => exact .inl rfl
   | true => exact .inr (d h)
theorem may7_l1 (l : List S41) (i : Nat) (hi : i < 1099511627776) (s : ByteArray) (op : Int) (sp : List S43) (hsp : sp.length ≤ 1099511627776) (b : Bool) (h : Ev (fun k => rf07_May.l0 k l ((i + 1 : Nat) : Int)) b) :
 ∀ (d j : Nat), j + d = sp.length → Ev (fun k => rf07_May.l1 k l (i : Int) (j : Int) s op sp) ((sp.drop j).all gv && b)
 | 0, j, hj => by
  have ew : wrap64 ((i : Int) + 1) = ((i + 1 : Nat) : Int) := by rw [w64 (by omega) (by omega)]; omega
  rw [List.drop_eq_nil_of_le (by omega), List.all_nil, Bool.true_and]
  refine Ev.step (f := _) (fun k => ?_) h
  simp only [rf07_May.l1]
  rw [if_neg (by omega), ew]
 | d + 1, j, hj => by
  have ew : wrap64 ((j : Int) + 1) = ((j + 1 : Nat) : Int) := by rw [w64 (by omega) (by omega)]; omega
  obtain ⟨v, hv1, hv2⟩ := bk43_at sp j (by omega)
  have ih := may7_l1 l i hi s op sp hsp b h d (j + 1) (by omega)
  rw [hv2, List.all_cons]
  have c1 : ((j : Int) < (sp.length : Int)) = True := eq_true (by omega)
  have c2 : (0 ≤ (j : Int)) = True := eq_true (by omega)
  refine Ev.step (f := fun k => (rf06_May.f k v.f0 v.f1 v.f2).bind fun t => if t = true then rf07_May.l1 k l (i : Int) ((j + 1 : Nat) : Int) s op sp else some false) (fun k => ?_) ((ref_may6 v.f0 v.f1 v.f2).bind ?_)
  · simp only [rf07_May.l1, c1, c2, hv1, ew, if_true]
  · show Ev (fun k => if gv v = true then _ else _) (gv v && (sp.drop (j + 1)).all gv && b)
    by_cases hg : gv v = true
    · rw [hg, Bool.true_and]
      exact Ev.pos rfl ih
    · have hg : gv v = false := by simpa using hg
      rw [hg]
      exact Ev.neg (by simp) (Ev.now _)
def AdjAt (l : List S41) (i : Nat) : Prop := ∀ y z, 0 < i → l[i - 1]? = some y → l[i]? = some z → y.f2 = [] → z.f2 ≠ []
theorem may_step {l : List S41} {i : Nat} (hi : i < l.length) {b : Bool} (hbi : b = true ↔ AdjAt l (i + 1) ∧ MayT ((l.drop (i + 1)).map pM)) : (b = true ∧ GoodP (pM l[i]) ∧ AdjAt l i) ↔ AdjAt l i ∧ MayT ((l.drop i).map pM) := by
 have hget : l[i]? = some l[i] := List.getElem?_eq_getElem hi
 have hMay : MayT ((l.drop i).map pM) ↔ GoodP (pM l[i]) ∧ (l[i].f2 = [] → ∀ z, l[i + 1]? = some z → z.f2 ≠ []) ∧ MayT ((l.drop (i + 1)).map pM) := by
  rw [List.drop_eq_getElem_cons hi]
  show GoodP (pM l[i]) ∧ ((l[i].f2.map vM) = [] → ∀ y, ((l.drop (i + 1)).map pM).head? = some y → y.specs ≠ []) ∧ _ ↔ _
  rw [List.map_eq_nil_iff]
  have hh : ((l.drop (i + 1)).map pM).head? = (l[i + 1]?).map pM := by
   rw [List.head?_map, List.head?_drop]
  rw [hh]
  constructor
  · rintro ⟨a, b, c⟩
    refine ⟨a, fun e z hz hz2 => b e (pM z) (by rw [hz]; rfl) ?_, c⟩
    show z.f2.map vM = []
    rw [hz2]
    rfl
  · rintro ⟨a, b, c⟩
    refine ⟨a, fun e y hy => ?_, c⟩
    obtain ⟨z, hz, rfl⟩ := Option.map_eq_some_iff.1 hy
    intro e2
    exact b e z hz (List.map_eq_nil_iff.1 e2)
 have hrec : (b = true ↔ (l[i].f2 = [] → ∀ z, l[i + 1]? = some z → z.f2 ≠ []) ∧ MayT ((l.drop (i + 1)).map pM)) := by
  rw [hbi]
  constructor
  · rintro ⟨a, c⟩
    exact ⟨fun e z hz => a l[i] z (by omega) hget hz e, c⟩
  · rintro ⟨a, c⟩
    refine ⟨fun y z _ hy hz he => ?_, c⟩
    have hy : l[i]? = some y := hy
    rw [hget] at hy
    cases hy
    exact a he z hz
 rw [hrec, hMay]
 exact ⟨fun ⟨⟨a, c⟩, g, p⟩ => ⟨p, g, a, c⟩, fun ⟨p, g, a, c⟩ => ⟨⟨a, c⟩, g, p⟩⟩
theorem goodP_lit {x : S41} (h : x.f2 = []) : GoodP (pM x) ↔ x.f1 = 0 ∧ litB x.f0 = true := by
 obtain ⟨lit, op, sp⟩ := x
 subst h
 unfold GoodP litB pM
 simp only [List.map_nil, forall_const, ne_eq, not_true_eq_false, false_implies, and_true, decide_eq_true_eq]
theorem goodP_expr {x : S41} (h : x.f2 ≠ []) : GoodP (pM x) ↔ x.f0.toList = [] ∧ GoodOp x.f1 ∧ x.f2.all gv = true := by
 obtain ⟨lit, op, sp⟩ := x
 have hne : sp.map vM ≠ [] := fun e => h (List.map_eq_nil_iff.1 e)
 have hall : sp.all gv = true ↔ ∀ v ∈ sp.map vM, GoodV v := by
  rw [List.all_eq_true]
  constructor
  · intro g v hv
    obtain ⟨y, hy, rfl⟩ := List.mem_map.1 hv
    exact (gv_iff y).1 (g y hy)
  · intro g y hy
    exact (gv_iff y).2 (g (vM y) (List.mem_map_of_mem hy))
 show (sp.map vM = [] → _) ∧ (sp.map vM ≠ [] → bs lit = [] ∧ GoodOp op ∧ ∀ v ∈ sp.map vM, GoodV v) ↔ lit.toList = [] ∧ GoodOp op ∧ sp.all gv = true
 rw [hall, toList_nil]
 exact ⟨fun g => g.2 hne, fun g => ⟨fun e => absurd e hne, fun _ => g⟩⟩
theorem ref_oper7 {n : Int} (h0 : 0 ≤ n) (h1 : n ≤ 255) : ∃ b, Ev (fun k => rf07_Operator.f k n) b ∧ (b = true ↔ GoodOp n) := by
 obtain ⟨m, rfl⟩ : ∃ m : Nat, n = (m : Int) := ⟨n.toNat, by omega⟩
 refine ⟨_, ref_op (b := m) (by omega), ?_⟩
 rw [Bool.or_eq_true, beq_iff_eq]
 constructor
 · rintro (h | h)
   · exact .inl (by omega)
   · exact .inr ⟨m, h, rfl⟩
 · rintro (h | ⟨b, h, e⟩)
   · exact .inl (by omega)
   · exact .inr (by rw [show m = b by omega]; exact h)
theorem may7_loop (l : List S41) (hb : ∀ x ∈ l, OKP x) (hl : l.length ≤ 1099511627776) : ∀ (d i : Nat), i + d = l.length →
 ∃ b, Ev (fun k => rf07_May.l0 k l (i : Int)) b ∧ (b = true ↔ AdjAt l i ∧ MayT ((l.drop i).map pM))
 | 0, i, h => by
  refine ⟨true, Ev.step (f := fun _ => some true) (fun k => by simp only [rf07_May.l0]; rw [if_neg (by omega)]) (Ev.now _), fun _ => ⟨fun y z _ _ hz => ?_, ?_⟩, fun _ => rfl⟩
  · rw [List.getElem?_eq_none (by omega)] at hz
    cases hz
  · rw [List.drop_eq_nil_of_le (by omega)]
    trivial
 | d + 1, i, h => by
  have hi : i < l.length := by omega
  obtain ⟨h1, h2, h3, h4, h5⟩ := hb l[i] (List.getElem_mem hi)
  obtain ⟨b, hbr, hbi⟩ := may7_loop l hb hl d (i + 1) (by omega)
  have hst := may_step hi hbi
  have hrd := rd_part l i hi
  have hget : l[i]? = some l[i] := List.getElem?_eq_getElem hi
  have ew : wrap64 ((i : Int) + 1) = ((i + 1 : Nat) : Int) := by rw [w64 (by omega) (by omega)]; omega
  have c1 : ((i : Int) < (l.length : Int)) = True := eq_true (by omega)
  have c2 : (0 ≤ (i : Int)) = True := eq_true (by omega)
  by_cases hs : l[i].f2 = []
  · have c3 : ((l[i].f2.length : Int) = 0) = True := eq_true (by rw [hs]; rfl)
    by_cases ho : l[i].f1 = 0
    · have c4 : (l[i].f1 = 0) = True := eq_true ho
      by_cases hlit : litB l[i].f0 = true
      · have hgood : GoodP (pM l[i]) := (goodP_lit hs).2 ⟨ho, hlit⟩
        have hlt := ref_lit7 l[i].f0 h1
        rw [hlit] at hlt
        by_cases h0 : (i : Int) > 0
        · have hw2 : wrap64 ((i : Int) - 1) = ((i - 1 : Nat) : Int) := by rw [w64 (by omega) (by omega)]; omega
          have hi1 : i - 1 < l.length := by omega
          have hrd1 := rd_part l (i - 1) hi1
          have hget1 : l[i - 1]? = some l[i - 1] := List.getElem?_eq_getElem hi1
          have c5 : ((i : Int) > 0) = True := eq_true h0
          have c6 : (0 ≤ ((i - 1 : Nat) : Int)) = True := eq_true (by omega)
          have c7 : (((i - 1 : Nat) : Int) < (l.length : Int)) = True := eq_true (by omega)
          by_cases hp : l[i - 1].f2 = []
          · have c8 : ((l[i - 1].f2.length : Int) = 0) = True := eq_true (by rw [hp]; rfl)
            refine ⟨false, Ev.step (f := fun k => (rf07_Literal.f k l[i].f0).bind fun t => if t = true then some false else some false) (fun k => ?_) (hlt.bind (Ev.pos rfl (Ev.now _))), fun e => (by cases e), fun ⟨g, _⟩ => absurd hs (g _ _ (by omega) hget1 hget hp)⟩
            simp only [rf07_May.l0, c1, c2, hrd, c3, c4, c5, hw2, c6, c7, hrd1, c8, if_true]
          · have c8 : ((l[i - 1].f2.length : Int) = 0) = False := eq_false (fun e => hp (List.eq_nil_of_length_eq_zero (by omega)))
            refine ⟨b, Ev.step (f := fun k => (rf07_Literal.f k l[i].f0).bind fun t => if t = true then rf07_May.l0 k l ((i + 1 : Nat) : Int) else some false) (fun k => ?_) (hlt.bind (Ev.pos rfl hbr)), ?_⟩
            · simp only [rf07_May.l0, c1, c2, hrd, c3, c4, c5, hw2, c6, c7, hrd1, c8, ew, if_true, if_false]
            · rw [← hst]
              refine ⟨fun e => ⟨e, hgood, fun y z _ hy hz he => ?_⟩, fun g => g.1⟩
              rw [hget1] at hy
              cases hy
              exact absurd he hp
        · have c5 : ((i : Int) > 0) = False := eq_false h0
          refine ⟨b, Ev.step (f := fun k => (rf07_Literal.f k l[i].f0).bind fun t => if t = true then rf07_May.l0 k l ((i + 1 : Nat) : Int) else some false) (fun k => ?_) (hlt.bind (Ev.pos rfl hbr)), ?_⟩
          · simp only [rf07_May.l0, c1, c2, hrd, c3, c4, c5, ew, if_true, if_false]
          · rw [← hst]
            exact ⟨fun e => ⟨e, hgood, fun y z h0' => absurd h0' (by omega)⟩, fun g => g.1⟩
      · have hlt := ref_lit7 l[i].f0 h1
        have hlit' : litB l[i].f0 = false := by simpa using hlit
        rw [hlit'] at hlt
        have key : ∀ (G : Nat → Option Bool), Ev (fun k => (rf07_Literal.f k l[i].f0).bind fun t => if t = true then G k else some false) false := fun G => hlt.bind (Ev.neg (by simp) (Ev.now _))
        refine ⟨false, Ev.step (f := _) (fun k => ?_) (key fun k => if (i : Int) > 0 then (if 0 ≤ (wrap64 ((i : Int) - 1)) then (if (wrap64 ((i : Int) - 1)) < (l.length : Int) then (if (((rd_T41 l (wrap64 ((i : Int) - 1))).f2).length : Int) = 0 then (some false) else (rf07_May.l0 k l (wrap64 ((i : Int) + 1)))) else (none)) else (none)) else (rf07_May.l0 k l (wrap64 ((i : Int) + 1)))), fun e => (by cases e), fun g => ?_⟩
        · simp only [rf07_May.l0, c1, c2, hrd, c3, c4, if_true]
        · exact absurd ((goodP_lit hs).1 (hst.2 g).2.1).2 hlit
    · have c4 : (l[i].f1 = 0) = False := eq_false ho
      refine ⟨false, Ev.step (f := fun _ => some false) (fun k => ?_) (Ev.now _), fun e => (by cases e), fun g => ?_⟩
      · simp only [rf07_May.l0, c1, c2, hrd, c3, c4, if_true, if_false]
      · exact absurd ((goodP_lit hs).1 (hst.2 g).2.1).1 ho
  · have hadj : AdjAt l i := fun y z _ _ hz _ => by
     rw [hget] at hz
     cases hz
     exact hs
    have c3 : ((l[i].f2.length : Int) = 0) = False := eq_false (fun e => hs (List.eq_nil_of_length_eq_zero (by omega)))
    by_cases hn : l[i].f0.toList = []
    · have c4 : (l[i].f0.toList = []) = True := eq_true hn
      obtain ⟨o, ho1, ho2⟩ := ref_oper7 h2 h3
      have hl1 := may7_l1 l i (by omega) l[i].f0 l[i].f1 l[i].f2 h4 b hbr l[i].f2.length 0 (Nat.zero_add _)
      rw [List.drop_zero] at hl1
      have st : ∀ {R : Bool}, Ev (fun k => rf07_May.j1 k l (i : Int) (!o) l[i].f0 l[i].f1 l[i].f2) R → Ev (fun k => rf07_May.l0 k l (i : Int)) R := fun h =>
       Ev.step (f := fun k => (rf07_Operator.f k l[i].f1).bind fun t => rf07_May.j1 k l (i : Int) (!t) l[i].f0 l[i].f1 l[i].f2) (fun k => by simp only [rf07_May.l0, c1, c2, hrd, c3, c4, if_true, if_false]) (ho1.bind h)
      by_cases hot : o = true
      · refine ⟨_, st (Ev.step (f := _) (fun k => ?_) hl1), ?_⟩
        · simp only [rf07_May.j1, hot, Bool.not_true, Bool.false_eq_true, if_false]
          rfl
        · rw [← hst, Bool.and_eq_true, goodP_expr hs]
          exact ⟨fun ⟨a, c⟩ => ⟨c, ⟨hn, ho2.1 hot, a⟩, hadj⟩, fun ⟨c, ⟨_, _, a⟩, _⟩ => ⟨a, c⟩⟩
      · refine ⟨false, st (Ev.step (f := fun _ => some false) (fun k => ?_) (Ev.now _)), fun e => (by cases e), fun g => ?_⟩
        · have : o = false := by simpa using hot
          simp only [rf07_May.j1, this, Bool.not_false, if_true]
        · exact absurd (ho2.2 ((goodP_expr hs).1 (hst.2 g).2.1).2.1) hot
    · have c4 : (l[i].f0.toList = []) = False := eq_false hn
      refine ⟨false, Ev.step (f := fun k => rf07_May.j1 k l (i : Int) true l[i].f0 l[i].f1 l[i].f2) (fun k => ?_) (Ev.step (f := fun _ => some false) (fun k => ?_) (Ev.now _)), fun e => (by cases e), fun g => ?_⟩
      · simp only [rf07_May.l0, c1, c2, hrd, c3, c4, if_true, if_false]
      · simp only [rf07_May.j1, if_true]
      · exact absurd ((goodP_expr hs).1 (hst.2 g).2.1).1 hn
theorem ref_may7 (l : List S41) (hb : ∀ x ∈ l, OKP x) (hl : l.length ≤ 1099511627776) : ∃ b, Ev (fun k => rf07_May.f k l) b ∧ (b = true ↔ MayT (l.map pM)) := by
 obtain ⟨b, h1, h2⟩ := may7_loop l hb hl l.length 0 (by omega)
 refine ⟨b, h1, ?_⟩
 rw [h2, List.drop_zero]
 exact ⟨fun h => h.2, fun h => ⟨fun _ _ e => absurd e (by omega), h⟩⟩
theorem put_one {v : S43} (hs : v.f0.size ≤ 1099511627776) (hg : GoodV (vM v)) : ∃ p, Ev (fun k => rf06_Put.f k v.f0 v.f1 v.f2) p ∧ bs p = putV (vM v) := by
 obtain ⟨p, h1, h2⟩ := ref_put6 v.f0 v.f1 v.f2 hs ((gv_iff v).2 hg)
 exact ⟨p, h1, h2⟩
section
variable {l : List S41} {i : Nat} {y : S41} {U : List Nat} (hl : l.length ≤ 1099511627776) (hi : i < l.length) (hy : rd_T41 l (i : Int) = y) (hsp : y.f2.length ≤ 1099511627776) (hg : ∀ v ∈ y.f2, v.f0.size ≤ 1099511627776 ∧ GoodV (vM v))
 (hrec : ∀ s : ByteArray, s.size + U.length ≤ 1099511627776 → ∃ t, Ev (fun k => rf07_Put.l0 k l s ((i + 1 : Nat) : Int)) t ∧ bs t = bs s ++ U)
include hl hi hy hsp hg hrec
theorem put7_l1 : ∀ (d j : Nat) (s : ByteArray), 0 < j → j + d = y.f2.length → s.size + (putTail ((y.f2.drop j).map vM)).length + 1 + U.length ≤ 1099511627776 →
 ∃ t, Ev (fun k => rf07_Put.l1 k l s (i : Int) (j : Int)) t ∧ bs t = bs s ++ (putTail ((y.f2.drop j).map vM) ++ (125 :: U))
 | 0, j, s, hj, hjd, hu => by
  have ew : wrap64 ((i : Int) + 1) = ((i + 1 : Nat) : Int) := by rw [w64 (by omega) (by omega)]; omega
  have c1 : (0 ≤ (i : Int)) = True := eq_true (by omega)
  have c2 : ((i : Int) < (l.length : Int)) = True := eq_true (by omega)
  have c3 : ((j : Int) < (y.f2.length : Int)) = False := eq_false (by omega)
  have c4 : ((y.f2.length : Int) > 0) = True := eq_true (by omega)
  have c5 : (s.size + 1 ≤ 9223372036854775807) = True := eq_true (by omega)
  have hs1 : (s ++ (⟨#[125]⟩ : ByteArray)).size = s.size + 1 := by rw [ByteArray.size_append]; rfl
  obtain ⟨t, h1, h2⟩ := hrec (s ++ ⟨#[125]⟩) (by rw [hs1]; omega)
  refine ⟨t, Ev.step (f := _) (fun k => ?_) h1, ?_⟩
  · simp only [rf07_Put.l1, c1, c2, hy, c3, c4, c5, if_true, if_false, ew]
  · rw [h2, bs_append, List.drop_eq_nil_of_le (by omega), show bs ⟨#[125]⟩ = [125] from rfl, List.append_assoc]
    rfl
 | d + 1, j, s, hj, hjd, hu => by
  have ew : wrap64 ((j : Int) + 1) = ((j + 1 : Nat) : Int) := by rw [w64 (by omega) (by omega)]; omega
  obtain ⟨v, hv1, hv2⟩ := bk43_at y.f2 j (by omega)
  have hvm : v ∈ y.f2 := List.mem_of_mem_drop (i := j) (by rw [hv2]; exact List.mem_cons_self ..)
  obtain ⟨p, p1, p2⟩ := put_one (hg v hvm).1 (hg v hvm).2
  have hpl : p.size = (putV (vM v)).length := by rw [← p2, bs_length]
  rw [hv2] at hu ⊢
  have he : putTail ((v :: y.f2.drop (j + 1)).map vM) = 44 :: (putV (vM v) ++ putTail ((y.f2.drop (j + 1)).map vM)) := rfl
  rw [he] at hu ⊢
  rw [List.length_cons, List.length_append] at hu
  have hs1 : (s ++ (⟨#[44]⟩ : ByteArray)).size = s.size + 1 := by rw [ByteArray.size_append]; rfl
  obtain ⟨t, h1, h2⟩ := put7_l1 d (j + 1) ((s ++ ⟨#[44]⟩) ++ p) (by omega) (by omega) (by rw [ByteArray.size_append, hs1]; omega)
  have c1 : (0 ≤ (i : Int)) = True := eq_true (by omega)
  have c2 : ((i : Int) < (l.length : Int)) = True := eq_true (by omega)
  have c3 : ((j : Int) < (y.f2.length : Int)) = True := eq_true (by omega)
  have c4 : ((j : Int) = 0) = False := eq_false (by omega)
  have c5 : (s.size + 1 ≤ 9223372036854775807) = True := eq_true (by omega)
  have c6 : (0 ≤ (j : Int)) = True := eq_true (by omega)
  refine ⟨t, Ev.step (f := fun k => (rf06_Put.f k v.f0 v.f1 v.f2).bind fun t301 => if (s ++ (⟨#[44]⟩ : ByteArray)).size + t301.size ≤ 9223372036854775807 then rf07_Put.l1 k l ((s ++ (⟨#[44]⟩ : ByteArray)) ++ t301) (i : Int) ((j + 1 : Nat) : Int) else none) (fun k => ?_) (p1.bind (Ev.pos (by omega) h1)), ?_⟩
  · simp only [rf07_Put.l1, c1, c2, hy, c3, c4, c5, c6, hv1, if_true, if_false, ew]
  · rw [h2, bs_append, bs_append, p2, show bs ⟨#[44]⟩ = [44] from rfl]
    simp
theorem put7_l1z (s : ByteArray) (hne : y.f2 ≠ []) (ho : GoodOp y.f1) (hu : s.size + (opL y.f1).length + (putVs (y.f2.map vM)).length + 1 + U.length ≤ 1099511627776) :
 ∃ t, Ev (fun k => rf07_Put.l1 k l s (i : Int) 0) t ∧ bs t = bs s ++ (123 :: (opL y.f1 ++ (putVs (y.f2.map vM) ++ U))) := by
 obtain ⟨v, r, hvr⟩ : ∃ v r, y.f2 = v :: r := by
  cases h : y.f2 with
  | nil => exact absurd h hne
  | cons v r => exact ⟨v, r, rfl⟩
 have hL : y.f2.length = r.length + 1 := by rw [hvr]; rfl
 have hd1 : y.f2.drop 1 = r := by rw [hvr]; rfl
 have hrd : rd_T43 y.f2 0 = v := by rw [hvr]; rfl
 have hvm : v ∈ y.f2 := by rw [hvr]; exact List.mem_cons_self ..
 obtain ⟨p, p1, p2⟩ := put_one (hg v hvm).1 (hg v hvm).2
 have hpl : p.size = (putV (vM v)).length := by rw [← p2, bs_length]
 have hpv : putVs (y.f2.map vM) = putV (vM v) ++ (putTail (r.map vM) ++ [125]) := by rw [hvr]; exact putVs_tail _ _
 rw [hpv] at hu ⊢
 simp only [List.length_append, List.length_cons, List.length_nil] at hu
 have ew : wrap64 ((0 : Int) + 1) = ((1 : Nat) : Int) := by rw [w64 (by omega) (by omega)]; rfl
 have c1 : (0 ≤ (i : Int)) = True := eq_true (by omega)
 have c2 : ((i : Int) < (l.length : Int)) = True := eq_true (by omega)
 have c3 : ((0 : Int) < (y.f2.length : Int)) = True := eq_true (by omega)
 have c5 : (s.size + 1 ≤ 9223372036854775807) = True := eq_true (by omega)
 have c6 : ((0 : Int) ≤ 0) = True := eq_true (by omega)
 have c7 : ((0 : Int) = 0) = True := eq_true rfl
 by_cases h0 : y.f1 = 0
 · have c4 : (y.f1 = 0) = True := eq_true h0
   have hs1 : (s ++ (⟨#[123]⟩ : ByteArray)).size = s.size + 1 := by rw [ByteArray.size_append]; rfl
   obtain ⟨t, h1, h2⟩ := put7_l1 hl hi hy hsp hg hrec r.length 1 ((s ++ ⟨#[123]⟩) ++ p) (by omega) (by omega) (by rw [ByteArray.size_append, hs1, hd1]; omega)
   refine ⟨t, Ev.step (f := fun k => (rf06_Put.f k v.f0 v.f1 v.f2).bind fun t291 => if (s ++ (⟨#[123]⟩ : ByteArray)).size + t291.size ≤ 9223372036854775807 then rf07_Put.l1 k l ((s ++ (⟨#[123]⟩ : ByteArray)) ++ t291) (i : Int) ((1 : Nat) : Int) else none) (fun k => ?_) (p1.bind (Ev.pos (by omega) h1)), ?_⟩
   · simp only [rf07_Put.l1, c1, c2, hy, c3, c4, c5, c6, c7, hrd, if_true, ew]
   · rw [h2, bs_append, bs_append, p2, hd1, show bs ⟨#[123]⟩ = [123] from rfl, opL, if_pos h0]
     simp
 · have c4 : (y.f1 = 0) = False := eq_false h0
   obtain ⟨o1, o2, -⟩ := op_byte ho
   have hso : bs (strOfNums [y.f1]) = opL y.f1 := by
    rw [bs_strOfNums _ (by intro x hx; simp at hx; omega), opL, if_neg h0]
    rfl
   have hsz : (strOfNums [y.f1]).size = 1 := by rw [strOfNums_size]; rfl
   have hs1 : ((⟨#[123]⟩ : ByteArray) ++ strOfNums [y.f1]).size = 2 := by rw [ByteArray.size_append, hsz]; rfl
   have hs2 : (s ++ ((⟨#[123]⟩ : ByteArray) ++ strOfNums [y.f1])).size = s.size + 2 := by rw [ByteArray.size_append, hs1]
   have hol : (opL y.f1).length = 1 := by rw [opL, if_neg h0]; rfl
   have c8 : (1 + (strOfNums [y.f1]).size ≤ 9223372036854775807) = True := eq_true (by omega)
   have c9 : (s.size + ((⟨#[123]⟩ : ByteArray) ++ strOfNums [y.f1]).size ≤ 9223372036854775807) = True := eq_true (by omega)
   obtain ⟨t, h1, h2⟩ := put7_l1 hl hi hy hsp hg hrec r.length 1 ((s ++ ((⟨#[123]⟩ : ByteArray) ++ strOfNums [y.f1])) ++ p) (by omega) (by omega) (by rw [ByteArray.size_append, hs2, hd1]; omega)
   refine ⟨t, Ev.step (f := fun k => (rf06_Put.f k v.f0 v.f1 v.f2).bind fun t298 => if (s ++ ((⟨#[123]⟩ : ByteArray) ++ strOfNums [y.f1])).size + t298.size ≤ 9223372036854775807 then rf07_Put.l1 k l ((s ++ ((⟨#[123]⟩ : ByteArray) ++ strOfNums [y.f1])) ++ t298) (i : Int) ((1 : Nat) : Int) else none) (fun k => ?_) (p1.bind (Ev.pos (by omega) h1)), ?_⟩
   · simp only [rf07_Put.l1, c1, c2, hy, c3, c4, c6, c7, c8, c9, hrd, if_true, if_false, Option.bind_some, ew]
   · rw [h2, bs_append, bs_append, bs_append, p2, hd1, hso, show bs ⟨#[123]⟩ = [123] from rfl]
     simp
end
theorem put7_l1n {l : List S41} {i : Nat} {y : S41} {U : List Nat} (hl : l.length ≤ 1099511627776) (hi : i < l.length) (hy : rd_T41 l (i : Int) = y)
 (hrec : ∀ s : ByteArray, s.size + U.length ≤ 1099511627776 → ∃ t, Ev (fun k => rf07_Put.l0 k l s ((i + 1 : Nat) : Int)) t ∧ bs t = bs s ++ U) (s : ByteArray) (hne : y.f2 = []) (hu : s.size + U.length ≤ 1099511627776) : ∃ t, Ev (fun k => rf07_Put.l1 k l s (i : Int) 0) t ∧ bs t = bs s ++ U := by
 obtain ⟨t, h1, h2⟩ := hrec s hu
 have ew : wrap64 ((i : Int) + 1) = ((i + 1 : Nat) : Int) := by rw [w64 (by omega) (by omega)]; omega
 have c1 : (0 ≤ (i : Int)) = True := eq_true (by omega)
 have c2 : ((i : Int) < (l.length : Int)) = True := eq_true (by omega)
 have hL : y.f2.length = 0 := by rw [hne]; rfl
 have c3 : ((0 : Int) < (y.f2.length : Int)) = False := eq_false (by omega)
 have c4 : ((y.f2.length : Int) > 0) = False := eq_false (by omega)
 refine ⟨t, Ev.step (f := _) (fun k => ?_) h1, h2⟩
 simp only [rf07_Put.l1, c1, c2, hy, c3, c4, if_true, if_false, ew]
theorem put7_l0 (l : List S41) (hl : l.length ≤ 1099511627776) (hb : ∀ x ∈ l, OKP x ∧ GoodP (pM x)) : ∀ (d i : Nat) (s : ByteArray), i + d = l.length → s.size + (putT ((l.drop i).map pM)).length ≤ 1099511627776 →
 ∃ t, Ev (fun k => rf07_Put.l0 k l s (i : Int)) t ∧ bs t = bs s ++ putT ((l.drop i).map pM)
 | 0, i, s, hi, hu => by
  refine ⟨s, Ev.step (f := fun _ => some s) (fun k => by simp only [rf07_Put.l0]; rw [if_neg (by omega)]) (Ev.now _), ?_⟩
  rw [List.drop_eq_nil_of_le (by omega)]
  exact (List.append_nil _).symm
 | d + 1, i, s, hi, hu => by
  obtain ⟨y, hy, hd⟩ := bk41_at l i (by omega)
  have hym : y ∈ l := List.mem_of_mem_drop (i := i) (by rw [hd]; exact List.mem_cons_self ..)
  obtain ⟨⟨k1, k2, k3, k4, k5⟩, hgp⟩ := hb y hym
  rw [hd] at hu ⊢
  have he : putT ((y :: l.drop (i + 1)).map pM) = putP (pM y) ++ putT ((l.drop (i + 1)).map pM) := rfl
  rw [he] at hu ⊢
  rw [List.length_append] at hu
  have hrec : ∀ s' : ByteArray, s'.size + (putT ((l.drop (i + 1)).map pM)).length ≤ 1099511627776 → ∃ t, Ev (fun k => rf07_Put.l0 k l s' ((i + 1 : Nat) : Int)) t ∧ bs t = bs s' ++ putT ((l.drop (i + 1)).map pM) := fun s' h' => put7_l0 l hl hb d (i + 1) s' (by omega) h'
  have hlit : y.f0.size ≤ (putP (pM y)).length := by
   unfold putP
   rw [List.length_append]
   have : (pM y).lit.length = y.f0.size := bs_length _
   omega
  have c1 : ((i : Int) < (l.length : Int)) = True := eq_true (by omega)
  have c2 : (0 ≤ (i : Int)) = True := eq_true (by omega)
  have c3 : (s.size + y.f0.size ≤ 9223372036854775807) = True := eq_true (by omega)
  have st : ∀ {R : ByteArray}, Ev (fun k => rf07_Put.l1 k l (s ++ y.f0) (i : Int) 0) R → Ev (fun k => rf07_Put.l0 k l s (i : Int)) R := fun h => Ev.step (f := _) (fun k => by simp only [rf07_Put.l0, c1, c2, hy, c3, if_true]) h
  by_cases hs : y.f2 = []
  · have hp : putP (pM y) = bs y.f0 := by
     unfold putP
     rw [if_pos (show (pM y).specs = [] by show y.f2.map vM = []; rw [hs]; rfl), List.append_nil]
     rfl
    rw [hp] at hu ⊢
    rw [bs_length] at hu
    obtain ⟨t, h1, h2⟩ := put7_l1n hl (by omega) hy hrec (s ++ y.f0) hs (by rw [ByteArray.size_append]; omega)
    refine ⟨t, st h1, ?_⟩
    rw [h2, bs_append, List.append_assoc]
  · have hsm : (pM y).specs ≠ [] := fun e => hs (List.map_eq_nil_iff.1 e)
    obtain ⟨g1, g2, g3⟩ := hgp.2 hsm
    have hp : putP (pM y) = bs y.f0 ++ (123 :: (opL y.f1 ++ putVs (y.f2.map vM))) := by
     unfold putP
     rw [if_neg hsm]
     rfl
    rw [hp] at hu ⊢
    rw [List.length_append, List.length_cons, List.length_append, bs_length] at hu
    obtain ⟨t, h1, h2⟩ := put7_l1z hl (by omega) hy k4 (fun v hv => ⟨k5 v hv, g3 (vM v) (List.mem_map_of_mem hv)⟩) hrec (s ++ y.f0) hs g2 (by rw [ByteArray.size_append]; omega)
    refine ⟨t, st h1, ?_⟩
    rw [h2, bs_append]
    simp
theorem may_all : ∀ (t : List MPart), MayT t → ∀ x ∈ t, GoodP x
 | [], _, x, hx => by cases hx
 | y :: r, h, x, hx => by
  rcases List.mem_cons.1 hx with rfl | hx
  · exact h.1
  · exact may_all r h.2.2 x hx
theorem ref_put7 (l : List S41) (hb : ∀ x ∈ l, OKP x) (hl : l.length ≤ 1099511627776) (hu : (putT (l.map pM)).length ≤ 1099511627776) (hm : MayT (l.map pM)) : ∃ t, Ev (fun k => rf07_Put.f k l) t ∧ bs t = putT (l.map pM) := by
 obtain ⟨b, h1, h2⟩ := ref_may7 l hb hl
 obtain ⟨t, g1, g2⟩ := put7_l0 l hl (fun x hx => ⟨hb x hx, may_all _ hm _ (List.mem_map_of_mem hx)⟩) l.length 0 ⟨#[]⟩ (by omega) (by rw [List.drop_zero]; show 0 + _ ≤ _; omega)
 exact ⟨t, h1.bind (Ev.pos (h2.2 hm) g1), g2⟩
theorem ref_put7_none (l : List S41) (hb : ∀ x ∈ l, OKP x) (hl : l.length ≤ 1099511627776) (hm : ¬ MayT (l.map pM)) : Ev (fun k => rf07_Put.f k l) (⟨#[]⟩ : ByteArray) := by
 obtain ⟨b, h1, h2⟩ := ref_may7 l hb hl
 exact h1.bind (Ev.neg (fun e => hm (h2.1 e)) (Ev.now _))
theorem ref_many_from (l : List S41) (hl : l.length ≤ 1099511627776) : ∀ (d i n : Nat), i + d = l.length → n + (tNames (l.drop i)).length ≤ 1099511627776 → Ev (fun k => rf07_Many.l0 k l (n : Int) (i : Int)) ((n + (tNames (l.drop i)).length : Nat) : Int)
 | 0, i, n, hi, hn => by
  rw [List.drop_eq_nil_of_le (by omega)]
  exact Ev.step (f := fun _ => some (n : Int)) (fun k => by simp only [rf07_Many.l0]; rw [if_neg (by omega)]) (Ev.now _)
 | d + 1, i, n, hi, hn => by
  obtain ⟨y, hy, hd⟩ := bk41_at l i (by omega)
  rw [hd] at hn ⊢
  have e : (tNames (y :: l.drop (i + 1))).length = y.f2.length + (tNames (l.drop (i + 1))).length := by
   show (vNames y.f2 ++ tNames (l.drop (i + 1))).length = _
   rw [List.length_append]
   congr 1
   exact List.length_map ..
  rw [e] at hn ⊢
  have ih := ref_many_from l hl d (i + 1) (n + y.f2.length) (by omega) (by omega)
  have ew : wrap64 ((i : Int) + 1) = ((i + 1 : Nat) : Int) := by rw [w64 (by omega) (by omega)]; omega
  have ew2 : wrap64 ((n : Int) + (y.f2.length : Int)) = ((n + y.f2.length : Nat) : Int) := by rw [w64 (by omega) (by omega)]; omega
  have c1 : ((i : Int) < (l.length : Int)) = True := eq_true (by omega)
  have c2 : (0 ≤ (i : Int)) = True := eq_true (by omega)
  rw [← Nat.add_assoc]
  refine Ev.step (f := _) (fun k => ?_) ih
  simp only [rf07_Many.l0, c1, c2, hy, ew, ew2, if_true]
theorem ref_many (l : List S41) (hl : l.length ≤ 1099511627776) (hn : (tNames l).length ≤ 1099511627776) : Ev (fun k => rf07_Many.f k l) (((tNames l).length : Nat) : Int) := by
 have := ref_many_from l hl l.length 0 0 (by omega) (by rw [List.drop_zero]; omega)
 rw [List.drop_zero, Nat.zero_add] at this
 exact this
theorem stopFrom_mono (k : Nat) (r : ByteArray) : ∀ (d : Nat) (n : Int), LeO (stopFrom k r d n) (stopFrom (k + 1) r d n)
 | 0, n => LeO.none _
 | d + 1, n => by
  unfold stopFrom
  refine LeO.ite (LeO.bind (ucs_Fits.mono _ _) (fun b => ?_)) (LeO.refl _)
  exact LeO.ite (stopFrom_mono k r d (n + 1)) (LeO.refl _)
theorem reader_stop_mono (k : Nat) (s : ByteArray) (a : Int) : LeO (reader_stop.f k s a) (reader_stop.f (k + 1) s a) := by
 unfold reader_stop.f stopOf
 exact LeO.map _ (LeO.ite (LeO.refl _) (stopFrom_mono k _ _ _))
theorem reader_part_mono (k : Nat) (s : ByteArray) (a : Int) : LeO (reader_part.f k s a) (reader_part.f (k + 1) s a) := by
 unfold reader_part.f
 refine LeO.ite (LeO.refl _) (LeO.bind (tmpl_pieces.mono _ _) (fun n => ?_))
 exact LeO.ite (LeO.map _ (reader_stop_mono k s a)) (LeO.refl _)
theorem parseFrom_mono (k : Nat) (s : ByteArray) : ∀ (d : Nat) (a : Int) (L : List S41), LeO (parseFrom k s d a L) (parseFrom (k + 1) s d a L)
 | 0, a, L => LeO.none _
 | d + 1, a, L => by
  unfold parseFrom
  refine LeO.ite (LeO.bind (reader_part_mono k s a) (fun t => ?_)) (LeO.refl _)
  exact LeO.ite (LeO.ite (parseFrom_mono k s d _ _) (LeO.refl _)) (LeO.refl _)
theorem tmpl_Parse.mono : ∀ a0 k, LeO (tmpl_Parse.f k a0) (tmpl_Parse.f (k + 1) a0) := by
 intro a0 k
 unfold tmpl_Parse.f
 exact LeO.ite (parseFrom_mono k a0 _ _ _) (LeO.refl _)
end Go.Proofs.YtkipkbggnfllkaaGreatDoor.P
end
section
namespace Go.Proofs.YtkipkbggnfllkaaGreatDoor.P
open Go.RowKit Go.Proofs.YtkipkbggnfllkaaGreatDoorW.PrintWords Go.Proofs.YtkipkbggnfllkaaGreatDoorW.PrintLast Go.Proofs.YtkipkbggnfllkaaGreatDoorW.PrintMore
attribute [local go_sem] max2_int min2_int max_two min_two max_three min_three max_four min_four
set_option linter.unusedVariables false
set_option linter.unusedSimpArgs false
attribute [local go_sem high] eqA43
def lw_awake.f (k : Nat)  : Option (Bool) := (tmpl_Parse.f k (⟨#[120, 123, 63, 97, 44, 98, 42, 125]⟩ : ByteArray)).bind fun bt101 => ((tmpl_Parse.f k (⟨#[120, 123, 33, 97, 125]⟩ : ByteArray)).bind fun bt106 => (if bt101.2.2 = 0 then (if bt101.2.1 = 8 then (if (bt101.1.length : Int) = 2 then (if 0 < (bt101.1.length : Int) then (if ((rd_T41 bt101.1 0).f0).toList = ([120] : List UInt8) then (if 1 < (bt101.1.length : Int) then (if ((rd_T41 bt101.1 1).f1) = 63 then (if (((rd_T41 bt101.1 1).f2).length : Int) = 2 then (if 1 < (((rd_T41 bt101.1 1).f2).length : Int) then (if ((((rd_T43 ((rd_T41 bt101.1 1).f2) 1).f0).toList) == ([98] : List UInt8) && (((rd_T43 ((rd_T41 bt101.1 1).f2) 1).f1) == 0 && (((rd_T43 ((rd_T41 bt101.1 1).f2) 1).f2)))) = true then (if bt106.2.2 = 2 then (some (bt106.2.1 == 2)) else (some false)) else (some false)) else (none)) else (some false)) else (some false)) else (none)) else (some false)) else (none)) else (some false)) else (some false)) else (some false)))
theorem lw_awake.mono : ∀ k, LeO (lw_awake.f k ) (lw_awake.f (k + 1) ) := by
 intro  k
 unfold lw_awake.f
 repeat' first
  | (with_reducible exact tmpl_Parse.mono _ _)
  | (with_reducible exact LeO.refl _)
  | (with_reducible exact LeO.none _)
  | (with_reducible refine LeO.ite ?_ ?_)
  | (with_reducible refine LeO.bind ?_ (fun _ => ?_))
  | exact tmpl_Parse.mono _ _
  | exact LeO.none _
  | refine LeO.ite ?_ ?_
  | refine LeO.bind ?_ (fun _ => ?_)
set_option maxHeartbeats 8000000 in
set_option maxRecDepth 100000 in
theorem lw_awake.calls (k : Nat)  (r : Bool) (w : World) (hG : Gl w) (h : lw_awake.f k  = some r) :
 Calls Tryz.prog 5 #[] w fun e w' => e = .returned (.bool r) ∧ Below w.heap.size w w' := by
 have hu43 := Tryz.underlying43
 have HB := Aside0.mk (Below.refl w.heap.size w)
 have H : ((tmpl_Parse.f k (⟨#[120, 123, 63, 97, 44, 98, 42, 125]⟩ : ByteArray)).bind fun bt101 => ((tmpl_Parse.f k (⟨#[120, 123, 33, 97, 125]⟩ : ByteArray)).bind fun bt106 => (if bt101.2.2 = 0 then (if bt101.2.1 = 8 then (if (bt101.1.length : Int) = 2 then (if 0 < (bt101.1.length : Int) then (if ((rd_T41 bt101.1 0).f0).toList = ([120] : List UInt8) then (if 1 < (bt101.1.length : Int) then (if ((rd_T41 bt101.1 1).f1) = 63 then (if (((rd_T41 bt101.1 1).f2).length : Int) = 2 then (if 1 < (((rd_T41 bt101.1 1).f2).length : Int) then (if ((((rd_T43 ((rd_T41 bt101.1 1).f2) 1).f0).toList) == ([98] : List UInt8) && (((rd_T43 ((rd_T41 bt101.1 1).f2) 1).f1) == 0 && (((rd_T43 ((rd_T41 bt101.1 1).f2) 1).f2)))) = true then (if bt106.2.2 = 2 then (some (bt106.2.1 == 2)) else (some false)) else (some false)) else (none)) else (some false)) else (some false)) else (none)) else (some false)) else (none)) else (some false)) else (some false)) else (some false)))) = some r := h
 clear h
 replace H := Option.bind_eq_some_iff.mp H
 obtain ⟨⟨t101, t102, t103⟩, A10, H⟩ := H
 replace H : ((tmpl_Parse.f k (⟨#[120, 123, 33, 97, 125]⟩ : ByteArray)).bind fun bt106 => (if t103 = 0 then (if t102 = 8 then (if (t101.length : Int) = 2 then (if 0 < (t101.length : Int) then (if ((rd_T41 t101 0).f0).toList = ([120] : List UInt8) then (if 1 < (t101.length : Int) then (if ((rd_T41 t101 1).f1) = 63 then (if (((rd_T41 t101 1).f2).length : Int) = 2 then (if 1 < (((rd_T41 t101 1).f2).length : Int) then (if ((((rd_T43 ((rd_T41 t101 1).f2) 1).f0).toList) == ([98] : List UInt8) && (((rd_T43 ((rd_T41 t101 1).f2) 1).f1) == 0 && (((rd_T43 ((rd_T41 t101 1).f2) 1).f2)))) = true then (if bt106.2.2 = 2 then (some (bt106.2.1 == 2)) else (some false)) else (some false)) else (none)) else (some false)) else (some false)) else (none)) else (some false)) else (none)) else (some false)) else (some false)) else (some false))) = some r := H
 have A1 := Aside0.mk A10
 clear A10
 replace H := Option.bind_eq_some_iff.mp H
 obtain ⟨⟨t106, t107, t108⟩, A20, H⟩ := H
 replace H : (if t103 = 0 then (if t102 = 8 then (if (t101.length : Int) = 2 then (if 0 < (t101.length : Int) then (if ((rd_T41 t101 0).f0).toList = ([120] : List UInt8) then (if 1 < (t101.length : Int) then (if ((rd_T41 t101 1).f1) = 63 then (if (((rd_T41 t101 1).f2).length : Int) = 2 then (if 1 < (((rd_T41 t101 1).f2).length : Int) then (if ((((rd_T43 ((rd_T41 t101 1).f2) 1).f0).toList) == ([98] : List UInt8) && (((rd_T43 ((rd_T41 t101 1).f2) 1).f1) == 0 && (((rd_T43 ((rd_T41 t101 1).f2) 1).f2)))) = true then (if t108 = 2 then (some (t107 == 2)) else (some false)) else (some false)) else (none)) else (some false)) else (some false)) else (none)) else (some false)) else (none)) else (some false)) else (some false)) else (some false)) = some r := H
 have A2 := Aside0.mk A20
 clear A20
 by_cases c3 : t103 = 0
 · rw [if_pos c3] at H
   have c3b0 : (t103 == 0) = true := beq_iff_eq.mpr c3
   have c3b1 : (t103 != 0) = false := bne_eq_false_iff_eq.mpr c3
   clear c3
   by_cases c4 : t102 = 8
   · rw [if_pos c4] at H
     have c4b0 : (t102 == 8) = true := beq_iff_eq.mpr c4
     have c4b1 : (t102 != 8) = false := bne_eq_false_iff_eq.mpr c4
     clear c4
     by_cases c5 : (t101.length : Int) = 2
     · rw [if_pos c5] at H
       have c5b0 : ((t101.length : Int) == 2) = true := beq_iff_eq.mpr c5
       have c5b1 : ((t101.length : Int) != 2) = false := bne_eq_false_iff_eq.mpr c5
       clear c5
       by_cases c6 : 0 < (t101.length : Int)
       · rw [if_pos c6] at H
         have c6b0 : decide (0 < (t101.length : Int)) = true := decide_eq_true c6
         have c6b1 : decide (0 < t101.length) = true := decide_eq_true (by omega)
         clear c6
         by_cases c7 : ((rd_T41 t101 0).f0).toList = ([120] : List UInt8)
         · rw [if_pos c7] at H
           have c7b0 : (((rd_T41 t101 0).f0).toList == ([120] : List UInt8)) = true := beq_iff_eq.mpr c7
           have c7b1 : (((rd_T41 t101 0).f0).toList != ([120] : List UInt8)) = false := bne_eq_false_iff_eq.mpr c7
           clear c7
           by_cases c8 : 1 < (t101.length : Int)
           · rw [if_pos c8] at H
             have c8b0 : decide (1 < (t101.length : Int)) = true := decide_eq_true c8
             have c8b1 : decide (1 < t101.length) = true := decide_eq_true (by omega)
             clear c8
             by_cases c9 : ((rd_T41 t101 1).f1) = 63
             · rw [if_pos c9] at H
               have c9b0 : (((rd_T41 t101 1).f1) == 63) = true := beq_iff_eq.mpr c9
               have c9b1 : (((rd_T41 t101 1).f1) != 63) = false := bne_eq_false_iff_eq.mpr c9
               clear c9
               by_cases c10 : (((rd_T41 t101 1).f2).length : Int) = 2
               · rw [if_pos c10] at H
                 have c10b0 : ((((rd_T41 t101 1).f2).length : Int) == 2) = true := beq_iff_eq.mpr c10
                 have c10b1 : ((((rd_T41 t101 1).f2).length : Int) != 2) = false := bne_eq_false_iff_eq.mpr c10
                 clear c10
                 by_cases c11 : 1 < (((rd_T41 t101 1).f2).length : Int)
                 · rw [if_pos c11] at H
                   have c11b0 : decide (1 < (((rd_T41 t101 1).f2).length : Int)) = true := decide_eq_true c11
                   have c11b1 : decide (1 < ((rd_T41 t101 1).f2).length) = true := decide_eq_true (by omega)
                   clear c11
                   by_cases c12 : ((((rd_T43 ((rd_T41 t101 1).f2) 1).f0).toList) == ([98] : List UInt8) && (((rd_T43 ((rd_T41 t101 1).f2) 1).f1) == 0 && (((rd_T43 ((rd_T41 t101 1).f2) 1).f2)))) = true
                   · rw [if_pos c12] at H
                     have c12b0 : ((((rd_T43 ((rd_T41 t101 1).f2) 1).f0).toList) == ([98] : List UInt8) && (((rd_T43 ((rd_T41 t101 1).f2) 1).f1) == 0 && (((rd_T43 ((rd_T41 t101 1).f2) 1).f2)))) = true := c12
                     (try (have c12b1 : decide ((((rd_T43 ((rd_T41 t101 1).f2) 1).f0).toList) = ([98] : List UInt8) && (((rd_T43 ((rd_T41 t101 1).f2) 1).f1) == 0 && (((rd_T43 ((rd_T41 t101 1).f2) 1).f2)))) = true := by simpa using c12))
                     (try (have c12b2 : ((((rd_T43 ((rd_T41 t101 1).f2) 1).f0).toList) == ([98] : List UInt8) && (((rd_T43 ((rd_T41 t101 1).f2) 1).f1) == 0 && (((rd_T43 ((rd_T41 t101 1).f2) 1).f2)))) = true := by simpa using c12))
                     clear c12
                     by_cases c13 : t108 = 2
                     · rw [if_pos c13] at H
                       have c13b0 : (t108 == 2) = true := beq_iff_eq.mpr c13
                       have c13b1 : (t108 != 2) = false := bne_eq_false_iff_eq.mpr c13
                       clear c13
                       obtain rfl := Option.some.inj H
                       go_enter Tryz.func5, Tryz.ntmps5
                       go_wp2_with (first | ((with_reducible refine gate_callee (f := 6) rfl ?_); refine goesL_ (some 8) rfl rfl Tryz.func6 (by kernel_rfl) rfl #[.string (⟨#[120, 123, 63, 97, 44, 98, 42, 125]⟩ : ByteArray)] rfl (by (try simp only [List.map_toArray, List.map_cons, List.map_nil]); first | done | rfl | (simp only [List.length_drop, List.length_take]; rfl)) ?_; (with_reducible refine (tmpl_Parse.calls k (⟨#[120, 123, 63, 97, 44, 98, 42, 125]⟩ : ByteArray) t101 t102 t103 _ (hG.keepAt (Nat.le_refl _) (by repeat (first | (with_reducible first | exact HB.out | apply below_alloc | apply pw_below_drewN | apply below_drew1) | exact HB.out))) A1.out).mono ?_); rintro e w14 ⟨v104, rfl, ho0, hb⟩; refine ⟨_, rfl, ?_⟩; have n0_ := Aside0.mk (Kd.S_lower ho0 (below_size (by repeat (first | (with_reducible first | exact HB.out | apply below_alloc | apply pw_below_drewN | apply below_drew1) | exact HB.out)))); have n1_ := Aside0.mk (below_step (by repeat (first | (with_reducible first | exact HB.out | apply below_alloc | apply pw_below_drewN | apply below_drew1) | exact HB.out)) hb); clear HB; have HO105 := n0_; have HB := n1_; clear n0_ n1_; (try clear hb); (try clear hb2); (try clear hk); (try clear hi); (try clear ho0)) | ((with_reducible refine gate_callee (f := 6) rfl ?_); refine goesL_ (some 13) rfl rfl Tryz.func6 (by kernel_rfl) rfl #[.string (⟨#[120, 123, 33, 97, 125]⟩ : ByteArray)] rfl (by (try simp only [List.map_toArray, List.map_cons, List.map_nil]); first | done | rfl | (simp only [List.length_drop, List.length_take]; rfl)) ?_; (with_reducible refine (tmpl_Parse.calls k (⟨#[120, 123, 33, 97, 125]⟩ : ByteArray) t106 t107 t108 _ (hG.keepAt (Nat.le_refl _) (by repeat (first | (with_reducible first | exact HB.out | apply below_alloc | apply pw_below_drewN | apply below_drew1) | exact HB.out))) A2.out).mono ?_); rintro e w15 ⟨v109, rfl, ho0, hb⟩; refine ⟨_, rfl, ?_⟩; have n0_ := Aside0.mk (Kd.S_elder' (by (with_reducible repeat (first | apply Kd.S_alloc | apply Kd.S_drewN | apply Kd.S_drew)); exact HO105.out) (Kd.S_base ho0) hb); have n1_ := Aside0.mk (Kd.S_lower (Kd.S_new' ho0 (Kd.S_lt (by (with_reducible repeat (first | apply Kd.S_alloc | apply Kd.S_drewN | apply Kd.S_drew)); exact HO105.out))) (below_size (by repeat (first | (with_reducible first | exact HB.out | apply below_alloc | apply pw_below_drewN | apply below_drew1) | exact HB.out)))); have n2_ := Aside0.mk (below_step (by repeat (first | (with_reducible first | exact HB.out | apply below_alloc | apply pw_below_drewN | apply below_drew1) | exact HB.out)) hb); clear HO105; clear HB; have HO105 := n0_; have HO110 := n1_; have HB := n2_; clear n0_ n1_ n2_; (try clear hb); (try clear hb2); (try clear hk); (try clear hi); (try clear ho0); obtain ⟨Ao16, co16, eo16⟩ := Kd.S_slice HO105.out; subst eo16; have p111 : 0 ≤ (0 : Int) := (by omega); have q111 : 0 < (t101.length : Int) := of_decide_eq_true (by first | (with_reducible assumption) | assumption); obtain ⟨ad111, A111_2, c111_2, e111, hx111_0, hx111_1, hx111_2, hl111_2, hi111_2⟩ := at_T41 (Kd.S_reads' HO105.out).2.2 0 p111 q111; cases e111; obtain ⟨ce111, hce111, hMe111, hcc111⟩ := Kd.S_get HO105.out z41 0 p111 (by first | exact q111 | exact of_decide_eq_true (by first | (with_reducible assumption) | assumption) | (have e_ := (Kd.S_reads' HO105.out).1; omega)); obtain ⟨ve111_2, rfl, ge111_2⟩ := k41_openM hMe111; have hv111_2 := hcc111 2 _ rfl; rw [add_field _ _ 2 (by omega)] at hv111_2; replace hv111_2 := Option.some.inj (hv111_2.symm.trans hx111_2); rw [hv111_2] at ge111_2; have HL111_2 := Aside0.mk (show Kd.R k43 43 _ _ _ _ ((rd_T41 t101 0).f2) from ge111_2); clear hv111_2 ge111_2; clear hcc111 hce111; have qi111 : (0 < t101.length) = True := eq_true (by omega); (try rw [show ((0 : Int)).toNat = 0 from rfl] at hx111_0); (try rw [show 0 * 3 = 0 from rfl] at hx111_0); (try rw [Addr.add_zero'] at hx111_0); (try rw [show ((0 : Int)).toNat = 0 from rfl] at hx111_1); (try rw [show 0 * 3 = 0 from rfl] at hx111_1); (try rw [Addr.add_zero'] at hx111_1); (try rw [show ((0 : Int)).toNat = 0 from rfl] at hx111_2); (try rw [show 0 * 3 = 0 from rfl] at hx111_2); (try rw [Addr.add_zero'] at hx111_2); have HR111_2 := Aside0.mk hi111_2; have HC111_2 := Aside0.mk hl111_2; clear hi111_2 hl111_2; replace p111 := eq_true p111; replace q111 := eq_true q111; have p112 : 0 ≤ (1 : Int) := (by omega); have q112 : 1 < (t101.length : Int) := of_decide_eq_true (by first | (with_reducible assumption) | assumption); obtain ⟨ad112, A112_2, c112_2, e112, hx112_0, hx112_1, hx112_2, hl112_2, hi112_2⟩ := at_T41 (Kd.S_reads' HO105.out).2.2 1 p112 q112; obtain rfl : ad111 = ad112 := (by injection e112); obtain ⟨ce112, hce112, hMe112, hcc112⟩ := Kd.S_get HO105.out z41 1 p112 (by first | exact q112 | exact of_decide_eq_true (by first | (with_reducible assumption) | assumption) | (have e_ := (Kd.S_reads' HO105.out).1; omega)); obtain ⟨ve112_2, rfl, ge112_2⟩ := k41_openM hMe112; have hv112_2 := hcc112 2 _ rfl; rw [add_field _ _ 2 (by omega)] at hv112_2; replace hv112_2 := Option.some.inj (hv112_2.symm.trans hx112_2); rw [hv112_2] at ge112_2; have HL112_2 := Aside0.mk (show Kd.R k43 43 _ _ _ _ ((rd_T41 t101 1).f2) from ge112_2); clear hv112_2 ge112_2; clear hcc112 hce112; (try simp only [show (1 : Int).toNat = 1 from rfl, Nat.reduceMul, Nat.reduceEqDiff, Go.Addr.add, ↓reduceIte] at hx112_0); (try simp only [show (1 : Int).toNat = 1 from rfl, Nat.reduceMul, Nat.reduceEqDiff, Go.Addr.add, ↓reduceIte] at hx112_1); (try simp only [show (1 : Int).toNat = 1 from rfl, Nat.reduceMul, Nat.reduceEqDiff, Go.Addr.add, ↓reduceIte] at hx112_2); have qi112 : (1 < t101.length) = True := eq_true (by omega); (try rw [show ((1 : Int)).toNat = 1 from rfl] at hx112_0); (try rw [show 1 * 3 = 3 from rfl] at hx112_0); (try rw [show ((1 : Int)).toNat = 1 from rfl] at hx112_1); (try rw [show 1 * 3 = 3 from rfl] at hx112_1); (try rw [show ((1 : Int)).toNat = 1 from rfl] at hx112_2); (try rw [show 1 * 3 = 3 from rfl] at hx112_2); have HR112_2 := Aside0.mk hi112_2; have HC112_2 := Aside0.mk hl112_2; clear hi112_2 hl112_2; replace p112 := eq_true p112; replace q112 := eq_true q112; have p113 : 0 ≤ (1 : Int) := (by omega); have q113 : 1 < (t101.length : Int) := of_decide_eq_true (by first | (with_reducible assumption) | assumption); obtain ⟨ad113, A113_2, c113_2, e113, hx113_0, hx113_1, hx113_2, hl113_2, hi113_2⟩ := at_T41 (Kd.S_reads' HO105.out).2.2 1 p113 q113; obtain rfl : ad111 = ad113 := (by injection e113); obtain ⟨ce113, hce113, hMe113, hcc113⟩ := Kd.S_get HO105.out z41 1 p113 (by first | exact q113 | exact of_decide_eq_true (by first | (with_reducible assumption) | assumption) | (have e_ := (Kd.S_reads' HO105.out).1; omega)); obtain ⟨ve113_2, rfl, ge113_2⟩ := k41_openM hMe113; have hv113_2 := hcc113 2 _ rfl; rw [add_field _ _ 2 (by omega)] at hv113_2; replace hv113_2 := Option.some.inj (hv113_2.symm.trans hx113_2); rw [hv113_2] at ge113_2; have HL113_2 := Aside0.mk (show Kd.R k43 43 _ _ _ _ ((rd_T41 t101 1).f2) from ge113_2); clear hv113_2 ge113_2; clear hcc113 hce113; (try simp only [show (1 : Int).toNat = 1 from rfl, Nat.reduceMul, Nat.reduceEqDiff, Go.Addr.add, ↓reduceIte] at hx113_0); (try simp only [show (1 : Int).toNat = 1 from rfl, Nat.reduceMul, Nat.reduceEqDiff, Go.Addr.add, ↓reduceIte] at hx113_1); (try simp only [show (1 : Int).toNat = 1 from rfl, Nat.reduceMul, Nat.reduceEqDiff, Go.Addr.add, ↓reduceIte] at hx113_2); have qi113 : (1 < t101.length) = True := eq_true (by omega); (try rw [show ((1 : Int)).toNat = 1 from rfl] at hx113_0); (try rw [show 1 * 3 = 3 from rfl] at hx113_0); (try rw [show ((1 : Int)).toNat = 1 from rfl] at hx113_1); (try rw [show 1 * 3 = 3 from rfl] at hx113_1); (try rw [show ((1 : Int)).toNat = 1 from rfl] at hx113_2); (try rw [show 1 * 3 = 3 from rfl] at hx113_2); have HR113_2 := Aside0.mk hi113_2; have HC113_2 := Aside0.mk hl113_2; clear hi113_2 hl113_2; replace p113 := eq_true p113; replace q113 := eq_true q113; have ea_ := Option.some.inj (hx112_2.symm.trans hx113_2); injection ea_ with ea_ en_ ec_; subst ea_; subst ec_; clear en_; have p114 : 0 ≤ (1 : Int) := (by omega); have q114 : 1 < (t101.length : Int) := of_decide_eq_true (by first | (with_reducible assumption) | assumption); obtain ⟨ad114, A114_2, c114_2, e114, hx114_0, hx114_1, hx114_2, hl114_2, hi114_2⟩ := at_T41 (Kd.S_reads' HO105.out).2.2 1 p114 q114; obtain rfl : ad111 = ad114 := (by injection e114); obtain ⟨ce114, hce114, hMe114, hcc114⟩ := Kd.S_get HO105.out z41 1 p114 (by first | exact q114 | exact of_decide_eq_true (by first | (with_reducible assumption) | assumption) | (have e_ := (Kd.S_reads' HO105.out).1; omega)); obtain ⟨ve114_2, rfl, ge114_2⟩ := k41_openM hMe114; have hv114_2 := hcc114 2 _ rfl; rw [add_field _ _ 2 (by omega)] at hv114_2; replace hv114_2 := Option.some.inj (hv114_2.symm.trans hx114_2); rw [hv114_2] at ge114_2; have HL114_2 := Aside0.mk (show Kd.R k43 43 _ _ _ _ ((rd_T41 t101 1).f2) from ge114_2); clear hv114_2 ge114_2; clear hcc114 hce114; (try simp only [show (1 : Int).toNat = 1 from rfl, Nat.reduceMul, Nat.reduceEqDiff, Go.Addr.add, ↓reduceIte] at hx114_0); (try simp only [show (1 : Int).toNat = 1 from rfl, Nat.reduceMul, Nat.reduceEqDiff, Go.Addr.add, ↓reduceIte] at hx114_1); (try simp only [show (1 : Int).toNat = 1 from rfl, Nat.reduceMul, Nat.reduceEqDiff, Go.Addr.add, ↓reduceIte] at hx114_2); have qi114 : (1 < t101.length) = True := eq_true (by omega); (try rw [show ((1 : Int)).toNat = 1 from rfl] at hx114_0); (try rw [show 1 * 3 = 3 from rfl] at hx114_0); (try rw [show ((1 : Int)).toNat = 1 from rfl] at hx114_1); (try rw [show 1 * 3 = 3 from rfl] at hx114_1); (try rw [show ((1 : Int)).toNat = 1 from rfl] at hx114_2); (try rw [show 1 * 3 = 3 from rfl] at hx114_2); have HR114_2 := Aside0.mk hi114_2; have HC114_2 := Aside0.mk hl114_2; clear hi114_2 hl114_2; replace p114 := eq_true p114; replace q114 := eq_true q114; have ea_ := Option.some.inj (hx112_2.symm.trans hx114_2); injection ea_ with ea_ en_ ec_; subst ea_; subst ec_; clear en_; have p115 : 0 ≤ (1 : Int) := (by omega); have q115 : 1 < (((rd_T41 t101 1).f2).length : Int) := of_decide_eq_true (by first | (with_reducible assumption) | assumption); obtain ⟨ad115, e115, hx115_0, hx115_1, hx115_2⟩ := at_T43 (by repeat (first | (with_reducible exact HR114_2.out) | (with_reducible refine Kd.C_alloc ?_ _) | (with_reducible refine Kd.C_drewN ?_ _) | (with_reducible refine Kd.C_drew ?_) | exact HR114_2.out)) 1 p115 q115; cases e115; (try simp only [show (1 : Int).toNat = 1 from rfl, Nat.reduceMul, Nat.reduceEqDiff, Go.Addr.add, ↓reduceIte] at hx115_0); (try simp only [show (1 : Int).toNat = 1 from rfl, Nat.reduceMul, Nat.reduceEqDiff, Go.Addr.add, ↓reduceIte] at hx115_1); (try simp only [show (1 : Int).toNat = 1 from rfl, Nat.reduceMul, Nat.reduceEqDiff, Go.Addr.add, ↓reduceIte] at hx115_2); have qi115 : (1 < ((rd_T41 t101 1).f2).length) = True := eq_true (by omega); (try rw [show ((1 : Int)).toNat = 1 from rfl] at hx115_0); (try rw [show 1 * 3 = 3 from rfl] at hx115_0); (try rw [show ((1 : Int)).toNat = 1 from rfl] at hx115_1); (try rw [show 1 * 3 = 3 from rfl] at hx115_1); (try rw [show ((1 : Int)).toNat = 1 from rfl] at hx115_2); (try rw [show 1 * 3 = 3 from rfl] at hx115_2); replace p115 := eq_true p115; replace q115 := eq_true q115))
                       go_ret
                       exact ⟨by first | rfl | (simp [errW_none, errW_some] <;> rfl) | (simp [*, errW_none, errW_some] <;> rfl), by repeat (first | (with_reducible first | exact HB.out | apply below_alloc | apply pw_below_drewN | apply below_drew1) | exact HB.out)⟩
                     · rw [if_neg c13] at H
                       have c13b0 : (t108 == 2) = false := beq_eq_false_iff_ne.mpr c13
                       have c13b1 : (t108 != 2) = true := bne_iff_ne.mpr c13
                       obtain rfl := Option.some.inj H
                       go_enter Tryz.func5, Tryz.ntmps5
                       go_wp2_with (first | ((with_reducible refine gate_callee (f := 6) rfl ?_); refine goesL_ (some 8) rfl rfl Tryz.func6 (by kernel_rfl) rfl #[.string (⟨#[120, 123, 63, 97, 44, 98, 42, 125]⟩ : ByteArray)] rfl (by (try simp only [List.map_toArray, List.map_cons, List.map_nil]); first | done | rfl | (simp only [List.length_drop, List.length_take]; rfl)) ?_; (with_reducible refine (tmpl_Parse.calls k (⟨#[120, 123, 63, 97, 44, 98, 42, 125]⟩ : ByteArray) t101 t102 t103 _ (hG.keepAt (Nat.le_refl _) (by repeat (first | (with_reducible first | exact HB.out | apply below_alloc | apply pw_below_drewN | apply below_drew1) | exact HB.out))) A1.out).mono ?_); rintro e w17 ⟨v104, rfl, ho0, hb⟩; refine ⟨_, rfl, ?_⟩; have n0_ := Aside0.mk (Kd.S_lower ho0 (below_size (by repeat (first | (with_reducible first | exact HB.out | apply below_alloc | apply pw_below_drewN | apply below_drew1) | exact HB.out)))); have n1_ := Aside0.mk (below_step (by repeat (first | (with_reducible first | exact HB.out | apply below_alloc | apply pw_below_drewN | apply below_drew1) | exact HB.out)) hb); clear HB; have HO105 := n0_; have HB := n1_; clear n0_ n1_; (try clear hb); (try clear hb2); (try clear hk); (try clear hi); (try clear ho0)) | ((with_reducible refine gate_callee (f := 6) rfl ?_); refine goesL_ (some 13) rfl rfl Tryz.func6 (by kernel_rfl) rfl #[.string (⟨#[120, 123, 33, 97, 125]⟩ : ByteArray)] rfl (by (try simp only [List.map_toArray, List.map_cons, List.map_nil]); first | done | rfl | (simp only [List.length_drop, List.length_take]; rfl)) ?_; (with_reducible refine (tmpl_Parse.calls k (⟨#[120, 123, 33, 97, 125]⟩ : ByteArray) t106 t107 t108 _ (hG.keepAt (Nat.le_refl _) (by repeat (first | (with_reducible first | exact HB.out | apply below_alloc | apply pw_below_drewN | apply below_drew1) | exact HB.out))) A2.out).mono ?_); rintro e w18 ⟨v109, rfl, ho0, hb⟩; refine ⟨_, rfl, ?_⟩; have n0_ := Aside0.mk (Kd.S_elder' (by (with_reducible repeat (first | apply Kd.S_alloc | apply Kd.S_drewN | apply Kd.S_drew)); exact HO105.out) (Kd.S_base ho0) hb); have n1_ := Aside0.mk (Kd.S_lower (Kd.S_new' ho0 (Kd.S_lt (by (with_reducible repeat (first | apply Kd.S_alloc | apply Kd.S_drewN | apply Kd.S_drew)); exact HO105.out))) (below_size (by repeat (first | (with_reducible first | exact HB.out | apply below_alloc | apply pw_below_drewN | apply below_drew1) | exact HB.out)))); have n2_ := Aside0.mk (below_step (by repeat (first | (with_reducible first | exact HB.out | apply below_alloc | apply pw_below_drewN | apply below_drew1) | exact HB.out)) hb); clear HO105; clear HB; have HO105 := n0_; have HO110 := n1_; have HB := n2_; clear n0_ n1_ n2_; (try clear hb); (try clear hb2); (try clear hk); (try clear hi); (try clear ho0); obtain ⟨Ao19, co19, eo19⟩ := Kd.S_slice HO105.out; subst eo19; have p111 : 0 ≤ (0 : Int) := (by omega); have q111 : 0 < (t101.length : Int) := of_decide_eq_true (by first | (with_reducible assumption) | assumption); obtain ⟨ad111, A111_2, c111_2, e111, hx111_0, hx111_1, hx111_2, hl111_2, hi111_2⟩ := at_T41 (Kd.S_reads' HO105.out).2.2 0 p111 q111; cases e111; obtain ⟨ce111, hce111, hMe111, hcc111⟩ := Kd.S_get HO105.out z41 0 p111 (by first | exact q111 | exact of_decide_eq_true (by first | (with_reducible assumption) | assumption) | (have e_ := (Kd.S_reads' HO105.out).1; omega)); obtain ⟨ve111_2, rfl, ge111_2⟩ := k41_openM hMe111; have hv111_2 := hcc111 2 _ rfl; rw [add_field _ _ 2 (by omega)] at hv111_2; replace hv111_2 := Option.some.inj (hv111_2.symm.trans hx111_2); rw [hv111_2] at ge111_2; have HL111_2 := Aside0.mk (show Kd.R k43 43 _ _ _ _ ((rd_T41 t101 0).f2) from ge111_2); clear hv111_2 ge111_2; clear hcc111 hce111; have qi111 : (0 < t101.length) = True := eq_true (by omega); (try rw [show ((0 : Int)).toNat = 0 from rfl] at hx111_0); (try rw [show 0 * 3 = 0 from rfl] at hx111_0); (try rw [Addr.add_zero'] at hx111_0); (try rw [show ((0 : Int)).toNat = 0 from rfl] at hx111_1); (try rw [show 0 * 3 = 0 from rfl] at hx111_1); (try rw [Addr.add_zero'] at hx111_1); (try rw [show ((0 : Int)).toNat = 0 from rfl] at hx111_2); (try rw [show 0 * 3 = 0 from rfl] at hx111_2); (try rw [Addr.add_zero'] at hx111_2); have HR111_2 := Aside0.mk hi111_2; have HC111_2 := Aside0.mk hl111_2; clear hi111_2 hl111_2; replace p111 := eq_true p111; replace q111 := eq_true q111; have p112 : 0 ≤ (1 : Int) := (by omega); have q112 : 1 < (t101.length : Int) := of_decide_eq_true (by first | (with_reducible assumption) | assumption); obtain ⟨ad112, A112_2, c112_2, e112, hx112_0, hx112_1, hx112_2, hl112_2, hi112_2⟩ := at_T41 (Kd.S_reads' HO105.out).2.2 1 p112 q112; obtain rfl : ad111 = ad112 := (by injection e112); obtain ⟨ce112, hce112, hMe112, hcc112⟩ := Kd.S_get HO105.out z41 1 p112 (by first | exact q112 | exact of_decide_eq_true (by first | (with_reducible assumption) | assumption) | (have e_ := (Kd.S_reads' HO105.out).1; omega)); obtain ⟨ve112_2, rfl, ge112_2⟩ := k41_openM hMe112; have hv112_2 := hcc112 2 _ rfl; rw [add_field _ _ 2 (by omega)] at hv112_2; replace hv112_2 := Option.some.inj (hv112_2.symm.trans hx112_2); rw [hv112_2] at ge112_2; have HL112_2 := Aside0.mk (show Kd.R k43 43 _ _ _ _ ((rd_T41 t101 1).f2) from ge112_2); clear hv112_2 ge112_2; clear hcc112 hce112; (try simp only [show (1 : Int).toNat = 1 from rfl, Nat.reduceMul, Nat.reduceEqDiff, Go.Addr.add, ↓reduceIte] at hx112_0); (try simp only [show (1 : Int).toNat = 1 from rfl, Nat.reduceMul, Nat.reduceEqDiff, Go.Addr.add, ↓reduceIte] at hx112_1); (try simp only [show (1 : Int).toNat = 1 from rfl, Nat.reduceMul, Nat.reduceEqDiff, Go.Addr.add, ↓reduceIte] at hx112_2); have qi112 : (1 < t101.length) = True := eq_true (by omega); (try rw [show ((1 : Int)).toNat = 1 from rfl] at hx112_0); (try rw [show 1 * 3 = 3 from rfl] at hx112_0); (try rw [show ((1 : Int)).toNat = 1 from rfl] at hx112_1); (try rw [show 1 * 3 = 3 from rfl] at hx112_1); (try rw [show ((1 : Int)).toNat = 1 from rfl] at hx112_2); (try rw [show 1 * 3 = 3 from rfl] at hx112_2); have HR112_2 := Aside0.mk hi112_2; have HC112_2 := Aside0.mk hl112_2; clear hi112_2 hl112_2; replace p112 := eq_true p112; replace q112 := eq_true q112; have p113 : 0 ≤ (1 : Int) := (by omega); have q113 : 1 < (t101.length : Int) := of_decide_eq_true (by first | (with_reducible assumption) | assumption); obtain ⟨ad113, A113_2, c113_2, e113, hx113_0, hx113_1, hx113_2, hl113_2, hi113_2⟩ := at_T41 (Kd.S_reads' HO105.out).2.2 1 p113 q113; obtain rfl : ad111 = ad113 := (by injection e113); obtain ⟨ce113, hce113, hMe113, hcc113⟩ := Kd.S_get HO105.out z41 1 p113 (by first | exact q113 | exact of_decide_eq_true (by first | (with_reducible assumption) | assumption) | (have e_ := (Kd.S_reads' HO105.out).1; omega)); obtain ⟨ve113_2, rfl, ge113_2⟩ := k41_openM hMe113; have hv113_2 := hcc113 2 _ rfl; rw [add_field _ _ 2 (by omega)] at hv113_2; replace hv113_2 := Option.some.inj (hv113_2.symm.trans hx113_2); rw [hv113_2] at ge113_2; have HL113_2 := Aside0.mk (show Kd.R k43 43 _ _ _ _ ((rd_T41 t101 1).f2) from ge113_2); clear hv113_2 ge113_2; clear hcc113 hce113; (try simp only [show (1 : Int).toNat = 1 from rfl, Nat.reduceMul, Nat.reduceEqDiff, Go.Addr.add, ↓reduceIte] at hx113_0); (try simp only [show (1 : Int).toNat = 1 from rfl, Nat.reduceMul, Nat.reduceEqDiff, Go.Addr.add, ↓reduceIte] at hx113_1); (try simp only [show (1 : Int).toNat = 1 from rfl, Nat.reduceMul, Nat.reduceEqDiff, Go.Addr.add, ↓reduceIte] at hx113_2); have qi113 : (1 < t101.length) = True := eq_true (by omega); (try rw [show ((1 : Int)).toNat = 1 from rfl] at hx113_0); (try rw [show 1 * 3 = 3 from rfl] at hx113_0); (try rw [show ((1 : Int)).toNat = 1 from rfl] at hx113_1); (try rw [show 1 * 3 = 3 from rfl] at hx113_1); (try rw [show ((1 : Int)).toNat = 1 from rfl] at hx113_2); (try rw [show 1 * 3 = 3 from rfl] at hx113_2); have HR113_2 := Aside0.mk hi113_2; have HC113_2 := Aside0.mk hl113_2; clear hi113_2 hl113_2; replace p113 := eq_true p113; replace q113 := eq_true q113; have ea_ := Option.some.inj (hx112_2.symm.trans hx113_2); injection ea_ with ea_ en_ ec_; subst ea_; subst ec_; clear en_; have p114 : 0 ≤ (1 : Int) := (by omega); have q114 : 1 < (t101.length : Int) := of_decide_eq_true (by first | (with_reducible assumption) | assumption); obtain ⟨ad114, A114_2, c114_2, e114, hx114_0, hx114_1, hx114_2, hl114_2, hi114_2⟩ := at_T41 (Kd.S_reads' HO105.out).2.2 1 p114 q114; obtain rfl : ad111 = ad114 := (by injection e114); obtain ⟨ce114, hce114, hMe114, hcc114⟩ := Kd.S_get HO105.out z41 1 p114 (by first | exact q114 | exact of_decide_eq_true (by first | (with_reducible assumption) | assumption) | (have e_ := (Kd.S_reads' HO105.out).1; omega)); obtain ⟨ve114_2, rfl, ge114_2⟩ := k41_openM hMe114; have hv114_2 := hcc114 2 _ rfl; rw [add_field _ _ 2 (by omega)] at hv114_2; replace hv114_2 := Option.some.inj (hv114_2.symm.trans hx114_2); rw [hv114_2] at ge114_2; have HL114_2 := Aside0.mk (show Kd.R k43 43 _ _ _ _ ((rd_T41 t101 1).f2) from ge114_2); clear hv114_2 ge114_2; clear hcc114 hce114; (try simp only [show (1 : Int).toNat = 1 from rfl, Nat.reduceMul, Nat.reduceEqDiff, Go.Addr.add, ↓reduceIte] at hx114_0); (try simp only [show (1 : Int).toNat = 1 from rfl, Nat.reduceMul, Nat.reduceEqDiff, Go.Addr.add, ↓reduceIte] at hx114_1); (try simp only [show (1 : Int).toNat = 1 from rfl, Nat.reduceMul, Nat.reduceEqDiff, Go.Addr.add, ↓reduceIte] at hx114_2); have qi114 : (1 < t101.length) = True := eq_true (by omega); (try rw [show ((1 : Int)).toNat = 1 from rfl] at hx114_0); (try rw [show 1 * 3 = 3 from rfl] at hx114_0); (try rw [show ((1 : Int)).toNat = 1 from rfl] at hx114_1); (try rw [show 1 * 3 = 3 from rfl] at hx114_1); (try rw [show ((1 : Int)).toNat = 1 from rfl] at hx114_2); (try rw [show 1 * 3 = 3 from rfl] at hx114_2); have HR114_2 := Aside0.mk hi114_2; have HC114_2 := Aside0.mk hl114_2; clear hi114_2 hl114_2; replace p114 := eq_true p114; replace q114 := eq_true q114; have ea_ := Option.some.inj (hx112_2.symm.trans hx114_2); injection ea_ with ea_ en_ ec_; subst ea_; subst ec_; clear en_; have p115 : 0 ≤ (1 : Int) := (by omega); have q115 : 1 < (((rd_T41 t101 1).f2).length : Int) := of_decide_eq_true (by first | (with_reducible assumption) | assumption); obtain ⟨ad115, e115, hx115_0, hx115_1, hx115_2⟩ := at_T43 (by repeat (first | (with_reducible exact HR114_2.out) | (with_reducible refine Kd.C_alloc ?_ _) | (with_reducible refine Kd.C_drewN ?_ _) | (with_reducible refine Kd.C_drew ?_) | exact HR114_2.out)) 1 p115 q115; cases e115; (try simp only [show (1 : Int).toNat = 1 from rfl, Nat.reduceMul, Nat.reduceEqDiff, Go.Addr.add, ↓reduceIte] at hx115_0); (try simp only [show (1 : Int).toNat = 1 from rfl, Nat.reduceMul, Nat.reduceEqDiff, Go.Addr.add, ↓reduceIte] at hx115_1); (try simp only [show (1 : Int).toNat = 1 from rfl, Nat.reduceMul, Nat.reduceEqDiff, Go.Addr.add, ↓reduceIte] at hx115_2); have qi115 : (1 < ((rd_T41 t101 1).f2).length) = True := eq_true (by omega); (try rw [show ((1 : Int)).toNat = 1 from rfl] at hx115_0); (try rw [show 1 * 3 = 3 from rfl] at hx115_0); (try rw [show ((1 : Int)).toNat = 1 from rfl] at hx115_1); (try rw [show 1 * 3 = 3 from rfl] at hx115_1); (try rw [show ((1 : Int)).toNat = 1 from rfl] at hx115_2); (try rw [show 1 * 3 = 3 from rfl] at hx115_2); replace p115 := eq_true p115; replace q115 := eq_true q115))
                       go_ret
                       exact ⟨by first | rfl | (simp [errW_none, errW_some] <;> rfl) | (simp [*, errW_none, errW_some] <;> rfl), by repeat (first | (with_reducible first | exact HB.out | apply below_alloc | apply pw_below_drewN | apply below_drew1) | exact HB.out)⟩
                   · rw [if_neg c12] at H
                     have c12b0 : ((((rd_T43 ((rd_T41 t101 1).f2) 1).f0).toList) == ([98] : List UInt8) && (((rd_T43 ((rd_T41 t101 1).f2) 1).f1) == 0 && (((rd_T43 ((rd_T41 t101 1).f2) 1).f2)))) = false := by simpa using c12
                     (try (have c12b1 : decide ((((rd_T43 ((rd_T41 t101 1).f2) 1).f0).toList) = ([98] : List UInt8) && (((rd_T43 ((rd_T41 t101 1).f2) 1).f1) == 0 && (((rd_T43 ((rd_T41 t101 1).f2) 1).f2)))) = false := by simpa using c12))
                     (try (have c12b2 : ((((rd_T43 ((rd_T41 t101 1).f2) 1).f0).toList) == ([98] : List UInt8) && (((rd_T43 ((rd_T41 t101 1).f2) 1).f1) == 0 && (((rd_T43 ((rd_T41 t101 1).f2) 1).f2)))) = false := by simpa using c12))
                     (try (have c12b3 : ¬ ((((rd_T43 ((rd_T41 t101 1).f2) 1).f0).toList) = ([98] : List UInt8) && (((rd_T43 ((rd_T41 t101 1).f2) 1).f1) == 0 && (((rd_T43 ((rd_T41 t101 1).f2) 1).f2)))) := by simpa using c12))
                     clear c12
                     obtain rfl := Option.some.inj H
                     go_enter Tryz.func5, Tryz.ntmps5
                     go_wp2_with (first | ((with_reducible refine gate_callee (f := 6) rfl ?_); refine goesL_ (some 8) rfl rfl Tryz.func6 (by kernel_rfl) rfl #[.string (⟨#[120, 123, 63, 97, 44, 98, 42, 125]⟩ : ByteArray)] rfl (by (try simp only [List.map_toArray, List.map_cons, List.map_nil]); first | done | rfl | (simp only [List.length_drop, List.length_take]; rfl)) ?_; (with_reducible refine (tmpl_Parse.calls k (⟨#[120, 123, 63, 97, 44, 98, 42, 125]⟩ : ByteArray) t101 t102 t103 _ (hG.keepAt (Nat.le_refl _) (by repeat (first | (with_reducible first | exact HB.out | apply below_alloc | apply pw_below_drewN | apply below_drew1) | exact HB.out))) A1.out).mono ?_); rintro e w20 ⟨v104, rfl, ho0, hb⟩; refine ⟨_, rfl, ?_⟩; have n0_ := Aside0.mk (Kd.S_lower ho0 (below_size (by repeat (first | (with_reducible first | exact HB.out | apply below_alloc | apply pw_below_drewN | apply below_drew1) | exact HB.out)))); have n1_ := Aside0.mk (below_step (by repeat (first | (with_reducible first | exact HB.out | apply below_alloc | apply pw_below_drewN | apply below_drew1) | exact HB.out)) hb); clear HB; have HO105 := n0_; have HB := n1_; clear n0_ n1_; (try clear hb); (try clear hb2); (try clear hk); (try clear hi); (try clear ho0)) | ((with_reducible refine gate_callee (f := 6) rfl ?_); refine goesL_ (some 13) rfl rfl Tryz.func6 (by kernel_rfl) rfl #[.string (⟨#[120, 123, 33, 97, 125]⟩ : ByteArray)] rfl (by (try simp only [List.map_toArray, List.map_cons, List.map_nil]); first | done | rfl | (simp only [List.length_drop, List.length_take]; rfl)) ?_; (with_reducible refine (tmpl_Parse.calls k (⟨#[120, 123, 33, 97, 125]⟩ : ByteArray) t106 t107 t108 _ (hG.keepAt (Nat.le_refl _) (by repeat (first | (with_reducible first | exact HB.out | apply below_alloc | apply pw_below_drewN | apply below_drew1) | exact HB.out))) A2.out).mono ?_); rintro e w21 ⟨v109, rfl, ho0, hb⟩; refine ⟨_, rfl, ?_⟩; have n0_ := Aside0.mk (Kd.S_elder' (by (with_reducible repeat (first | apply Kd.S_alloc | apply Kd.S_drewN | apply Kd.S_drew)); exact HO105.out) (Kd.S_base ho0) hb); have n1_ := Aside0.mk (Kd.S_lower (Kd.S_new' ho0 (Kd.S_lt (by (with_reducible repeat (first | apply Kd.S_alloc | apply Kd.S_drewN | apply Kd.S_drew)); exact HO105.out))) (below_size (by repeat (first | (with_reducible first | exact HB.out | apply below_alloc | apply pw_below_drewN | apply below_drew1) | exact HB.out)))); have n2_ := Aside0.mk (below_step (by repeat (first | (with_reducible first | exact HB.out | apply below_alloc | apply pw_below_drewN | apply below_drew1) | exact HB.out)) hb); clear HO105; clear HB; have HO105 := n0_; have HO110 := n1_; have HB := n2_; clear n0_ n1_ n2_; (try clear hb); (try clear hb2); (try clear hk); (try clear hi); (try clear ho0); obtain ⟨Ao22, co22, eo22⟩ := Kd.S_slice HO105.out; subst eo22; have p111 : 0 ≤ (0 : Int) := (by omega); have q111 : 0 < (t101.length : Int) := of_decide_eq_true (by first | (with_reducible assumption) | assumption); obtain ⟨ad111, A111_2, c111_2, e111, hx111_0, hx111_1, hx111_2, hl111_2, hi111_2⟩ := at_T41 (Kd.S_reads' HO105.out).2.2 0 p111 q111; cases e111; obtain ⟨ce111, hce111, hMe111, hcc111⟩ := Kd.S_get HO105.out z41 0 p111 (by first | exact q111 | exact of_decide_eq_true (by first | (with_reducible assumption) | assumption) | (have e_ := (Kd.S_reads' HO105.out).1; omega)); obtain ⟨ve111_2, rfl, ge111_2⟩ := k41_openM hMe111; have hv111_2 := hcc111 2 _ rfl; rw [add_field _ _ 2 (by omega)] at hv111_2; replace hv111_2 := Option.some.inj (hv111_2.symm.trans hx111_2); rw [hv111_2] at ge111_2; have HL111_2 := Aside0.mk (show Kd.R k43 43 _ _ _ _ ((rd_T41 t101 0).f2) from ge111_2); clear hv111_2 ge111_2; clear hcc111 hce111; have qi111 : (0 < t101.length) = True := eq_true (by omega); (try rw [show ((0 : Int)).toNat = 0 from rfl] at hx111_0); (try rw [show 0 * 3 = 0 from rfl] at hx111_0); (try rw [Addr.add_zero'] at hx111_0); (try rw [show ((0 : Int)).toNat = 0 from rfl] at hx111_1); (try rw [show 0 * 3 = 0 from rfl] at hx111_1); (try rw [Addr.add_zero'] at hx111_1); (try rw [show ((0 : Int)).toNat = 0 from rfl] at hx111_2); (try rw [show 0 * 3 = 0 from rfl] at hx111_2); (try rw [Addr.add_zero'] at hx111_2); have HR111_2 := Aside0.mk hi111_2; have HC111_2 := Aside0.mk hl111_2; clear hi111_2 hl111_2; replace p111 := eq_true p111; replace q111 := eq_true q111; have p112 : 0 ≤ (1 : Int) := (by omega); have q112 : 1 < (t101.length : Int) := of_decide_eq_true (by first | (with_reducible assumption) | assumption); obtain ⟨ad112, A112_2, c112_2, e112, hx112_0, hx112_1, hx112_2, hl112_2, hi112_2⟩ := at_T41 (Kd.S_reads' HO105.out).2.2 1 p112 q112; obtain rfl : ad111 = ad112 := (by injection e112); obtain ⟨ce112, hce112, hMe112, hcc112⟩ := Kd.S_get HO105.out z41 1 p112 (by first | exact q112 | exact of_decide_eq_true (by first | (with_reducible assumption) | assumption) | (have e_ := (Kd.S_reads' HO105.out).1; omega)); obtain ⟨ve112_2, rfl, ge112_2⟩ := k41_openM hMe112; have hv112_2 := hcc112 2 _ rfl; rw [add_field _ _ 2 (by omega)] at hv112_2; replace hv112_2 := Option.some.inj (hv112_2.symm.trans hx112_2); rw [hv112_2] at ge112_2; have HL112_2 := Aside0.mk (show Kd.R k43 43 _ _ _ _ ((rd_T41 t101 1).f2) from ge112_2); clear hv112_2 ge112_2; clear hcc112 hce112; (try simp only [show (1 : Int).toNat = 1 from rfl, Nat.reduceMul, Nat.reduceEqDiff, Go.Addr.add, ↓reduceIte] at hx112_0); (try simp only [show (1 : Int).toNat = 1 from rfl, Nat.reduceMul, Nat.reduceEqDiff, Go.Addr.add, ↓reduceIte] at hx112_1); (try simp only [show (1 : Int).toNat = 1 from rfl, Nat.reduceMul, Nat.reduceEqDiff, Go.Addr.add, ↓reduceIte] at hx112_2); have qi112 : (1 < t101.length) = True := eq_true (by omega); (try rw [show ((1 : Int)).toNat = 1 from rfl] at hx112_0); (try rw [show 1 * 3 = 3 from rfl] at hx112_0); (try rw [show ((1 : Int)).toNat = 1 from rfl] at hx112_1); (try rw [show 1 * 3 = 3 from rfl] at hx112_1); (try rw [show ((1 : Int)).toNat = 1 from rfl] at hx112_2); (try rw [show 1 * 3 = 3 from rfl] at hx112_2); have HR112_2 := Aside0.mk hi112_2; have HC112_2 := Aside0.mk hl112_2; clear hi112_2 hl112_2; replace p112 := eq_true p112; replace q112 := eq_true q112; have p113 : 0 ≤ (1 : Int) := (by omega); have q113 : 1 < (t101.length : Int) := of_decide_eq_true (by first | (with_reducible assumption) | assumption); obtain ⟨ad113, A113_2, c113_2, e113, hx113_0, hx113_1, hx113_2, hl113_2, hi113_2⟩ := at_T41 (Kd.S_reads' HO105.out).2.2 1 p113 q113; obtain rfl : ad111 = ad113 := (by injection e113); obtain ⟨ce113, hce113, hMe113, hcc113⟩ := Kd.S_get HO105.out z41 1 p113 (by first | exact q113 | exact of_decide_eq_true (by first | (with_reducible assumption) | assumption) | (have e_ := (Kd.S_reads' HO105.out).1; omega)); obtain ⟨ve113_2, rfl, ge113_2⟩ := k41_openM hMe113; have hv113_2 := hcc113 2 _ rfl; rw [add_field _ _ 2 (by omega)] at hv113_2; replace hv113_2 := Option.some.inj (hv113_2.symm.trans hx113_2); rw [hv113_2] at ge113_2; have HL113_2 := Aside0.mk (show Kd.R k43 43 _ _ _ _ ((rd_T41 t101 1).f2) from ge113_2); clear hv113_2 ge113_2; clear hcc113 hce113; (try simp only [show (1 : Int).toNat = 1 from rfl, Nat.reduceMul, Nat.reduceEqDiff, Go.Addr.add, ↓reduceIte] at hx113_0); (try simp only [show (1 : Int).toNat = 1 from rfl, Nat.reduceMul, Nat.reduceEqDiff, Go.Addr.add, ↓reduceIte] at hx113_1); (try simp only [show (1 : Int).toNat = 1 from rfl, Nat.reduceMul, Nat.reduceEqDiff, Go.Addr.add, ↓reduceIte] at hx113_2); have qi113 : (1 < t101.length) = True := eq_true (by omega); (try rw [show ((1 : Int)).toNat = 1 from rfl] at hx113_0); (try rw [show 1 * 3 = 3 from rfl] at hx113_0); (try rw [show ((1 : Int)).toNat = 1 from rfl] at hx113_1); (try rw [show 1 * 3 = 3 from rfl] at hx113_1); (try rw [show ((1 : Int)).toNat = 1 from rfl] at hx113_2); (try rw [show 1 * 3 = 3 from rfl] at hx113_2); have HR113_2 := Aside0.mk hi113_2; have HC113_2 := Aside0.mk hl113_2; clear hi113_2 hl113_2; replace p113 := eq_true p113; replace q113 := eq_true q113; have ea_ := Option.some.inj (hx112_2.symm.trans hx113_2); injection ea_ with ea_ en_ ec_; subst ea_; subst ec_; clear en_; have p114 : 0 ≤ (1 : Int) := (by omega); have q114 : 1 < (t101.length : Int) := of_decide_eq_true (by first | (with_reducible assumption) | assumption); obtain ⟨ad114, A114_2, c114_2, e114, hx114_0, hx114_1, hx114_2, hl114_2, hi114_2⟩ := at_T41 (Kd.S_reads' HO105.out).2.2 1 p114 q114; obtain rfl : ad111 = ad114 := (by injection e114); obtain ⟨ce114, hce114, hMe114, hcc114⟩ := Kd.S_get HO105.out z41 1 p114 (by first | exact q114 | exact of_decide_eq_true (by first | (with_reducible assumption) | assumption) | (have e_ := (Kd.S_reads' HO105.out).1; omega)); obtain ⟨ve114_2, rfl, ge114_2⟩ := k41_openM hMe114; have hv114_2 := hcc114 2 _ rfl; rw [add_field _ _ 2 (by omega)] at hv114_2; replace hv114_2 := Option.some.inj (hv114_2.symm.trans hx114_2); rw [hv114_2] at ge114_2; have HL114_2 := Aside0.mk (show Kd.R k43 43 _ _ _ _ ((rd_T41 t101 1).f2) from ge114_2); clear hv114_2 ge114_2; clear hcc114 hce114; (try simp only [show (1 : Int).toNat = 1 from rfl, Nat.reduceMul, Nat.reduceEqDiff, Go.Addr.add, ↓reduceIte] at hx114_0); (try simp only [show (1 : Int).toNat = 1 from rfl, Nat.reduceMul, Nat.reduceEqDiff, Go.Addr.add, ↓reduceIte] at hx114_1); (try simp only [show (1 : Int).toNat = 1 from rfl, Nat.reduceMul, Nat.reduceEqDiff, Go.Addr.add, ↓reduceIte] at hx114_2); have qi114 : (1 < t101.length) = True := eq_true (by omega); (try rw [show ((1 : Int)).toNat = 1 from rfl] at hx114_0); (try rw [show 1 * 3 = 3 from rfl] at hx114_0); (try rw [show ((1 : Int)).toNat = 1 from rfl] at hx114_1); (try rw [show 1 * 3 = 3 from rfl] at hx114_1); (try rw [show ((1 : Int)).toNat = 1 from rfl] at hx114_2); (try rw [show 1 * 3 = 3 from rfl] at hx114_2); have HR114_2 := Aside0.mk hi114_2; have HC114_2 := Aside0.mk hl114_2; clear hi114_2 hl114_2; replace p114 := eq_true p114; replace q114 := eq_true q114; have ea_ := Option.some.inj (hx112_2.symm.trans hx114_2); injection ea_ with ea_ en_ ec_; subst ea_; subst ec_; clear en_; have p115 : 0 ≤ (1 : Int) := (by omega); have q115 : 1 < (((rd_T41 t101 1).f2).length : Int) := of_decide_eq_true (by first | (with_reducible assumption) | assumption); obtain ⟨ad115, e115, hx115_0, hx115_1, hx115_2⟩ := at_T43 (by repeat (first | (with_reducible exact HR114_2.out) | (with_reducible refine Kd.C_alloc ?_ _) | (with_reducible refine Kd.C_drewN ?_ _) | (with_reducible refine Kd.C_drew ?_) | exact HR114_2.out)) 1 p115 q115; cases e115; (try simp only [show (1 : Int).toNat = 1 from rfl, Nat.reduceMul, Nat.reduceEqDiff, Go.Addr.add, ↓reduceIte] at hx115_0); (try simp only [show (1 : Int).toNat = 1 from rfl, Nat.reduceMul, Nat.reduceEqDiff, Go.Addr.add, ↓reduceIte] at hx115_1); (try simp only [show (1 : Int).toNat = 1 from rfl, Nat.reduceMul, Nat.reduceEqDiff, Go.Addr.add, ↓reduceIte] at hx115_2); have qi115 : (1 < ((rd_T41 t101 1).f2).length) = True := eq_true (by omega); (try rw [show ((1 : Int)).toNat = 1 from rfl] at hx115_0); (try rw [show 1 * 3 = 3 from rfl] at hx115_0); (try rw [show ((1 : Int)).toNat = 1 from rfl] at hx115_1); (try rw [show 1 * 3 = 3 from rfl] at hx115_1); (try rw [show ((1 : Int)).toNat = 1 from rfl] at hx115_2); (try rw [show 1 * 3 = 3 from rfl] at hx115_2); replace p115 := eq_true p115; replace q115 := eq_true q115))
                     go_ret
                     exact ⟨by first | rfl | (simp [errW_none, errW_some] <;> rfl) | (simp [*, errW_none, errW_some] <;> rfl), by repeat (first | (with_reducible first | exact HB.out | apply below_alloc | apply pw_below_drewN | apply below_drew1) | exact HB.out)⟩
                 · rw [if_neg c11] at H
                   exact absurd H (by simp)
               · rw [if_neg c10] at H
                 have c10b0 : ((((rd_T41 t101 1).f2).length : Int) == 2) = false := beq_eq_false_iff_ne.mpr c10
                 have c10b1 : ((((rd_T41 t101 1).f2).length : Int) != 2) = true := bne_iff_ne.mpr c10
                 obtain rfl := Option.some.inj H
                 go_enter Tryz.func5, Tryz.ntmps5
                 go_wp2_with (first | ((with_reducible refine gate_callee (f := 6) rfl ?_); refine goesL_ (some 8) rfl rfl Tryz.func6 (by kernel_rfl) rfl #[.string (⟨#[120, 123, 63, 97, 44, 98, 42, 125]⟩ : ByteArray)] rfl (by (try simp only [List.map_toArray, List.map_cons, List.map_nil]); first | done | rfl | (simp only [List.length_drop, List.length_take]; rfl)) ?_; (with_reducible refine (tmpl_Parse.calls k (⟨#[120, 123, 63, 97, 44, 98, 42, 125]⟩ : ByteArray) t101 t102 t103 _ (hG.keepAt (Nat.le_refl _) (by repeat (first | (with_reducible first | exact HB.out | apply below_alloc | apply pw_below_drewN | apply below_drew1) | exact HB.out))) A1.out).mono ?_); rintro e w23 ⟨v104, rfl, ho0, hb⟩; refine ⟨_, rfl, ?_⟩; have n0_ := Aside0.mk (Kd.S_lower ho0 (below_size (by repeat (first | (with_reducible first | exact HB.out | apply below_alloc | apply pw_below_drewN | apply below_drew1) | exact HB.out)))); have n1_ := Aside0.mk (below_step (by repeat (first | (with_reducible first | exact HB.out | apply below_alloc | apply pw_below_drewN | apply below_drew1) | exact HB.out)) hb); clear HB; have HO105 := n0_; have HB := n1_; clear n0_ n1_; (try clear hb); (try clear hb2); (try clear hk); (try clear hi); (try clear ho0)) | ((with_reducible refine gate_callee (f := 6) rfl ?_); refine goesL_ (some 13) rfl rfl Tryz.func6 (by kernel_rfl) rfl #[.string (⟨#[120, 123, 33, 97, 125]⟩ : ByteArray)] rfl (by (try simp only [List.map_toArray, List.map_cons, List.map_nil]); first | done | rfl | (simp only [List.length_drop, List.length_take]; rfl)) ?_; (with_reducible refine (tmpl_Parse.calls k (⟨#[120, 123, 33, 97, 125]⟩ : ByteArray) t106 t107 t108 _ (hG.keepAt (Nat.le_refl _) (by repeat (first | (with_reducible first | exact HB.out | apply below_alloc | apply pw_below_drewN | apply below_drew1) | exact HB.out))) A2.out).mono ?_); rintro e w24 ⟨v109, rfl, ho0, hb⟩; refine ⟨_, rfl, ?_⟩; have n0_ := Aside0.mk (Kd.S_elder' (by (with_reducible repeat (first | apply Kd.S_alloc | apply Kd.S_drewN | apply Kd.S_drew)); exact HO105.out) (Kd.S_base ho0) hb); have n1_ := Aside0.mk (Kd.S_lower (Kd.S_new' ho0 (Kd.S_lt (by (with_reducible repeat (first | apply Kd.S_alloc | apply Kd.S_drewN | apply Kd.S_drew)); exact HO105.out))) (below_size (by repeat (first | (with_reducible first | exact HB.out | apply below_alloc | apply pw_below_drewN | apply below_drew1) | exact HB.out)))); have n2_ := Aside0.mk (below_step (by repeat (first | (with_reducible first | exact HB.out | apply below_alloc | apply pw_below_drewN | apply below_drew1) | exact HB.out)) hb); clear HO105; clear HB; have HO105 := n0_; have HO110 := n1_; have HB := n2_; clear n0_ n1_ n2_; (try clear hb); (try clear hb2); (try clear hk); (try clear hi); (try clear ho0); obtain ⟨Ao25, co25, eo25⟩ := Kd.S_slice HO105.out; subst eo25; have p111 : 0 ≤ (0 : Int) := (by omega); have q111 : 0 < (t101.length : Int) := of_decide_eq_true (by first | (with_reducible assumption) | assumption); obtain ⟨ad111, A111_2, c111_2, e111, hx111_0, hx111_1, hx111_2, hl111_2, hi111_2⟩ := at_T41 (Kd.S_reads' HO105.out).2.2 0 p111 q111; cases e111; obtain ⟨ce111, hce111, hMe111, hcc111⟩ := Kd.S_get HO105.out z41 0 p111 (by first | exact q111 | exact of_decide_eq_true (by first | (with_reducible assumption) | assumption) | (have e_ := (Kd.S_reads' HO105.out).1; omega)); obtain ⟨ve111_2, rfl, ge111_2⟩ := k41_openM hMe111; have hv111_2 := hcc111 2 _ rfl; rw [add_field _ _ 2 (by omega)] at hv111_2; replace hv111_2 := Option.some.inj (hv111_2.symm.trans hx111_2); rw [hv111_2] at ge111_2; have HL111_2 := Aside0.mk (show Kd.R k43 43 _ _ _ _ ((rd_T41 t101 0).f2) from ge111_2); clear hv111_2 ge111_2; clear hcc111 hce111; have qi111 : (0 < t101.length) = True := eq_true (by omega); (try rw [show ((0 : Int)).toNat = 0 from rfl] at hx111_0); (try rw [show 0 * 3 = 0 from rfl] at hx111_0); (try rw [Addr.add_zero'] at hx111_0); (try rw [show ((0 : Int)).toNat = 0 from rfl] at hx111_1); (try rw [show 0 * 3 = 0 from rfl] at hx111_1); (try rw [Addr.add_zero'] at hx111_1); (try rw [show ((0 : Int)).toNat = 0 from rfl] at hx111_2); (try rw [show 0 * 3 = 0 from rfl] at hx111_2); (try rw [Addr.add_zero'] at hx111_2); have HR111_2 := Aside0.mk hi111_2; have HC111_2 := Aside0.mk hl111_2; clear hi111_2 hl111_2; replace p111 := eq_true p111; replace q111 := eq_true q111; have p112 : 0 ≤ (1 : Int) := (by omega); have q112 : 1 < (t101.length : Int) := of_decide_eq_true (by first | (with_reducible assumption) | assumption); obtain ⟨ad112, A112_2, c112_2, e112, hx112_0, hx112_1, hx112_2, hl112_2, hi112_2⟩ := at_T41 (Kd.S_reads' HO105.out).2.2 1 p112 q112; obtain rfl : ad111 = ad112 := (by injection e112); obtain ⟨ce112, hce112, hMe112, hcc112⟩ := Kd.S_get HO105.out z41 1 p112 (by first | exact q112 | exact of_decide_eq_true (by first | (with_reducible assumption) | assumption) | (have e_ := (Kd.S_reads' HO105.out).1; omega)); obtain ⟨ve112_2, rfl, ge112_2⟩ := k41_openM hMe112; have hv112_2 := hcc112 2 _ rfl; rw [add_field _ _ 2 (by omega)] at hv112_2; replace hv112_2 := Option.some.inj (hv112_2.symm.trans hx112_2); rw [hv112_2] at ge112_2; have HL112_2 := Aside0.mk (show Kd.R k43 43 _ _ _ _ ((rd_T41 t101 1).f2) from ge112_2); clear hv112_2 ge112_2; clear hcc112 hce112; (try simp only [show (1 : Int).toNat = 1 from rfl, Nat.reduceMul, Nat.reduceEqDiff, Go.Addr.add, ↓reduceIte] at hx112_0); (try simp only [show (1 : Int).toNat = 1 from rfl, Nat.reduceMul, Nat.reduceEqDiff, Go.Addr.add, ↓reduceIte] at hx112_1); (try simp only [show (1 : Int).toNat = 1 from rfl, Nat.reduceMul, Nat.reduceEqDiff, Go.Addr.add, ↓reduceIte] at hx112_2); have qi112 : (1 < t101.length) = True := eq_true (by omega); (try rw [show ((1 : Int)).toNat = 1 from rfl] at hx112_0); (try rw [show 1 * 3 = 3 from rfl] at hx112_0); (try rw [show ((1 : Int)).toNat = 1 from rfl] at hx112_1); (try rw [show 1 * 3 = 3 from rfl] at hx112_1); (try rw [show ((1 : Int)).toNat = 1 from rfl] at hx112_2); (try rw [show 1 * 3 = 3 from rfl] at hx112_2); have HR112_2 := Aside0.mk hi112_2; have HC112_2 := Aside0.mk hl112_2; clear hi112_2 hl112_2; replace p112 := eq_true p112; replace q112 := eq_true q112; have p113 : 0 ≤ (1 : Int) := (by omega); have q113 : 1 < (t101.length : Int) := of_decide_eq_true (by first | (with_reducible assumption) | assumption); obtain ⟨ad113, A113_2, c113_2, e113, hx113_0, hx113_1, hx113_2, hl113_2, hi113_2⟩ := at_T41 (Kd.S_reads' HO105.out).2.2 1 p113 q113; obtain rfl : ad111 = ad113 := (by injection e113); obtain ⟨ce113, hce113, hMe113, hcc113⟩ := Kd.S_get HO105.out z41 1 p113 (by first | exact q113 | exact of_decide_eq_true (by first | (with_reducible assumption) | assumption) | (have e_ := (Kd.S_reads' HO105.out).1; omega)); obtain ⟨ve113_2, rfl, ge113_2⟩ := k41_openM hMe113; have hv113_2 := hcc113 2 _ rfl; rw [add_field _ _ 2 (by omega)] at hv113_2; replace hv113_2 := Option.some.inj (hv113_2.symm.trans hx113_2); rw [hv113_2] at ge113_2; have HL113_2 := Aside0.mk (show Kd.R k43 43 _ _ _ _ ((rd_T41 t101 1).f2) from ge113_2); clear hv113_2 ge113_2; clear hcc113 hce113; (try simp only [show (1 : Int).toNat = 1 from rfl, Nat.reduceMul, Nat.reduceEqDiff, Go.Addr.add, ↓reduceIte] at hx113_0); (try simp only [show (1 : Int).toNat = 1 from rfl, Nat.reduceMul, Nat.reduceEqDiff, Go.Addr.add, ↓reduceIte] at hx113_1); (try simp only [show (1 : Int).toNat = 1 from rfl, Nat.reduceMul, Nat.reduceEqDiff, Go.Addr.add, ↓reduceIte] at hx113_2); have qi113 : (1 < t101.length) = True := eq_true (by omega); (try rw [show ((1 : Int)).toNat = 1 from rfl] at hx113_0); (try rw [show 1 * 3 = 3 from rfl] at hx113_0); (try rw [show ((1 : Int)).toNat = 1 from rfl] at hx113_1); (try rw [show 1 * 3 = 3 from rfl] at hx113_1); (try rw [show ((1 : Int)).toNat = 1 from rfl] at hx113_2); (try rw [show 1 * 3 = 3 from rfl] at hx113_2); have HR113_2 := Aside0.mk hi113_2; have HC113_2 := Aside0.mk hl113_2; clear hi113_2 hl113_2; replace p113 := eq_true p113; replace q113 := eq_true q113; have ea_ := Option.some.inj (hx112_2.symm.trans hx113_2); injection ea_ with ea_ en_ ec_; subst ea_; subst ec_; clear en_))
                 go_ret
                 exact ⟨by first | rfl | (simp [errW_none, errW_some] <;> rfl) | (simp [*, errW_none, errW_some] <;> rfl), by repeat (first | (with_reducible first | exact HB.out | apply below_alloc | apply pw_below_drewN | apply below_drew1) | exact HB.out)⟩
             · rw [if_neg c9] at H
               have c9b0 : (((rd_T41 t101 1).f1) == 63) = false := beq_eq_false_iff_ne.mpr c9
               have c9b1 : (((rd_T41 t101 1).f1) != 63) = true := bne_iff_ne.mpr c9
               obtain rfl := Option.some.inj H
               go_enter Tryz.func5, Tryz.ntmps5
               go_wp2_with (first | ((with_reducible refine gate_callee (f := 6) rfl ?_); refine goesL_ (some 8) rfl rfl Tryz.func6 (by kernel_rfl) rfl #[.string (⟨#[120, 123, 63, 97, 44, 98, 42, 125]⟩ : ByteArray)] rfl (by (try simp only [List.map_toArray, List.map_cons, List.map_nil]); first | done | rfl | (simp only [List.length_drop, List.length_take]; rfl)) ?_; (with_reducible refine (tmpl_Parse.calls k (⟨#[120, 123, 63, 97, 44, 98, 42, 125]⟩ : ByteArray) t101 t102 t103 _ (hG.keepAt (Nat.le_refl _) (by repeat (first | (with_reducible first | exact HB.out | apply below_alloc | apply pw_below_drewN | apply below_drew1) | exact HB.out))) A1.out).mono ?_); rintro e w26 ⟨v104, rfl, ho0, hb⟩; refine ⟨_, rfl, ?_⟩; have n0_ := Aside0.mk (Kd.S_lower ho0 (below_size (by repeat (first | (with_reducible first | exact HB.out | apply below_alloc | apply pw_below_drewN | apply below_drew1) | exact HB.out)))); have n1_ := Aside0.mk (below_step (by repeat (first | (with_reducible first | exact HB.out | apply below_alloc | apply pw_below_drewN | apply below_drew1) | exact HB.out)) hb); clear HB; have HO105 := n0_; have HB := n1_; clear n0_ n1_; (try clear hb); (try clear hb2); (try clear hk); (try clear hi); (try clear ho0)) | ((with_reducible refine gate_callee (f := 6) rfl ?_); refine goesL_ (some 13) rfl rfl Tryz.func6 (by kernel_rfl) rfl #[.string (⟨#[120, 123, 33, 97, 125]⟩ : ByteArray)] rfl (by (try simp only [List.map_toArray, List.map_cons, List.map_nil]); first | done | rfl | (simp only [List.length_drop, List.length_take]; rfl)) ?_; (with_reducible refine (tmpl_Parse.calls k (⟨#[120, 123, 33, 97, 125]⟩ : ByteArray) t106 t107 t108 _ (hG.keepAt (Nat.le_refl _) (by repeat (first | (with_reducible first | exact HB.out | apply below_alloc | apply pw_below_drewN | apply below_drew1) | exact HB.out))) A2.out).mono ?_); rintro e w27 ⟨v109, rfl, ho0, hb⟩; refine ⟨_, rfl, ?_⟩; have n0_ := Aside0.mk (Kd.S_elder' (by (with_reducible repeat (first | apply Kd.S_alloc | apply Kd.S_drewN | apply Kd.S_drew)); exact HO105.out) (Kd.S_base ho0) hb); have n1_ := Aside0.mk (Kd.S_lower (Kd.S_new' ho0 (Kd.S_lt (by (with_reducible repeat (first | apply Kd.S_alloc | apply Kd.S_drewN | apply Kd.S_drew)); exact HO105.out))) (below_size (by repeat (first | (with_reducible first | exact HB.out | apply below_alloc | apply pw_below_drewN | apply below_drew1) | exact HB.out)))); have n2_ := Aside0.mk (below_step (by repeat (first | (with_reducible first | exact HB.out | apply below_alloc | apply pw_below_drewN | apply below_drew1) | exact HB.out)) hb); clear HO105; clear HB; have HO105 := n0_; have HO110 := n1_; have HB := n2_; clear n0_ n1_ n2_; (try clear hb); (try clear hb2); (try clear hk); (try clear hi); (try clear ho0); obtain ⟨Ao28, co28, eo28⟩ := Kd.S_slice HO105.out; subst eo28; have p111 : 0 ≤ (0 : Int) := (by omega); have q111 : 0 < (t101.length : Int) := of_decide_eq_true (by first | (with_reducible assumption) | assumption); obtain ⟨ad111, A111_2, c111_2, e111, hx111_0, hx111_1, hx111_2, hl111_2, hi111_2⟩ := at_T41 (Kd.S_reads' HO105.out).2.2 0 p111 q111; cases e111; obtain ⟨ce111, hce111, hMe111, hcc111⟩ := Kd.S_get HO105.out z41 0 p111 (by first | exact q111 | exact of_decide_eq_true (by first | (with_reducible assumption) | assumption) | (have e_ := (Kd.S_reads' HO105.out).1; omega)); obtain ⟨ve111_2, rfl, ge111_2⟩ := k41_openM hMe111; have hv111_2 := hcc111 2 _ rfl; rw [add_field _ _ 2 (by omega)] at hv111_2; replace hv111_2 := Option.some.inj (hv111_2.symm.trans hx111_2); rw [hv111_2] at ge111_2; have HL111_2 := Aside0.mk (show Kd.R k43 43 _ _ _ _ ((rd_T41 t101 0).f2) from ge111_2); clear hv111_2 ge111_2; clear hcc111 hce111; have qi111 : (0 < t101.length) = True := eq_true (by omega); (try rw [show ((0 : Int)).toNat = 0 from rfl] at hx111_0); (try rw [show 0 * 3 = 0 from rfl] at hx111_0); (try rw [Addr.add_zero'] at hx111_0); (try rw [show ((0 : Int)).toNat = 0 from rfl] at hx111_1); (try rw [show 0 * 3 = 0 from rfl] at hx111_1); (try rw [Addr.add_zero'] at hx111_1); (try rw [show ((0 : Int)).toNat = 0 from rfl] at hx111_2); (try rw [show 0 * 3 = 0 from rfl] at hx111_2); (try rw [Addr.add_zero'] at hx111_2); have HR111_2 := Aside0.mk hi111_2; have HC111_2 := Aside0.mk hl111_2; clear hi111_2 hl111_2; replace p111 := eq_true p111; replace q111 := eq_true q111; have p112 : 0 ≤ (1 : Int) := (by omega); have q112 : 1 < (t101.length : Int) := of_decide_eq_true (by first | (with_reducible assumption) | assumption); obtain ⟨ad112, A112_2, c112_2, e112, hx112_0, hx112_1, hx112_2, hl112_2, hi112_2⟩ := at_T41 (Kd.S_reads' HO105.out).2.2 1 p112 q112; obtain rfl : ad111 = ad112 := (by injection e112); obtain ⟨ce112, hce112, hMe112, hcc112⟩ := Kd.S_get HO105.out z41 1 p112 (by first | exact q112 | exact of_decide_eq_true (by first | (with_reducible assumption) | assumption) | (have e_ := (Kd.S_reads' HO105.out).1; omega)); obtain ⟨ve112_2, rfl, ge112_2⟩ := k41_openM hMe112; have hv112_2 := hcc112 2 _ rfl; rw [add_field _ _ 2 (by omega)] at hv112_2; replace hv112_2 := Option.some.inj (hv112_2.symm.trans hx112_2); rw [hv112_2] at ge112_2; have HL112_2 := Aside0.mk (show Kd.R k43 43 _ _ _ _ ((rd_T41 t101 1).f2) from ge112_2); clear hv112_2 ge112_2; clear hcc112 hce112; (try simp only [show (1 : Int).toNat = 1 from rfl, Nat.reduceMul, Nat.reduceEqDiff, Go.Addr.add, ↓reduceIte] at hx112_0); (try simp only [show (1 : Int).toNat = 1 from rfl, Nat.reduceMul, Nat.reduceEqDiff, Go.Addr.add, ↓reduceIte] at hx112_1); (try simp only [show (1 : Int).toNat = 1 from rfl, Nat.reduceMul, Nat.reduceEqDiff, Go.Addr.add, ↓reduceIte] at hx112_2); have qi112 : (1 < t101.length) = True := eq_true (by omega); (try rw [show ((1 : Int)).toNat = 1 from rfl] at hx112_0); (try rw [show 1 * 3 = 3 from rfl] at hx112_0); (try rw [show ((1 : Int)).toNat = 1 from rfl] at hx112_1); (try rw [show 1 * 3 = 3 from rfl] at hx112_1); (try rw [show ((1 : Int)).toNat = 1 from rfl] at hx112_2); (try rw [show 1 * 3 = 3 from rfl] at hx112_2); have HR112_2 := Aside0.mk hi112_2; have HC112_2 := Aside0.mk hl112_2; clear hi112_2 hl112_2; replace p112 := eq_true p112; replace q112 := eq_true q112))
               go_ret
               exact ⟨by first | rfl | (simp [errW_none, errW_some] <;> rfl) | (simp [*, errW_none, errW_some] <;> rfl), by repeat (first | (with_reducible first | exact HB.out | apply below_alloc | apply pw_below_drewN | apply below_drew1) | exact HB.out)⟩
           · rw [if_neg c8] at H
             exact absurd H (by simp)
         · rw [if_neg c7] at H
           have c7b0 : (((rd_T41 t101 0).f0).toList == ([120] : List UInt8)) = false := beq_eq_false_iff_ne.mpr c7
           have c7b1 : (((rd_T41 t101 0).f0).toList != ([120] : List UInt8)) = true := bne_iff_ne.mpr c7
           obtain rfl := Option.some.inj H
           go_enter Tryz.func5, Tryz.ntmps5
           go_wp2_with (first | ((with_reducible refine gate_callee (f := 6) rfl ?_); refine goesL_ (some 8) rfl rfl Tryz.func6 (by kernel_rfl) rfl #[.string (⟨#[120, 123, 63, 97, 44, 98, 42, 125]⟩ : ByteArray)] rfl (by (try simp only [List.map_toArray, List.map_cons, List.map_nil]); first | done | rfl | (simp only [List.length_drop, List.length_take]; rfl)) ?_; (with_reducible refine (tmpl_Parse.calls k (⟨#[120, 123, 63, 97, 44, 98, 42, 125]⟩ : ByteArray) t101 t102 t103 _ (hG.keepAt (Nat.le_refl _) (by repeat (first | (with_reducible first | exact HB.out | apply below_alloc | apply pw_below_drewN | apply below_drew1) | exact HB.out))) A1.out).mono ?_); rintro e w29 ⟨v104, rfl, ho0, hb⟩; refine ⟨_, rfl, ?_⟩; have n0_ := Aside0.mk (Kd.S_lower ho0 (below_size (by repeat (first | (with_reducible first | exact HB.out | apply below_alloc | apply pw_below_drewN | apply below_drew1) | exact HB.out)))); have n1_ := Aside0.mk (below_step (by repeat (first | (with_reducible first | exact HB.out | apply below_alloc | apply pw_below_drewN | apply below_drew1) | exact HB.out)) hb); clear HB; have HO105 := n0_; have HB := n1_; clear n0_ n1_; (try clear hb); (try clear hb2); (try clear hk); (try clear hi); (try clear ho0)) | ((with_reducible refine gate_callee (f := 6) rfl ?_); refine goesL_ (some 13) rfl rfl Tryz.func6 (by kernel_rfl) rfl #[.string (⟨#[120, 123, 33, 97, 125]⟩ : ByteArray)] rfl (by (try simp only [List.map_toArray, List.map_cons, List.map_nil]); first | done | rfl | (simp only [List.length_drop, List.length_take]; rfl)) ?_; (with_reducible refine (tmpl_Parse.calls k (⟨#[120, 123, 33, 97, 125]⟩ : ByteArray) t106 t107 t108 _ (hG.keepAt (Nat.le_refl _) (by repeat (first | (with_reducible first | exact HB.out | apply below_alloc | apply pw_below_drewN | apply below_drew1) | exact HB.out))) A2.out).mono ?_); rintro e w30 ⟨v109, rfl, ho0, hb⟩; refine ⟨_, rfl, ?_⟩; have n0_ := Aside0.mk (Kd.S_elder' (by (with_reducible repeat (first | apply Kd.S_alloc | apply Kd.S_drewN | apply Kd.S_drew)); exact HO105.out) (Kd.S_base ho0) hb); have n1_ := Aside0.mk (Kd.S_lower (Kd.S_new' ho0 (Kd.S_lt (by (with_reducible repeat (first | apply Kd.S_alloc | apply Kd.S_drewN | apply Kd.S_drew)); exact HO105.out))) (below_size (by repeat (first | (with_reducible first | exact HB.out | apply below_alloc | apply pw_below_drewN | apply below_drew1) | exact HB.out)))); have n2_ := Aside0.mk (below_step (by repeat (first | (with_reducible first | exact HB.out | apply below_alloc | apply pw_below_drewN | apply below_drew1) | exact HB.out)) hb); clear HO105; clear HB; have HO105 := n0_; have HO110 := n1_; have HB := n2_; clear n0_ n1_ n2_; (try clear hb); (try clear hb2); (try clear hk); (try clear hi); (try clear ho0); obtain ⟨Ao31, co31, eo31⟩ := Kd.S_slice HO105.out; subst eo31; have p111 : 0 ≤ (0 : Int) := (by omega); have q111 : 0 < (t101.length : Int) := of_decide_eq_true (by first | (with_reducible assumption) | assumption); obtain ⟨ad111, A111_2, c111_2, e111, hx111_0, hx111_1, hx111_2, hl111_2, hi111_2⟩ := at_T41 (Kd.S_reads' HO105.out).2.2 0 p111 q111; cases e111; obtain ⟨ce111, hce111, hMe111, hcc111⟩ := Kd.S_get HO105.out z41 0 p111 (by first | exact q111 | exact of_decide_eq_true (by first | (with_reducible assumption) | assumption) | (have e_ := (Kd.S_reads' HO105.out).1; omega)); obtain ⟨ve111_2, rfl, ge111_2⟩ := k41_openM hMe111; have hv111_2 := hcc111 2 _ rfl; rw [add_field _ _ 2 (by omega)] at hv111_2; replace hv111_2 := Option.some.inj (hv111_2.symm.trans hx111_2); rw [hv111_2] at ge111_2; have HL111_2 := Aside0.mk (show Kd.R k43 43 _ _ _ _ ((rd_T41 t101 0).f2) from ge111_2); clear hv111_2 ge111_2; clear hcc111 hce111; have qi111 : (0 < t101.length) = True := eq_true (by omega); (try rw [show ((0 : Int)).toNat = 0 from rfl] at hx111_0); (try rw [show 0 * 3 = 0 from rfl] at hx111_0); (try rw [Addr.add_zero'] at hx111_0); (try rw [show ((0 : Int)).toNat = 0 from rfl] at hx111_1); (try rw [show 0 * 3 = 0 from rfl] at hx111_1); (try rw [Addr.add_zero'] at hx111_1); (try rw [show ((0 : Int)).toNat = 0 from rfl] at hx111_2); (try rw [show 0 * 3 = 0 from rfl] at hx111_2); (try rw [Addr.add_zero'] at hx111_2); have HR111_2 := Aside0.mk hi111_2; have HC111_2 := Aside0.mk hl111_2; clear hi111_2 hl111_2; replace p111 := eq_true p111; replace q111 := eq_true q111))
           go_ret
           exact ⟨by first | rfl | (simp [errW_none, errW_some] <;> rfl) | (simp [*, errW_none, errW_some] <;> rfl), by repeat (first | (with_reducible first | exact HB.out | apply below_alloc | apply pw_below_drewN | apply below_drew1) | exact HB.out)⟩
       · rw [if_neg c6] at H
         exact absurd H (by simp)
     · rw [if_neg c5] at H
       have c5b0 : ((t101.length : Int) == 2) = false := beq_eq_false_iff_ne.mpr c5
       have c5b1 : ((t101.length : Int) != 2) = true := bne_iff_ne.mpr c5
       obtain rfl := Option.some.inj H
       go_enter Tryz.func5, Tryz.ntmps5
       go_wp2_with (first | ((with_reducible refine gate_callee (f := 6) rfl ?_); refine goesL_ (some 8) rfl rfl Tryz.func6 (by kernel_rfl) rfl #[.string (⟨#[120, 123, 63, 97, 44, 98, 42, 125]⟩ : ByteArray)] rfl (by (try simp only [List.map_toArray, List.map_cons, List.map_nil]); first | done | rfl | (simp only [List.length_drop, List.length_take]; rfl)) ?_; (with_reducible refine (tmpl_Parse.calls k (⟨#[120, 123, 63, 97, 44, 98, 42, 125]⟩ : ByteArray) t101 t102 t103 _ (hG.keepAt (Nat.le_refl _) (by repeat (first | (with_reducible first | exact HB.out | apply below_alloc | apply pw_below_drewN | apply below_drew1) | exact HB.out))) A1.out).mono ?_); rintro e w32 ⟨v104, rfl, ho0, hb⟩; refine ⟨_, rfl, ?_⟩; have n0_ := Aside0.mk (Kd.S_lower ho0 (below_size (by repeat (first | (with_reducible first | exact HB.out | apply below_alloc | apply pw_below_drewN | apply below_drew1) | exact HB.out)))); have n1_ := Aside0.mk (below_step (by repeat (first | (with_reducible first | exact HB.out | apply below_alloc | apply pw_below_drewN | apply below_drew1) | exact HB.out)) hb); clear HB; have HO105 := n0_; have HB := n1_; clear n0_ n1_; (try clear hb); (try clear hb2); (try clear hk); (try clear hi); (try clear ho0)) | ((with_reducible refine gate_callee (f := 6) rfl ?_); refine goesL_ (some 13) rfl rfl Tryz.func6 (by kernel_rfl) rfl #[.string (⟨#[120, 123, 33, 97, 125]⟩ : ByteArray)] rfl (by (try simp only [List.map_toArray, List.map_cons, List.map_nil]); first | done | rfl | (simp only [List.length_drop, List.length_take]; rfl)) ?_; (with_reducible refine (tmpl_Parse.calls k (⟨#[120, 123, 33, 97, 125]⟩ : ByteArray) t106 t107 t108 _ (hG.keepAt (Nat.le_refl _) (by repeat (first | (with_reducible first | exact HB.out | apply below_alloc | apply pw_below_drewN | apply below_drew1) | exact HB.out))) A2.out).mono ?_); rintro e w33 ⟨v109, rfl, ho0, hb⟩; refine ⟨_, rfl, ?_⟩; have n0_ := Aside0.mk (Kd.S_elder' (by (with_reducible repeat (first | apply Kd.S_alloc | apply Kd.S_drewN | apply Kd.S_drew)); exact HO105.out) (Kd.S_base ho0) hb); have n1_ := Aside0.mk (Kd.S_lower (Kd.S_new' ho0 (Kd.S_lt (by (with_reducible repeat (first | apply Kd.S_alloc | apply Kd.S_drewN | apply Kd.S_drew)); exact HO105.out))) (below_size (by repeat (first | (with_reducible first | exact HB.out | apply below_alloc | apply pw_below_drewN | apply below_drew1) | exact HB.out)))); have n2_ := Aside0.mk (below_step (by repeat (first | (with_reducible first | exact HB.out | apply below_alloc | apply pw_below_drewN | apply below_drew1) | exact HB.out)) hb); clear HO105; clear HB; have HO105 := n0_; have HO110 := n1_; have HB := n2_; clear n0_ n1_ n2_; (try clear hb); (try clear hb2); (try clear hk); (try clear hi); (try clear ho0); obtain ⟨Ao34, co34, eo34⟩ := Kd.S_slice HO105.out; subst eo34))
       go_ret
       exact ⟨by first | rfl | (simp [errW_none, errW_some] <;> rfl) | (simp [*, errW_none, errW_some] <;> rfl), by repeat (first | (with_reducible first | exact HB.out | apply below_alloc | apply pw_below_drewN | apply below_drew1) | exact HB.out)⟩
   · rw [if_neg c4] at H
     have c4b0 : (t102 == 8) = false := beq_eq_false_iff_ne.mpr c4
     have c4b1 : (t102 != 8) = true := bne_iff_ne.mpr c4
     obtain rfl := Option.some.inj H
     go_enter Tryz.func5, Tryz.ntmps5
     go_wp2_with (first | ((with_reducible refine gate_callee (f := 6) rfl ?_); refine goesL_ (some 8) rfl rfl Tryz.func6 (by kernel_rfl) rfl #[.string (⟨#[120, 123, 63, 97, 44, 98, 42, 125]⟩ : ByteArray)] rfl (by (try simp only [List.map_toArray, List.map_cons, List.map_nil]); first | done | rfl | (simp only [List.length_drop, List.length_take]; rfl)) ?_; (with_reducible refine (tmpl_Parse.calls k (⟨#[120, 123, 63, 97, 44, 98, 42, 125]⟩ : ByteArray) t101 t102 t103 _ (hG.keepAt (Nat.le_refl _) (by repeat (first | (with_reducible first | exact HB.out | apply below_alloc | apply pw_below_drewN | apply below_drew1) | exact HB.out))) A1.out).mono ?_); rintro e w35 ⟨v104, rfl, ho0, hb⟩; refine ⟨_, rfl, ?_⟩; have n0_ := Aside0.mk (Kd.S_lower ho0 (below_size (by repeat (first | (with_reducible first | exact HB.out | apply below_alloc | apply pw_below_drewN | apply below_drew1) | exact HB.out)))); have n1_ := Aside0.mk (below_step (by repeat (first | (with_reducible first | exact HB.out | apply below_alloc | apply pw_below_drewN | apply below_drew1) | exact HB.out)) hb); clear HB; have HO105 := n0_; have HB := n1_; clear n0_ n1_; (try clear hb); (try clear hb2); (try clear hk); (try clear hi); (try clear ho0)) | ((with_reducible refine gate_callee (f := 6) rfl ?_); refine goesL_ (some 13) rfl rfl Tryz.func6 (by kernel_rfl) rfl #[.string (⟨#[120, 123, 33, 97, 125]⟩ : ByteArray)] rfl (by (try simp only [List.map_toArray, List.map_cons, List.map_nil]); first | done | rfl | (simp only [List.length_drop, List.length_take]; rfl)) ?_; (with_reducible refine (tmpl_Parse.calls k (⟨#[120, 123, 33, 97, 125]⟩ : ByteArray) t106 t107 t108 _ (hG.keepAt (Nat.le_refl _) (by repeat (first | (with_reducible first | exact HB.out | apply below_alloc | apply pw_below_drewN | apply below_drew1) | exact HB.out))) A2.out).mono ?_); rintro e w36 ⟨v109, rfl, ho0, hb⟩; refine ⟨_, rfl, ?_⟩; have n0_ := Aside0.mk (Kd.S_elder' (by (with_reducible repeat (first | apply Kd.S_alloc | apply Kd.S_drewN | apply Kd.S_drew)); exact HO105.out) (Kd.S_base ho0) hb); have n1_ := Aside0.mk (Kd.S_lower (Kd.S_new' ho0 (Kd.S_lt (by (with_reducible repeat (first | apply Kd.S_alloc | apply Kd.S_drewN | apply Kd.S_drew)); exact HO105.out))) (below_size (by repeat (first | (with_reducible first | exact HB.out | apply below_alloc | apply pw_below_drewN | apply below_drew1) | exact HB.out)))); have n2_ := Aside0.mk (below_step (by repeat (first | (with_reducible first | exact HB.out | apply below_alloc | apply pw_below_drewN | apply below_drew1) | exact HB.out)) hb); clear HO105; clear HB; have HO105 := n0_; have HO110 := n1_; have HB := n2_; clear n0_ n1_ n2_; (try clear hb); (try clear hb2); (try clear hk); (try clear hi); (try clear ho0)))
     go_ret
     exact ⟨by first | rfl | (simp [errW_none, errW_some] <;> rfl) | (simp [*, errW_none, errW_some] <;> rfl), by repeat (first | (with_reducible first | exact HB.out | apply below_alloc | apply pw_below_drewN | apply below_drew1) | exact HB.out)⟩
 · rw [if_neg c3] at H
   have c3b0 : (t103 == 0) = false := beq_eq_false_iff_ne.mpr c3
   have c3b1 : (t103 != 0) = true := bne_iff_ne.mpr c3
   obtain rfl := Option.some.inj H
   go_enter Tryz.func5, Tryz.ntmps5
   go_wp2_with (first | ((with_reducible refine gate_callee (f := 6) rfl ?_); refine goesL_ (some 8) rfl rfl Tryz.func6 (by kernel_rfl) rfl #[.string (⟨#[120, 123, 63, 97, 44, 98, 42, 125]⟩ : ByteArray)] rfl (by (try simp only [List.map_toArray, List.map_cons, List.map_nil]); first | done | rfl | (simp only [List.length_drop, List.length_take]; rfl)) ?_; (with_reducible refine (tmpl_Parse.calls k (⟨#[120, 123, 63, 97, 44, 98, 42, 125]⟩ : ByteArray) t101 t102 t103 _ (hG.keepAt (Nat.le_refl _) (by repeat (first | (with_reducible first | exact HB.out | apply below_alloc | apply pw_below_drewN | apply below_drew1) | exact HB.out))) A1.out).mono ?_); rintro e w37 ⟨v104, rfl, ho0, hb⟩; refine ⟨_, rfl, ?_⟩; have n0_ := Aside0.mk (Kd.S_lower ho0 (below_size (by repeat (first | (with_reducible first | exact HB.out | apply below_alloc | apply pw_below_drewN | apply below_drew1) | exact HB.out)))); have n1_ := Aside0.mk (below_step (by repeat (first | (with_reducible first | exact HB.out | apply below_alloc | apply pw_below_drewN | apply below_drew1) | exact HB.out)) hb); clear HB; have HO105 := n0_; have HB := n1_; clear n0_ n1_; (try clear hb); (try clear hb2); (try clear hk); (try clear hi); (try clear ho0)) | ((with_reducible refine gate_callee (f := 6) rfl ?_); refine goesL_ (some 13) rfl rfl Tryz.func6 (by kernel_rfl) rfl #[.string (⟨#[120, 123, 33, 97, 125]⟩ : ByteArray)] rfl (by (try simp only [List.map_toArray, List.map_cons, List.map_nil]); first | done | rfl | (simp only [List.length_drop, List.length_take]; rfl)) ?_; (with_reducible refine (tmpl_Parse.calls k (⟨#[120, 123, 33, 97, 125]⟩ : ByteArray) t106 t107 t108 _ (hG.keepAt (Nat.le_refl _) (by repeat (first | (with_reducible first | exact HB.out | apply below_alloc | apply pw_below_drewN | apply below_drew1) | exact HB.out))) A2.out).mono ?_); rintro e w38 ⟨v109, rfl, ho0, hb⟩; refine ⟨_, rfl, ?_⟩; have n0_ := Aside0.mk (Kd.S_elder' (by (with_reducible repeat (first | apply Kd.S_alloc | apply Kd.S_drewN | apply Kd.S_drew)); exact HO105.out) (Kd.S_base ho0) hb); have n1_ := Aside0.mk (Kd.S_lower (Kd.S_new' ho0 (Kd.S_lt (by (with_reducible repeat (first | apply Kd.S_alloc | apply Kd.S_drewN | apply Kd.S_drew)); exact HO105.out))) (below_size (by repeat (first | (with_reducible first | exact HB.out | apply below_alloc | apply pw_below_drewN | apply below_drew1) | exact HB.out)))); have n2_ := Aside0.mk (below_step (by repeat (first | (with_reducible first | exact HB.out | apply below_alloc | apply pw_below_drewN | apply below_drew1) | exact HB.out)) hb); clear HO105; clear HB; have HO105 := n0_; have HO110 := n1_; have HB := n2_; clear n0_ n1_ n2_; (try clear hb); (try clear hb2); (try clear hk); (try clear hi); (try clear ho0)))
   go_ret
   exact ⟨by first | rfl | (simp [errW_none, errW_some] <;> rfl) | (simp [*, errW_none, errW_some] <;> rfl), by repeat (first | (with_reducible first | exact HB.out | apply below_alloc | apply pw_below_drewN | apply below_drew1) | exact HB.out)⟩
end Go.Proofs.YtkipkbggnfllkaaGreatDoor.P
end
section
namespace Go.Proofs.YtkipkbggnfllkaaGreatDoor.P
open Go.RowKit Go.Proofs.YtkipkbggnfllkaaGreatDoorW.PrintWords Go.Proofs.YtkipkbggnfllkaaGreatDoorW.PrintLast Go.Proofs.YtkipkbggnfllkaaGreatDoorW.PrintMore
attribute [local go_sem] max2_int min2_int max_two min_two max_three min_three max_four min_four
set_option linter.unusedVariables false
set_option linter.unusedSimpArgs false
def lw_TmplTells.f (k : Nat) (l0 : List (S41)) (a1 : Int) : Option (Bool) := (lw_awake.f k).bind fun t324 => ((rf07_Few.f k l0).bind fun t325 => (if t325 = true then ((rf07_Names.f k l0).bind fun t326 => (if t324 = true then ((tmpl_May.f k l0).bind fun t329 => ((rf07_May.f k l0).bind fun t330 => (if (t329 == t330) = true then ((tmpl_Put.f l0).bind fun t331 => ((rf07_Put.f k l0).bind fun t332 => (if t331.toList = t332.toList then ((tmpl_Names.f k l0).bind fun t333 => ((rf05_Texts.f k t333 t326).bind fun t336 => (if t336 = true then ((tmpl_Once.f k l0).bind fun t337 => ((rf07_Many.f k l0).bind fun t338 => (if (t337 == ((t326.length : Int) == t338)) = true then ((tmpl_Operator.f a1).bind fun t339 => ((rf07_Operator.f k a1).bind fun t340 => (some (t339 == t340)))) else (some false)))) else (some false)))) else (some false)))) else (some false)))) else (some false))) else (some t324)))
set_option maxHeartbeats 8000000 in
set_option maxRecDepth 100000 in
theorem lw_TmplTells.calls (k : Nat) (A0 : Option Addr) (c0 : Nat) (l0 : List (S41)) (a1 : Int) (r : Bool) (w : World) (hG : Gl w) (hr0 : Kd.C k41 w A0 l0.length l0) (hc0 : l0.length ≤ c0) (h : lw_TmplTells.f k l0 a1 = some r) :
 Calls Tryz.prog 4 #[.slice A0 l0.length c0, .int .u8 a1] w fun e w' => e = .returned (.bool r) ∧ Below w.heap.size w w' := by
 have HR0 := Aside0.mk hr0
 have HC0 := Aside0.mk hc0
 clear hr0 hc0
 have HB := Aside0.mk (Below.refl w.heap.size w)
 have H : ((lw_awake.f k).bind fun t324 => ((rf07_Few.f k l0).bind fun t325 => (if t325 = true then ((rf07_Names.f k l0).bind fun t326 => (if t324 = true then ((tmpl_May.f k l0).bind fun t329 => ((rf07_May.f k l0).bind fun t330 => (if (t329 == t330) = true then ((tmpl_Put.f l0).bind fun t331 => ((rf07_Put.f k l0).bind fun t332 => (if t331.toList = t332.toList then ((tmpl_Names.f k l0).bind fun t333 => ((rf05_Texts.f k t333 t326).bind fun t336 => (if t336 = true then ((tmpl_Once.f k l0).bind fun t337 => ((rf07_Many.f k l0).bind fun t338 => (if (t337 == ((t326.length : Int) == t338)) = true then ((tmpl_Operator.f a1).bind fun t339 => ((rf07_Operator.f k a1).bind fun t340 => (some (t339 == t340)))) else (some false)))) else (some false)))) else (some false)))) else (some false)))) else (some false))) else (some t324)))) = some r := h
 clear h
 replace H := Option.bind_eq_some_iff.mp H
 obtain ⟨t324, A30, H⟩ := H
 replace H : ((rf07_Few.f k l0).bind fun t325 => (if t325 = true then ((rf07_Names.f k l0).bind fun t326 => (if t324 = true then ((tmpl_May.f k l0).bind fun t329 => ((rf07_May.f k l0).bind fun t330 => (if (t329 == t330) = true then ((tmpl_Put.f l0).bind fun t331 => ((rf07_Put.f k l0).bind fun t332 => (if t331.toList = t332.toList then ((tmpl_Names.f k l0).bind fun t333 => ((rf05_Texts.f k t333 t326).bind fun t336 => (if t336 = true then ((tmpl_Once.f k l0).bind fun t337 => ((rf07_Many.f k l0).bind fun t338 => (if (t337 == ((t326.length : Int) == t338)) = true then ((tmpl_Operator.f a1).bind fun t339 => ((rf07_Operator.f k a1).bind fun t340 => (some (t339 == t340)))) else (some false)))) else (some false)))) else (some false)))) else (some false)))) else (some false))) else (some t324))) = some r := H
 have A3 := Aside0.mk A30
 clear A30
 replace H := Option.bind_eq_some_iff.mp H
 obtain ⟨t325, A40, H⟩ := H
 replace H : (if t325 = true then ((rf07_Names.f k l0).bind fun t326 => (if t324 = true then ((tmpl_May.f k l0).bind fun t329 => ((rf07_May.f k l0).bind fun t330 => (if (t329 == t330) = true then ((tmpl_Put.f l0).bind fun t331 => ((rf07_Put.f k l0).bind fun t332 => (if t331.toList = t332.toList then ((tmpl_Names.f k l0).bind fun t333 => ((rf05_Texts.f k t333 t326).bind fun t336 => (if t336 = true then ((tmpl_Once.f k l0).bind fun t337 => ((rf07_Many.f k l0).bind fun t338 => (if (t337 == ((t326.length : Int) == t338)) = true then ((tmpl_Operator.f a1).bind fun t339 => ((rf07_Operator.f k a1).bind fun t340 => (some (t339 == t340)))) else (some false)))) else (some false)))) else (some false)))) else (some false)))) else (some false))) else (some t324)) = some r := H
 have A4 := Aside0.mk A40
 clear A40
 by_cases c5 : t325 = true
 · subst c5
   have H1 : ((rf07_Names.f k l0).bind fun t326 => (if t324 = true then ((tmpl_May.f k l0).bind fun t329 => ((rf07_May.f k l0).bind fun t330 => (if (t329 == t330) = true then ((tmpl_Put.f l0).bind fun t331 => ((rf07_Put.f k l0).bind fun t332 => (if t331.toList = t332.toList then ((tmpl_Names.f k l0).bind fun t333 => ((rf05_Texts.f k t333 t326).bind fun t336 => (if t336 = true then ((tmpl_Once.f k l0).bind fun t337 => ((rf07_Many.f k l0).bind fun t338 => (if (t337 == ((t326.length : Int) == t338)) = true then ((tmpl_Operator.f a1).bind fun t339 => ((rf07_Operator.f k a1).bind fun t340 => (some (t339 == t340)))) else (some false)))) else (some false)))) else (some false)))) else (some false)))) else (some false))) = some r := by rw [if_pos rfl] at H; exact H
   clear H
   have H := H1
   clear H1
   replace H := Option.bind_eq_some_iff.mp H
   obtain ⟨t326, A60, H⟩ := H
   replace H : (if t324 = true then ((tmpl_May.f k l0).bind fun t329 => ((rf07_May.f k l0).bind fun t330 => (if (t329 == t330) = true then ((tmpl_Put.f l0).bind fun t331 => ((rf07_Put.f k l0).bind fun t332 => (if t331.toList = t332.toList then ((tmpl_Names.f k l0).bind fun t333 => ((rf05_Texts.f k t333 t326).bind fun t336 => (if t336 = true then ((tmpl_Once.f k l0).bind fun t337 => ((rf07_Many.f k l0).bind fun t338 => (if (t337 == ((t326.length : Int) == t338)) = true then ((tmpl_Operator.f a1).bind fun t339 => ((rf07_Operator.f k a1).bind fun t340 => (some (t339 == t340)))) else (some false)))) else (some false)))) else (some false)))) else (some false)))) else (some false)) = some r := H
   have A6 := Aside0.mk A60
   clear A60
   by_cases c7 : t324 = true
   · subst c7
     have H1 : ((tmpl_May.f k l0).bind fun t329 => ((rf07_May.f k l0).bind fun t330 => (if (t329 == t330) = true then ((tmpl_Put.f l0).bind fun t331 => ((rf07_Put.f k l0).bind fun t332 => (if t331.toList = t332.toList then ((tmpl_Names.f k l0).bind fun t333 => ((rf05_Texts.f k t333 t326).bind fun t336 => (if t336 = true then ((tmpl_Once.f k l0).bind fun t337 => ((rf07_Many.f k l0).bind fun t338 => (if (t337 == ((t326.length : Int) == t338)) = true then ((tmpl_Operator.f a1).bind fun t339 => ((rf07_Operator.f k a1).bind fun t340 => (some (t339 == t340)))) else (some false)))) else (some false)))) else (some false)))) else (some false)))) = some r := by rw [if_pos rfl] at H; exact H
     clear H
     have H := H1
     clear H1
     replace H := Option.bind_eq_some_iff.mp H
     obtain ⟨t329, A80, H⟩ := H
     replace H : ((rf07_May.f k l0).bind fun t330 => (if (t329 == t330) = true then ((tmpl_Put.f l0).bind fun t331 => ((rf07_Put.f k l0).bind fun t332 => (if t331.toList = t332.toList then ((tmpl_Names.f k l0).bind fun t333 => ((rf05_Texts.f k t333 t326).bind fun t336 => (if t336 = true then ((tmpl_Once.f k l0).bind fun t337 => ((rf07_Many.f k l0).bind fun t338 => (if (t337 == ((t326.length : Int) == t338)) = true then ((tmpl_Operator.f a1).bind fun t339 => ((rf07_Operator.f k a1).bind fun t340 => (some (t339 == t340)))) else (some false)))) else (some false)))) else (some false)))) else (some false))) = some r := H
     have A8 := Aside0.mk A80
     clear A80
     replace H := Option.bind_eq_some_iff.mp H
     obtain ⟨t330, A90, H⟩ := H
     replace H : (if (t329 == t330) = true then ((tmpl_Put.f l0).bind fun t331 => ((rf07_Put.f k l0).bind fun t332 => (if t331.toList = t332.toList then ((tmpl_Names.f k l0).bind fun t333 => ((rf05_Texts.f k t333 t326).bind fun t336 => (if t336 = true then ((tmpl_Once.f k l0).bind fun t337 => ((rf07_Many.f k l0).bind fun t338 => (if (t337 == ((t326.length : Int) == t338)) = true then ((tmpl_Operator.f a1).bind fun t339 => ((rf07_Operator.f k a1).bind fun t340 => (some (t339 == t340)))) else (some false)))) else (some false)))) else (some false)))) else (some false)) = some r := H
     have A9 := Aside0.mk A90
     clear A90
     by_cases c10 : (t329 == t330) = true
     · rw [if_pos c10] at H
       have c10b0 : (t329 == t330) = true := c10
       (try (have c10b1 : decide (t329 = t330) = true := by simpa using c10))
       (try (have c10b2 : (t329 == t330) = true := by simpa using c10))
       clear c10
       replace H := Option.bind_eq_some_iff.mp H
       obtain ⟨t331, A110, H⟩ := H
       replace H : ((rf07_Put.f k l0).bind fun t332 => (if t331.toList = t332.toList then ((tmpl_Names.f k l0).bind fun t333 => ((rf05_Texts.f k t333 t326).bind fun t336 => (if t336 = true then ((tmpl_Once.f k l0).bind fun t337 => ((rf07_Many.f k l0).bind fun t338 => (if (t337 == ((t326.length : Int) == t338)) = true then ((tmpl_Operator.f a1).bind fun t339 => ((rf07_Operator.f k a1).bind fun t340 => (some (t339 == t340)))) else (some false)))) else (some false)))) else (some false))) = some r := H
       have A11 := Aside0.mk A110
       clear A110
       replace H := Option.bind_eq_some_iff.mp H
       obtain ⟨t332, A120, H⟩ := H
       replace H : (if t331.toList = t332.toList then ((tmpl_Names.f k l0).bind fun t333 => ((rf05_Texts.f k t333 t326).bind fun t336 => (if t336 = true then ((tmpl_Once.f k l0).bind fun t337 => ((rf07_Many.f k l0).bind fun t338 => (if (t337 == ((t326.length : Int) == t338)) = true then ((tmpl_Operator.f a1).bind fun t339 => ((rf07_Operator.f k a1).bind fun t340 => (some (t339 == t340)))) else (some false)))) else (some false)))) else (some false)) = some r := H
       have A12 := Aside0.mk A120
       clear A120
       by_cases c13 : t331.toList = t332.toList
       · rw [if_pos c13] at H
         have c13b0 : (t331.toList == t332.toList) = true := beq_iff_eq.mpr c13
         have c13b1 : (t331.toList != t332.toList) = false := bne_eq_false_iff_eq.mpr c13
         clear c13
         replace H := Option.bind_eq_some_iff.mp H
         obtain ⟨t333, A140, H⟩ := H
         replace H : ((rf05_Texts.f k t333 t326).bind fun t336 => (if t336 = true then ((tmpl_Once.f k l0).bind fun t337 => ((rf07_Many.f k l0).bind fun t338 => (if (t337 == ((t326.length : Int) == t338)) = true then ((tmpl_Operator.f a1).bind fun t339 => ((rf07_Operator.f k a1).bind fun t340 => (some (t339 == t340)))) else (some false)))) else (some false))) = some r := H
         have A14 := Aside0.mk A140
         clear A140
         replace H := Option.bind_eq_some_iff.mp H
         obtain ⟨t336, A150, H⟩ := H
         replace H : (if t336 = true then ((tmpl_Once.f k l0).bind fun t337 => ((rf07_Many.f k l0).bind fun t338 => (if (t337 == ((t326.length : Int) == t338)) = true then ((tmpl_Operator.f a1).bind fun t339 => ((rf07_Operator.f k a1).bind fun t340 => (some (t339 == t340)))) else (some false)))) else (some false)) = some r := H
         have A15 := Aside0.mk A150
         clear A150
         by_cases c16 : t336 = true
         · subst c16
           have H1 : ((tmpl_Once.f k l0).bind fun t337 => ((rf07_Many.f k l0).bind fun t338 => (if (t337 == ((t326.length : Int) == t338)) = true then ((tmpl_Operator.f a1).bind fun t339 => ((rf07_Operator.f k a1).bind fun t340 => (some (t339 == t340)))) else (some false)))) = some r := by rw [if_pos rfl] at H; exact H
           clear H
           have H := H1
           clear H1
           replace H := Option.bind_eq_some_iff.mp H
           obtain ⟨t337, A170, H⟩ := H
           replace H : ((rf07_Many.f k l0).bind fun t338 => (if (t337 == ((t326.length : Int) == t338)) = true then ((tmpl_Operator.f a1).bind fun t339 => ((rf07_Operator.f k a1).bind fun t340 => (some (t339 == t340)))) else (some false))) = some r := H
           have A17 := Aside0.mk A170
           clear A170
           replace H := Option.bind_eq_some_iff.mp H
           obtain ⟨t338, A180, H⟩ := H
           replace H : (if (t337 == ((t326.length : Int) == t338)) = true then ((tmpl_Operator.f a1).bind fun t339 => ((rf07_Operator.f k a1).bind fun t340 => (some (t339 == t340)))) else (some false)) = some r := H
           have A18 := Aside0.mk A180
           clear A180
           by_cases c19 : (t337 == ((t326.length : Int) == t338)) = true
           · rw [if_pos c19] at H
             have c19b0 : (t337 == ((t326.length : Int) == t338)) = true := c19
             (try (have c19b1 : decide (t337 = ((t326.length : Int) == t338)) = true := by simpa using c19))
             (try (have c19b2 : (t337 == ((t326.length : Int) == t338)) = true := by simpa using c19))
             clear c19
             replace H := Option.bind_eq_some_iff.mp H
             obtain ⟨t339, A200, H⟩ := H
             replace H : ((rf07_Operator.f k a1).bind fun t340 => (some (t339 == t340))) = some r := H
             have A20 := Aside0.mk A200
             clear A200
             replace H := Option.bind_eq_some_iff.mp H
             obtain ⟨t340, A210, H⟩ := H
             replace H : (some (t339 == t340)) = some r := H
             have A21 := Aside0.mk A210
             clear A210
             obtain rfl := Option.some.inj H
             go_enter Tryz.func4, Tryz.ntmps4
             go_wp2_with (first | ((with_reducible refine gate_callee (f := 5) rfl ?_); refine goesL_ (some 7) rfl rfl Tryz.func5 (by kernel_rfl) rfl #[] rfl (by (try simp only [List.map_toArray, List.map_cons, List.map_nil]); first | done | rfl | (simp only [List.length_drop, List.length_take]; rfl)) ?_; (with_reducible refine (lw_awake.calls k  true _ (hG.keepAt (Nat.le_refl _) (by repeat (first | (with_reducible first | exact HB.out | apply below_alloc | apply pw_below_drewN | apply below_drew1) | exact HB.out))) A3.out).mono ?_); rintro e w22 ⟨rfl, hb⟩; refine ⟨_, rfl, ?_⟩; have n0_ := Aside0.mk (below_step (by repeat (first | (with_reducible first | exact HB.out | apply below_alloc | apply pw_below_drewN | apply below_drew1) | exact HB.out)) hb); clear HB; have HB := n0_; clear n0_; (try clear hb); (try clear hb2); (try clear hk); (try clear hi)) | ((with_reducible refine gate_callee (f := 9) rfl ?_); refine goesL_ (some 9) rfl rfl Tryz.func9 (by kernel_rfl) rfl #[.slice A0 l0.length c0] rfl (by (try simp only [List.map_toArray, List.map_cons, List.map_nil]); first | done | rfl | (simp only [List.length_drop, List.length_take]; rfl)) ?_; (with_reducible refine (rf07_Few.calls k _ _ l0 true _ ?side1 ?side2 A4.out).mono ?_); (case side1 => repeat (first | exact (Kd.C_below HR0.out HB.out) | (with_reducible refine Kd.C_alloc ?_ _) | (with_reducible refine Kd.C_drewN ?_ _) | (with_reducible refine Kd.C_drew ?_))); (case side2 => exact HC0.out); rintro e w' ⟨rfl, ⟨nd, rfl⟩⟩; refine ⟨_, rfl, ?_⟩) | ((with_reducible refine gate_callee (f := 10) rfl ?_); refine goesL_ (some 13) rfl rfl Tryz.func10 (by kernel_rfl) rfl #[.slice A0 l0.length c0] rfl (by (try simp only [List.map_toArray, List.map_cons, List.map_nil]); first | done | rfl | (simp only [List.length_drop, List.length_take]; rfl)) ?_; (with_reducible refine (rf07_Names.calls k _ _ l0 t326 _ ?side1 ?side2 A6.out).mono ?_); (case side1 => repeat (first | exact (Kd.C_below HR0.out (by repeat (first | (with_reducible first | exact HB.out | apply below_alloc | apply pw_below_drewN | apply below_drew1) | exact HB.out))) | (with_reducible refine Kd.C_alloc ?_ _) | (with_reducible refine Kd.C_drewN ?_ _) | (with_reducible refine Kd.C_drew ?_))); (case side2 => exact HC0.out); rintro e w23 ⟨v327, rfl, ho0, hb⟩; refine ⟨_, rfl, ?_⟩; have n0_ := Aside0.mk (Kd.R_lower ho0 (below_size (by repeat (first | (with_reducible first | exact HB.out | apply below_alloc | apply pw_below_drewN | apply below_drew1) | exact HB.out)))); have n1_ := Aside0.mk (below_step (by repeat (first | (with_reducible first | exact HB.out | apply below_alloc | apply pw_below_drewN | apply below_drew1) | exact HB.out)) hb); clear HB; have HO328 := n0_; have HB := n1_; clear n0_ n1_; (try clear hb); (try clear hb2); (try clear hk); (try clear hi); (try clear ho0)) | (go_at_call 11; (with_reducible refine (tmpl_May.calls k _ _ l0 t329 _ ?side1 ?side2 A8.out).mono ?_); (case side1 => repeat (first | exact (Kd.C_below HR0.out HB.out) | (with_reducible refine Kd.C_alloc ?_ _) | (with_reducible refine Kd.C_drewN ?_ _) | (with_reducible refine Kd.C_drew ?_))); (case side2 => exact HC0.out); rintro e w24 ⟨rfl, hb⟩; have n0_ := Aside0.mk (Kd.R_below (by (with_reducible repeat (first | apply Kd.R_alloc | apply Kd.R_drewN | apply Kd.R_drew)); exact HO328.out) hb); have n1_ := Aside0.mk (below_step (by repeat (first | (with_reducible first | exact HB.out | apply below_alloc | apply pw_below_drewN | apply below_drew1) | exact HB.out)) hb); clear HO328; clear HB; have HO328 := n0_; have HB := n1_; clear n0_ n1_; (try clear hb); (try clear hb2); (try clear hk); (try clear hi)) | (go_at_call 12; (with_reducible refine (rf07_May.calls k _ _ l0 t330 _ ?side1 ?side2 A9.out).mono ?_); (case side1 => repeat (first | exact (Kd.C_below HR0.out HB.out) | (with_reducible refine Kd.C_alloc ?_ _) | (with_reducible refine Kd.C_drewN ?_ _) | (with_reducible refine Kd.C_drew ?_))); (case side2 => exact HC0.out); rintro e w25 ⟨rfl, hb⟩; have n0_ := Aside0.mk (Kd.R_below (by (with_reducible repeat (first | apply Kd.R_alloc | apply Kd.R_drewN | apply Kd.R_drew)); exact HO328.out) hb); have n1_ := Aside0.mk (below_step (by repeat (first | (with_reducible first | exact HB.out | apply below_alloc | apply pw_below_drewN | apply below_drew1) | exact HB.out)) hb); clear HO328; clear HB; have HO328 := n0_; have HB := n1_; clear n0_ n1_; (try clear hb); (try clear hb2); (try clear hk); (try clear hi)) | (go_at_call 13; (with_reducible refine (tmpl_Put.calls _ _ l0 t331 _ (hG.keepAt (Nat.le_refl _) (by repeat (first | (with_reducible first | exact HB.out | apply below_alloc | apply pw_below_drewN | apply below_drew1) | exact HB.out))) ?side1 ?side2 A11.out).mono ?_); (case side1 => repeat (first | exact (Kd.C_below HR0.out HB.out) | (with_reducible refine Kd.C_alloc ?_ _) | (with_reducible refine Kd.C_drewN ?_ _) | (with_reducible refine Kd.C_drew ?_))); (case side2 => exact HC0.out); rintro e w26 ⟨rfl, hb⟩; have n0_ := Aside0.mk (Kd.R_below (by (with_reducible repeat (first | apply Kd.R_alloc | apply Kd.R_drewN | apply Kd.R_drew)); exact HO328.out) hb); have n1_ := Aside0.mk (below_step (by repeat (first | (with_reducible first | exact HB.out | apply below_alloc | apply pw_below_drewN | apply below_drew1) | exact HB.out)) hb); clear HO328; clear HB; have HO328 := n0_; have HB := n1_; clear n0_ n1_; (try clear hb); (try clear hb2); (try clear hk); (try clear hi)) | (go_at_call 14; (with_reducible refine (rf07_Put.calls k _ _ l0 t332 _ ?side1 ?side2 A12.out).mono ?_); (case side1 => repeat (first | exact (Kd.C_below HR0.out HB.out) | (with_reducible refine Kd.C_alloc ?_ _) | (with_reducible refine Kd.C_drewN ?_ _) | (with_reducible refine Kd.C_drew ?_))); (case side2 => exact HC0.out); rintro e w27 ⟨rfl, hb⟩; have n0_ := Aside0.mk (Kd.R_below (by (with_reducible repeat (first | apply Kd.R_alloc | apply Kd.R_drewN | apply Kd.R_drew)); exact HO328.out) hb); have n1_ := Aside0.mk (below_step (by repeat (first | (with_reducible first | exact HB.out | apply below_alloc | apply pw_below_drewN | apply below_drew1) | exact HB.out)) hb); clear HO328; clear HB; have HO328 := n0_; have HB := n1_; clear n0_ n1_; (try clear hb); (try clear hb2); (try clear hk); (try clear hi)) | (go_at_call 16; (with_reducible refine (tmpl_Names.calls k _ _ l0 t333 _ ?side1 ?side2 A14.out).mono ?_); (case side1 => repeat (first | exact (Kd.C_below HR0.out HB.out) | (with_reducible refine Kd.C_alloc ?_ _) | (with_reducible refine Kd.C_drewN ?_ _) | (with_reducible refine Kd.C_drew ?_))); (case side2 => exact HC0.out); rintro e w28 ⟨v334, rfl, ho0, hb⟩; have n0_ := Aside0.mk (Kd.R_elder' (by (with_reducible repeat (first | apply Kd.R_alloc | apply Kd.R_drewN | apply Kd.R_drew)); exact HO328.out) (Kd.R_base ho0) hb); have n1_ := Aside0.mk (Kd.R_lower (Kd.R_new' ho0 (Kd.R_lt (by (with_reducible repeat (first | apply Kd.R_alloc | apply Kd.R_drewN | apply Kd.R_drew)); exact HO328.out))) (below_size (by repeat (first | (with_reducible first | exact HB.out | apply below_alloc | apply pw_below_drewN | apply below_drew1) | exact HB.out)))); have n2_ := Aside0.mk (below_step (by repeat (first | (with_reducible first | exact HB.out | apply below_alloc | apply pw_below_drewN | apply below_drew1) | exact HB.out)) hb); clear HO328; clear HB; have HO328 := n0_; have HO335 := n1_; have HB := n2_; clear n0_ n1_ n2_; (try clear hb); (try clear hb2); (try clear hk); (try clear hi); (try clear ho0); obtain ⟨Ao29, co29, eo29⟩ := Kd.R_slice HO335.out; subst eo29; obtain ⟨Ao30, co30, eo30⟩ := Kd.R_slice HO328.out; subst eo30) | (go_at_call 15; (with_reducible refine (rf05_Texts.calls k _ _ t333 _ _ t326 true _ ?side1 ?side2 ?side3 ?side4 A15.out).mono ?_); (case side1 => repeat (first | exact (Kd.R_reads' HO335.out).2.2 | (with_reducible refine Kd.C_alloc ?_ _) | (with_reducible refine Kd.C_drewN ?_ _) | (with_reducible refine Kd.C_drew ?_))); (case side2 => exact (Kd.R_reads' HO335.out).2.1); (case side3 => repeat (first | exact (Kd.R_reads' HO328.out).2.2 | (with_reducible refine Kd.C_alloc ?_ _) | (with_reducible refine Kd.C_drewN ?_ _) | (with_reducible refine Kd.C_drew ?_))); (case side4 => exact (Kd.R_reads' HO328.out).2.1); rintro e w' ⟨rfl, ⟨nd, rfl⟩⟩) | (go_at_call 17; (with_reducible refine (tmpl_Once.calls k _ _ l0 t337 _ ?side1 ?side2 A17.out).mono ?_); (case side1 => repeat (first | exact (Kd.C_below HR0.out (by repeat (first | (with_reducible first | exact HB.out | apply below_alloc | apply pw_below_drewN | apply below_drew1) | exact HB.out))) | (with_reducible refine Kd.C_alloc ?_ _) | (with_reducible refine Kd.C_drewN ?_ _) | (with_reducible refine Kd.C_drew ?_))); (case side2 => exact HC0.out); rintro e w31 ⟨rfl, hb⟩; have n0_ := Aside0.mk (Kd.R_below (by (with_reducible repeat (first | apply Kd.R_alloc | apply Kd.R_drewN | apply Kd.R_drew)); exact HO328.out) hb); have n1_ := Aside0.mk (Kd.R_below (by (with_reducible repeat (first | apply Kd.R_alloc | apply Kd.R_drewN | apply Kd.R_drew)); exact HO335.out) hb); have n2_ := Aside0.mk (below_step (by repeat (first | (with_reducible first | exact HB.out | apply below_alloc | apply pw_below_drewN | apply below_drew1) | exact HB.out)) hb); clear HO328; clear HO335; clear HB; have HO328 := n0_; have HO335 := n1_; have HB := n2_; clear n0_ n1_ n2_; (try clear hb); (try clear hb2); (try clear hk); (try clear hi)) | (go_at_call 18; (with_reducible refine (rf07_Many.calls k _ _ l0 t338 _ ?side1 ?side2 A18.out).mono ?_); (case side1 => repeat (first | exact (Kd.C_below HR0.out HB.out) | (with_reducible refine Kd.C_alloc ?_ _) | (with_reducible refine Kd.C_drewN ?_ _) | (with_reducible refine Kd.C_drew ?_))); (case side2 => exact HC0.out); rintro e w' ⟨rfl, ⟨nd, rfl⟩⟩) | (go_at_call 19; (with_reducible refine (tmpl_Operator.calls a1 t339 _ A20.out).mono ?_); rintro e w' ⟨rfl, ⟨nd, rfl⟩⟩) | (go_at_call 20; (with_reducible refine (rf07_Operator.calls k a1 t340 _ A21.out).mono ?_); rintro e w' ⟨rfl, ⟨nd, rfl⟩⟩))
             go_ret
             exact ⟨by first | rfl | (simp [errW_none, errW_some] <;> rfl) | (simp [*, errW_none, errW_some] <;> rfl), by repeat (first | (with_reducible first | exact HB.out | apply below_alloc | apply pw_below_drewN | apply below_drew1) | exact HB.out)⟩
           · rw [if_neg c19] at H
             have c19b0 : (t337 == ((t326.length : Int) == t338)) = false := by simpa using c19
             (try (have c19b1 : decide (t337 = ((t326.length : Int) == t338)) = false := by simpa using c19))
             (try (have c19b2 : (t337 == ((t326.length : Int) == t338)) = false := by simpa using c19))
             (try (have c19b3 : ¬ (t337 = ((t326.length : Int) == t338)) := by simpa using c19))
             clear c19
             obtain rfl := Option.some.inj H
             go_enter Tryz.func4, Tryz.ntmps4
             go_wp2_with (first | ((with_reducible refine gate_callee (f := 5) rfl ?_); refine goesL_ (some 7) rfl rfl Tryz.func5 (by kernel_rfl) rfl #[] rfl (by (try simp only [List.map_toArray, List.map_cons, List.map_nil]); first | done | rfl | (simp only [List.length_drop, List.length_take]; rfl)) ?_; (with_reducible refine (lw_awake.calls k  true _ (hG.keepAt (Nat.le_refl _) (by repeat (first | (with_reducible first | exact HB.out | apply below_alloc | apply pw_below_drewN | apply below_drew1) | exact HB.out))) A3.out).mono ?_); rintro e w32 ⟨rfl, hb⟩; refine ⟨_, rfl, ?_⟩; have n0_ := Aside0.mk (below_step (by repeat (first | (with_reducible first | exact HB.out | apply below_alloc | apply pw_below_drewN | apply below_drew1) | exact HB.out)) hb); clear HB; have HB := n0_; clear n0_; (try clear hb); (try clear hb2); (try clear hk); (try clear hi)) | ((with_reducible refine gate_callee (f := 9) rfl ?_); refine goesL_ (some 9) rfl rfl Tryz.func9 (by kernel_rfl) rfl #[.slice A0 l0.length c0] rfl (by (try simp only [List.map_toArray, List.map_cons, List.map_nil]); first | done | rfl | (simp only [List.length_drop, List.length_take]; rfl)) ?_; (with_reducible refine (rf07_Few.calls k _ _ l0 true _ ?side1 ?side2 A4.out).mono ?_); (case side1 => repeat (first | exact (Kd.C_below HR0.out HB.out) | (with_reducible refine Kd.C_alloc ?_ _) | (with_reducible refine Kd.C_drewN ?_ _) | (with_reducible refine Kd.C_drew ?_))); (case side2 => exact HC0.out); rintro e w' ⟨rfl, ⟨nd, rfl⟩⟩; refine ⟨_, rfl, ?_⟩) | ((with_reducible refine gate_callee (f := 10) rfl ?_); refine goesL_ (some 13) rfl rfl Tryz.func10 (by kernel_rfl) rfl #[.slice A0 l0.length c0] rfl (by (try simp only [List.map_toArray, List.map_cons, List.map_nil]); first | done | rfl | (simp only [List.length_drop, List.length_take]; rfl)) ?_; (with_reducible refine (rf07_Names.calls k _ _ l0 t326 _ ?side1 ?side2 A6.out).mono ?_); (case side1 => repeat (first | exact (Kd.C_below HR0.out (by repeat (first | (with_reducible first | exact HB.out | apply below_alloc | apply pw_below_drewN | apply below_drew1) | exact HB.out))) | (with_reducible refine Kd.C_alloc ?_ _) | (with_reducible refine Kd.C_drewN ?_ _) | (with_reducible refine Kd.C_drew ?_))); (case side2 => exact HC0.out); rintro e w33 ⟨v327, rfl, ho0, hb⟩; refine ⟨_, rfl, ?_⟩; have n0_ := Aside0.mk (Kd.R_lower ho0 (below_size (by repeat (first | (with_reducible first | exact HB.out | apply below_alloc | apply pw_below_drewN | apply below_drew1) | exact HB.out)))); have n1_ := Aside0.mk (below_step (by repeat (first | (with_reducible first | exact HB.out | apply below_alloc | apply pw_below_drewN | apply below_drew1) | exact HB.out)) hb); clear HB; have HO328 := n0_; have HB := n1_; clear n0_ n1_; (try clear hb); (try clear hb2); (try clear hk); (try clear hi); (try clear ho0)) | (go_at_call 11; (with_reducible refine (tmpl_May.calls k _ _ l0 t329 _ ?side1 ?side2 A8.out).mono ?_); (case side1 => repeat (first | exact (Kd.C_below HR0.out HB.out) | (with_reducible refine Kd.C_alloc ?_ _) | (with_reducible refine Kd.C_drewN ?_ _) | (with_reducible refine Kd.C_drew ?_))); (case side2 => exact HC0.out); rintro e w34 ⟨rfl, hb⟩; have n0_ := Aside0.mk (Kd.R_below (by (with_reducible repeat (first | apply Kd.R_alloc | apply Kd.R_drewN | apply Kd.R_drew)); exact HO328.out) hb); have n1_ := Aside0.mk (below_step (by repeat (first | (with_reducible first | exact HB.out | apply below_alloc | apply pw_below_drewN | apply below_drew1) | exact HB.out)) hb); clear HO328; clear HB; have HO328 := n0_; have HB := n1_; clear n0_ n1_; (try clear hb); (try clear hb2); (try clear hk); (try clear hi)) | (go_at_call 12; (with_reducible refine (rf07_May.calls k _ _ l0 t330 _ ?side1 ?side2 A9.out).mono ?_); (case side1 => repeat (first | exact (Kd.C_below HR0.out HB.out) | (with_reducible refine Kd.C_alloc ?_ _) | (with_reducible refine Kd.C_drewN ?_ _) | (with_reducible refine Kd.C_drew ?_))); (case side2 => exact HC0.out); rintro e w35 ⟨rfl, hb⟩; have n0_ := Aside0.mk (Kd.R_below (by (with_reducible repeat (first | apply Kd.R_alloc | apply Kd.R_drewN | apply Kd.R_drew)); exact HO328.out) hb); have n1_ := Aside0.mk (below_step (by repeat (first | (with_reducible first | exact HB.out | apply below_alloc | apply pw_below_drewN | apply below_drew1) | exact HB.out)) hb); clear HO328; clear HB; have HO328 := n0_; have HB := n1_; clear n0_ n1_; (try clear hb); (try clear hb2); (try clear hk); (try clear hi)) | (go_at_call 13; (with_reducible refine (tmpl_Put.calls _ _ l0 t331 _ (hG.keepAt (Nat.le_refl _) (by repeat (first | (with_reducible first | exact HB.out | apply below_alloc | apply pw_below_drewN | apply below_drew1) | exact HB.out))) ?side1 ?side2 A11.out).mono ?_); (case side1 => repeat (first | exact (Kd.C_below HR0.out HB.out) | (with_reducible refine Kd.C_alloc ?_ _) | (with_reducible refine Kd.C_drewN ?_ _) | (with_reducible refine Kd.C_drew ?_))); (case side2 => exact HC0.out); rintro e w36 ⟨rfl, hb⟩; have n0_ := Aside0.mk (Kd.R_below (by (with_reducible repeat (first | apply Kd.R_alloc | apply Kd.R_drewN | apply Kd.R_drew)); exact HO328.out) hb); have n1_ := Aside0.mk (below_step (by repeat (first | (with_reducible first | exact HB.out | apply below_alloc | apply pw_below_drewN | apply below_drew1) | exact HB.out)) hb); clear HO328; clear HB; have HO328 := n0_; have HB := n1_; clear n0_ n1_; (try clear hb); (try clear hb2); (try clear hk); (try clear hi)) | (go_at_call 14; (with_reducible refine (rf07_Put.calls k _ _ l0 t332 _ ?side1 ?side2 A12.out).mono ?_); (case side1 => repeat (first | exact (Kd.C_below HR0.out HB.out) | (with_reducible refine Kd.C_alloc ?_ _) | (with_reducible refine Kd.C_drewN ?_ _) | (with_reducible refine Kd.C_drew ?_))); (case side2 => exact HC0.out); rintro e w37 ⟨rfl, hb⟩; have n0_ := Aside0.mk (Kd.R_below (by (with_reducible repeat (first | apply Kd.R_alloc | apply Kd.R_drewN | apply Kd.R_drew)); exact HO328.out) hb); have n1_ := Aside0.mk (below_step (by repeat (first | (with_reducible first | exact HB.out | apply below_alloc | apply pw_below_drewN | apply below_drew1) | exact HB.out)) hb); clear HO328; clear HB; have HO328 := n0_; have HB := n1_; clear n0_ n1_; (try clear hb); (try clear hb2); (try clear hk); (try clear hi)) | (go_at_call 16; (with_reducible refine (tmpl_Names.calls k _ _ l0 t333 _ ?side1 ?side2 A14.out).mono ?_); (case side1 => repeat (first | exact (Kd.C_below HR0.out HB.out) | (with_reducible refine Kd.C_alloc ?_ _) | (with_reducible refine Kd.C_drewN ?_ _) | (with_reducible refine Kd.C_drew ?_))); (case side2 => exact HC0.out); rintro e w38 ⟨v334, rfl, ho0, hb⟩; have n0_ := Aside0.mk (Kd.R_elder' (by (with_reducible repeat (first | apply Kd.R_alloc | apply Kd.R_drewN | apply Kd.R_drew)); exact HO328.out) (Kd.R_base ho0) hb); have n1_ := Aside0.mk (Kd.R_lower (Kd.R_new' ho0 (Kd.R_lt (by (with_reducible repeat (first | apply Kd.R_alloc | apply Kd.R_drewN | apply Kd.R_drew)); exact HO328.out))) (below_size (by repeat (first | (with_reducible first | exact HB.out | apply below_alloc | apply pw_below_drewN | apply below_drew1) | exact HB.out)))); have n2_ := Aside0.mk (below_step (by repeat (first | (with_reducible first | exact HB.out | apply below_alloc | apply pw_below_drewN | apply below_drew1) | exact HB.out)) hb); clear HO328; clear HB; have HO328 := n0_; have HO335 := n1_; have HB := n2_; clear n0_ n1_ n2_; (try clear hb); (try clear hb2); (try clear hk); (try clear hi); (try clear ho0); obtain ⟨Ao39, co39, eo39⟩ := Kd.R_slice HO335.out; subst eo39; obtain ⟨Ao40, co40, eo40⟩ := Kd.R_slice HO328.out; subst eo40) | (go_at_call 15; (with_reducible refine (rf05_Texts.calls k _ _ t333 _ _ t326 true _ ?side1 ?side2 ?side3 ?side4 A15.out).mono ?_); (case side1 => repeat (first | exact (Kd.R_reads' HO335.out).2.2 | (with_reducible refine Kd.C_alloc ?_ _) | (with_reducible refine Kd.C_drewN ?_ _) | (with_reducible refine Kd.C_drew ?_))); (case side2 => exact (Kd.R_reads' HO335.out).2.1); (case side3 => repeat (first | exact (Kd.R_reads' HO328.out).2.2 | (with_reducible refine Kd.C_alloc ?_ _) | (with_reducible refine Kd.C_drewN ?_ _) | (with_reducible refine Kd.C_drew ?_))); (case side4 => exact (Kd.R_reads' HO328.out).2.1); rintro e w' ⟨rfl, ⟨nd, rfl⟩⟩) | (go_at_call 17; (with_reducible refine (tmpl_Once.calls k _ _ l0 t337 _ ?side1 ?side2 A17.out).mono ?_); (case side1 => repeat (first | exact (Kd.C_below HR0.out (by repeat (first | (with_reducible first | exact HB.out | apply below_alloc | apply pw_below_drewN | apply below_drew1) | exact HB.out))) | (with_reducible refine Kd.C_alloc ?_ _) | (with_reducible refine Kd.C_drewN ?_ _) | (with_reducible refine Kd.C_drew ?_))); (case side2 => exact HC0.out); rintro e w41 ⟨rfl, hb⟩; have n0_ := Aside0.mk (Kd.R_below (by (with_reducible repeat (first | apply Kd.R_alloc | apply Kd.R_drewN | apply Kd.R_drew)); exact HO328.out) hb); have n1_ := Aside0.mk (Kd.R_below (by (with_reducible repeat (first | apply Kd.R_alloc | apply Kd.R_drewN | apply Kd.R_drew)); exact HO335.out) hb); have n2_ := Aside0.mk (below_step (by repeat (first | (with_reducible first | exact HB.out | apply below_alloc | apply pw_below_drewN | apply below_drew1) | exact HB.out)) hb); clear HO328; clear HO335; clear HB; have HO328 := n0_; have HO335 := n1_; have HB := n2_; clear n0_ n1_ n2_; (try clear hb); (try clear hb2); (try clear hk); (try clear hi)) | (go_at_call 18; (with_reducible refine (rf07_Many.calls k _ _ l0 t338 _ ?side1 ?side2 A18.out).mono ?_); (case side1 => repeat (first | exact (Kd.C_below HR0.out HB.out) | (with_reducible refine Kd.C_alloc ?_ _) | (with_reducible refine Kd.C_drewN ?_ _) | (with_reducible refine Kd.C_drew ?_))); (case side2 => exact HC0.out); rintro e w' ⟨rfl, ⟨nd, rfl⟩⟩))
             go_ret
             exact ⟨by first | rfl | (simp [errW_none, errW_some] <;> rfl) | (simp [*, errW_none, errW_some] <;> rfl), by repeat (first | (with_reducible first | exact HB.out | apply below_alloc | apply pw_below_drewN | apply below_drew1) | exact HB.out)⟩
         · replace c16 := Bool.eq_false_iff.mpr c16
           subst c16
           have H1 : (some false) = some r := by rw [if_neg (show ¬ (false = true) by decide)] at H; exact H
           clear H
           have H := H1
           clear H1
           obtain rfl := Option.some.inj H
           go_enter Tryz.func4, Tryz.ntmps4
           go_wp2_with (first | ((with_reducible refine gate_callee (f := 5) rfl ?_); refine goesL_ (some 7) rfl rfl Tryz.func5 (by kernel_rfl) rfl #[] rfl (by (try simp only [List.map_toArray, List.map_cons, List.map_nil]); first | done | rfl | (simp only [List.length_drop, List.length_take]; rfl)) ?_; (with_reducible refine (lw_awake.calls k  true _ (hG.keepAt (Nat.le_refl _) (by repeat (first | (with_reducible first | exact HB.out | apply below_alloc | apply pw_below_drewN | apply below_drew1) | exact HB.out))) A3.out).mono ?_); rintro e w42 ⟨rfl, hb⟩; refine ⟨_, rfl, ?_⟩; have n0_ := Aside0.mk (below_step (by repeat (first | (with_reducible first | exact HB.out | apply below_alloc | apply pw_below_drewN | apply below_drew1) | exact HB.out)) hb); clear HB; have HB := n0_; clear n0_; (try clear hb); (try clear hb2); (try clear hk); (try clear hi)) | ((with_reducible refine gate_callee (f := 9) rfl ?_); refine goesL_ (some 9) rfl rfl Tryz.func9 (by kernel_rfl) rfl #[.slice A0 l0.length c0] rfl (by (try simp only [List.map_toArray, List.map_cons, List.map_nil]); first | done | rfl | (simp only [List.length_drop, List.length_take]; rfl)) ?_; (with_reducible refine (rf07_Few.calls k _ _ l0 true _ ?side1 ?side2 A4.out).mono ?_); (case side1 => repeat (first | exact (Kd.C_below HR0.out HB.out) | (with_reducible refine Kd.C_alloc ?_ _) | (with_reducible refine Kd.C_drewN ?_ _) | (with_reducible refine Kd.C_drew ?_))); (case side2 => exact HC0.out); rintro e w' ⟨rfl, ⟨nd, rfl⟩⟩; refine ⟨_, rfl, ?_⟩) | ((with_reducible refine gate_callee (f := 10) rfl ?_); refine goesL_ (some 13) rfl rfl Tryz.func10 (by kernel_rfl) rfl #[.slice A0 l0.length c0] rfl (by (try simp only [List.map_toArray, List.map_cons, List.map_nil]); first | done | rfl | (simp only [List.length_drop, List.length_take]; rfl)) ?_; (with_reducible refine (rf07_Names.calls k _ _ l0 t326 _ ?side1 ?side2 A6.out).mono ?_); (case side1 => repeat (first | exact (Kd.C_below HR0.out (by repeat (first | (with_reducible first | exact HB.out | apply below_alloc | apply pw_below_drewN | apply below_drew1) | exact HB.out))) | (with_reducible refine Kd.C_alloc ?_ _) | (with_reducible refine Kd.C_drewN ?_ _) | (with_reducible refine Kd.C_drew ?_))); (case side2 => exact HC0.out); rintro e w43 ⟨v327, rfl, ho0, hb⟩; refine ⟨_, rfl, ?_⟩; have n0_ := Aside0.mk (Kd.R_lower ho0 (below_size (by repeat (first | (with_reducible first | exact HB.out | apply below_alloc | apply pw_below_drewN | apply below_drew1) | exact HB.out)))); have n1_ := Aside0.mk (below_step (by repeat (first | (with_reducible first | exact HB.out | apply below_alloc | apply pw_below_drewN | apply below_drew1) | exact HB.out)) hb); clear HB; have HO328 := n0_; have HB := n1_; clear n0_ n1_; (try clear hb); (try clear hb2); (try clear hk); (try clear hi); (try clear ho0)) | (go_at_call 11; (with_reducible refine (tmpl_May.calls k _ _ l0 t329 _ ?side1 ?side2 A8.out).mono ?_); (case side1 => repeat (first | exact (Kd.C_below HR0.out HB.out) | (with_reducible refine Kd.C_alloc ?_ _) | (with_reducible refine Kd.C_drewN ?_ _) | (with_reducible refine Kd.C_drew ?_))); (case side2 => exact HC0.out); rintro e w44 ⟨rfl, hb⟩; have n0_ := Aside0.mk (Kd.R_below (by (with_reducible repeat (first | apply Kd.R_alloc | apply Kd.R_drewN | apply Kd.R_drew)); exact HO328.out) hb); have n1_ := Aside0.mk (below_step (by repeat (first | (with_reducible first | exact HB.out | apply below_alloc | apply pw_below_drewN | apply below_drew1) | exact HB.out)) hb); clear HO328; clear HB; have HO328 := n0_; have HB := n1_; clear n0_ n1_; (try clear hb); (try clear hb2); (try clear hk); (try clear hi)) | (go_at_call 12; (with_reducible refine (rf07_May.calls k _ _ l0 t330 _ ?side1 ?side2 A9.out).mono ?_); (case side1 => repeat (first | exact (Kd.C_below HR0.out HB.out) | (with_reducible refine Kd.C_alloc ?_ _) | (with_reducible refine Kd.C_drewN ?_ _) | (with_reducible refine Kd.C_drew ?_))); (case side2 => exact HC0.out); rintro e w45 ⟨rfl, hb⟩; have n0_ := Aside0.mk (Kd.R_below (by (with_reducible repeat (first | apply Kd.R_alloc | apply Kd.R_drewN | apply Kd.R_drew)); exact HO328.out) hb); have n1_ := Aside0.mk (below_step (by repeat (first | (with_reducible first | exact HB.out | apply below_alloc | apply pw_below_drewN | apply below_drew1) | exact HB.out)) hb); clear HO328; clear HB; have HO328 := n0_; have HB := n1_; clear n0_ n1_; (try clear hb); (try clear hb2); (try clear hk); (try clear hi)) | (go_at_call 13; (with_reducible refine (tmpl_Put.calls _ _ l0 t331 _ (hG.keepAt (Nat.le_refl _) (by repeat (first | (with_reducible first | exact HB.out | apply below_alloc | apply pw_below_drewN | apply below_drew1) | exact HB.out))) ?side1 ?side2 A11.out).mono ?_); (case side1 => repeat (first | exact (Kd.C_below HR0.out HB.out) | (with_reducible refine Kd.C_alloc ?_ _) | (with_reducible refine Kd.C_drewN ?_ _) | (with_reducible refine Kd.C_drew ?_))); (case side2 => exact HC0.out); rintro e w46 ⟨rfl, hb⟩; have n0_ := Aside0.mk (Kd.R_below (by (with_reducible repeat (first | apply Kd.R_alloc | apply Kd.R_drewN | apply Kd.R_drew)); exact HO328.out) hb); have n1_ := Aside0.mk (below_step (by repeat (first | (with_reducible first | exact HB.out | apply below_alloc | apply pw_below_drewN | apply below_drew1) | exact HB.out)) hb); clear HO328; clear HB; have HO328 := n0_; have HB := n1_; clear n0_ n1_; (try clear hb); (try clear hb2); (try clear hk); (try clear hi)) | (go_at_call 14; (with_reducible refine (rf07_Put.calls k _ _ l0 t332 _ ?side1 ?side2 A12.out).mono ?_); (case side1 => repeat (first | exact (Kd.C_below HR0.out HB.out) | (with_reducible refine Kd.C_alloc ?_ _) | (with_reducible refine Kd.C_drewN ?_ _) | (with_reducible refine Kd.C_drew ?_))); (case side2 => exact HC0.out); rintro e w47 ⟨rfl, hb⟩; have n0_ := Aside0.mk (Kd.R_below (by (with_reducible repeat (first | apply Kd.R_alloc | apply Kd.R_drewN | apply Kd.R_drew)); exact HO328.out) hb); have n1_ := Aside0.mk (below_step (by repeat (first | (with_reducible first | exact HB.out | apply below_alloc | apply pw_below_drewN | apply below_drew1) | exact HB.out)) hb); clear HO328; clear HB; have HO328 := n0_; have HB := n1_; clear n0_ n1_; (try clear hb); (try clear hb2); (try clear hk); (try clear hi)) | (go_at_call 16; (with_reducible refine (tmpl_Names.calls k _ _ l0 t333 _ ?side1 ?side2 A14.out).mono ?_); (case side1 => repeat (first | exact (Kd.C_below HR0.out HB.out) | (with_reducible refine Kd.C_alloc ?_ _) | (with_reducible refine Kd.C_drewN ?_ _) | (with_reducible refine Kd.C_drew ?_))); (case side2 => exact HC0.out); rintro e w48 ⟨v334, rfl, ho0, hb⟩; have n0_ := Aside0.mk (Kd.R_elder' (by (with_reducible repeat (first | apply Kd.R_alloc | apply Kd.R_drewN | apply Kd.R_drew)); exact HO328.out) (Kd.R_base ho0) hb); have n1_ := Aside0.mk (Kd.R_lower (Kd.R_new' ho0 (Kd.R_lt (by (with_reducible repeat (first | apply Kd.R_alloc | apply Kd.R_drewN | apply Kd.R_drew)); exact HO328.out))) (below_size (by repeat (first | (with_reducible first | exact HB.out | apply below_alloc | apply pw_below_drewN | apply below_drew1) | exact HB.out)))); have n2_ := Aside0.mk (below_step (by repeat (first | (with_reducible first | exact HB.out | apply below_alloc | apply pw_below_drewN | apply below_drew1) | exact HB.out)) hb); clear HO328; clear HB; have HO328 := n0_; have HO335 := n1_; have HB := n2_; clear n0_ n1_ n2_; (try clear hb); (try clear hb2); (try clear hk); (try clear hi); (try clear ho0); obtain ⟨Ao49, co49, eo49⟩ := Kd.R_slice HO335.out; subst eo49; obtain ⟨Ao50, co50, eo50⟩ := Kd.R_slice HO328.out; subst eo50) | (go_at_call 15; (with_reducible refine (rf05_Texts.calls k _ _ t333 _ _ t326 false _ ?side1 ?side2 ?side3 ?side4 A15.out).mono ?_); (case side1 => repeat (first | exact (Kd.R_reads' HO335.out).2.2 | (with_reducible refine Kd.C_alloc ?_ _) | (with_reducible refine Kd.C_drewN ?_ _) | (with_reducible refine Kd.C_drew ?_))); (case side2 => exact (Kd.R_reads' HO335.out).2.1); (case side3 => repeat (first | exact (Kd.R_reads' HO328.out).2.2 | (with_reducible refine Kd.C_alloc ?_ _) | (with_reducible refine Kd.C_drewN ?_ _) | (with_reducible refine Kd.C_drew ?_))); (case side4 => exact (Kd.R_reads' HO328.out).2.1); rintro e w' ⟨rfl, ⟨nd, rfl⟩⟩))
           go_ret
           exact ⟨by first | rfl | (simp [errW_none, errW_some] <;> rfl) | (simp [*, errW_none, errW_some] <;> rfl), by repeat (first | (with_reducible first | exact HB.out | apply below_alloc | apply pw_below_drewN | apply below_drew1) | exact HB.out)⟩
       · rw [if_neg c13] at H
         have c13b0 : (t331.toList == t332.toList) = false := beq_eq_false_iff_ne.mpr c13
         have c13b1 : (t331.toList != t332.toList) = true := bne_iff_ne.mpr c13
         obtain rfl := Option.some.inj H
         go_enter Tryz.func4, Tryz.ntmps4
         go_wp2_with (first | ((with_reducible refine gate_callee (f := 5) rfl ?_); refine goesL_ (some 7) rfl rfl Tryz.func5 (by kernel_rfl) rfl #[] rfl (by (try simp only [List.map_toArray, List.map_cons, List.map_nil]); first | done | rfl | (simp only [List.length_drop, List.length_take]; rfl)) ?_; (with_reducible refine (lw_awake.calls k  true _ (hG.keepAt (Nat.le_refl _) (by repeat (first | (with_reducible first | exact HB.out | apply below_alloc | apply pw_below_drewN | apply below_drew1) | exact HB.out))) A3.out).mono ?_); rintro e w51 ⟨rfl, hb⟩; refine ⟨_, rfl, ?_⟩; have n0_ := Aside0.mk (below_step (by repeat (first | (with_reducible first | exact HB.out | apply below_alloc | apply pw_below_drewN | apply below_drew1) | exact HB.out)) hb); clear HB; have HB := n0_; clear n0_; (try clear hb); (try clear hb2); (try clear hk); (try clear hi)) | ((with_reducible refine gate_callee (f := 9) rfl ?_); refine goesL_ (some 9) rfl rfl Tryz.func9 (by kernel_rfl) rfl #[.slice A0 l0.length c0] rfl (by (try simp only [List.map_toArray, List.map_cons, List.map_nil]); first | done | rfl | (simp only [List.length_drop, List.length_take]; rfl)) ?_; (with_reducible refine (rf07_Few.calls k _ _ l0 true _ ?side1 ?side2 A4.out).mono ?_); (case side1 => repeat (first | exact (Kd.C_below HR0.out HB.out) | (with_reducible refine Kd.C_alloc ?_ _) | (with_reducible refine Kd.C_drewN ?_ _) | (with_reducible refine Kd.C_drew ?_))); (case side2 => exact HC0.out); rintro e w' ⟨rfl, ⟨nd, rfl⟩⟩; refine ⟨_, rfl, ?_⟩) | ((with_reducible refine gate_callee (f := 10) rfl ?_); refine goesL_ (some 13) rfl rfl Tryz.func10 (by kernel_rfl) rfl #[.slice A0 l0.length c0] rfl (by (try simp only [List.map_toArray, List.map_cons, List.map_nil]); first | done | rfl | (simp only [List.length_drop, List.length_take]; rfl)) ?_; (with_reducible refine (rf07_Names.calls k _ _ l0 t326 _ ?side1 ?side2 A6.out).mono ?_); (case side1 => repeat (first | exact (Kd.C_below HR0.out (by repeat (first | (with_reducible first | exact HB.out | apply below_alloc | apply pw_below_drewN | apply below_drew1) | exact HB.out))) | (with_reducible refine Kd.C_alloc ?_ _) | (with_reducible refine Kd.C_drewN ?_ _) | (with_reducible refine Kd.C_drew ?_))); (case side2 => exact HC0.out); rintro e w52 ⟨v327, rfl, ho0, hb⟩; refine ⟨_, rfl, ?_⟩; have n0_ := Aside0.mk (Kd.R_lower ho0 (below_size (by repeat (first | (with_reducible first | exact HB.out | apply below_alloc | apply pw_below_drewN | apply below_drew1) | exact HB.out)))); have n1_ := Aside0.mk (below_step (by repeat (first | (with_reducible first | exact HB.out | apply below_alloc | apply pw_below_drewN | apply below_drew1) | exact HB.out)) hb); clear HB; have HO328 := n0_; have HB := n1_; clear n0_ n1_; (try clear hb); (try clear hb2); (try clear hk); (try clear hi); (try clear ho0)) | (go_at_call 11; (with_reducible refine (tmpl_May.calls k _ _ l0 t329 _ ?side1 ?side2 A8.out).mono ?_); (case side1 => repeat (first | exact (Kd.C_below HR0.out HB.out) | (with_reducible refine Kd.C_alloc ?_ _) | (with_reducible refine Kd.C_drewN ?_ _) | (with_reducible refine Kd.C_drew ?_))); (case side2 => exact HC0.out); rintro e w53 ⟨rfl, hb⟩; have n0_ := Aside0.mk (Kd.R_below (by (with_reducible repeat (first | apply Kd.R_alloc | apply Kd.R_drewN | apply Kd.R_drew)); exact HO328.out) hb); have n1_ := Aside0.mk (below_step (by repeat (first | (with_reducible first | exact HB.out | apply below_alloc | apply pw_below_drewN | apply below_drew1) | exact HB.out)) hb); clear HO328; clear HB; have HO328 := n0_; have HB := n1_; clear n0_ n1_; (try clear hb); (try clear hb2); (try clear hk); (try clear hi)) | (go_at_call 12; (with_reducible refine (rf07_May.calls k _ _ l0 t330 _ ?side1 ?side2 A9.out).mono ?_); (case side1 => repeat (first | exact (Kd.C_below HR0.out HB.out) | (with_reducible refine Kd.C_alloc ?_ _) | (with_reducible refine Kd.C_drewN ?_ _) | (with_reducible refine Kd.C_drew ?_))); (case side2 => exact HC0.out); rintro e w54 ⟨rfl, hb⟩; have n0_ := Aside0.mk (Kd.R_below (by (with_reducible repeat (first | apply Kd.R_alloc | apply Kd.R_drewN | apply Kd.R_drew)); exact HO328.out) hb); have n1_ := Aside0.mk (below_step (by repeat (first | (with_reducible first | exact HB.out | apply below_alloc | apply pw_below_drewN | apply below_drew1) | exact HB.out)) hb); clear HO328; clear HB; have HO328 := n0_; have HB := n1_; clear n0_ n1_; (try clear hb); (try clear hb2); (try clear hk); (try clear hi)) | (go_at_call 13; (with_reducible refine (tmpl_Put.calls _ _ l0 t331 _ (hG.keepAt (Nat.le_refl _) (by repeat (first | (with_reducible first | exact HB.out | apply below_alloc | apply pw_below_drewN | apply below_drew1) | exact HB.out))) ?side1 ?side2 A11.out).mono ?_); (case side1 => repeat (first | exact (Kd.C_below HR0.out HB.out) | (with_reducible refine Kd.C_alloc ?_ _) | (with_reducible refine Kd.C_drewN ?_ _) | (with_reducible refine Kd.C_drew ?_))); (case side2 => exact HC0.out); rintro e w55 ⟨rfl, hb⟩; have n0_ := Aside0.mk (Kd.R_below (by (with_reducible repeat (first | apply Kd.R_alloc | apply Kd.R_drewN | apply Kd.R_drew)); exact HO328.out) hb); have n1_ := Aside0.mk (below_step (by repeat (first | (with_reducible first | exact HB.out | apply below_alloc | apply pw_below_drewN | apply below_drew1) | exact HB.out)) hb); clear HO328; clear HB; have HO328 := n0_; have HB := n1_; clear n0_ n1_; (try clear hb); (try clear hb2); (try clear hk); (try clear hi)) | (go_at_call 14; (with_reducible refine (rf07_Put.calls k _ _ l0 t332 _ ?side1 ?side2 A12.out).mono ?_); (case side1 => repeat (first | exact (Kd.C_below HR0.out HB.out) | (with_reducible refine Kd.C_alloc ?_ _) | (with_reducible refine Kd.C_drewN ?_ _) | (with_reducible refine Kd.C_drew ?_))); (case side2 => exact HC0.out); rintro e w56 ⟨rfl, hb⟩; have n0_ := Aside0.mk (Kd.R_below (by (with_reducible repeat (first | apply Kd.R_alloc | apply Kd.R_drewN | apply Kd.R_drew)); exact HO328.out) hb); have n1_ := Aside0.mk (below_step (by repeat (first | (with_reducible first | exact HB.out | apply below_alloc | apply pw_below_drewN | apply below_drew1) | exact HB.out)) hb); clear HO328; clear HB; have HO328 := n0_; have HB := n1_; clear n0_ n1_; (try clear hb); (try clear hb2); (try clear hk); (try clear hi)))
         go_ret
         exact ⟨by first | rfl | (simp [errW_none, errW_some] <;> rfl) | (simp [*, errW_none, errW_some] <;> rfl), by repeat (first | (with_reducible first | exact HB.out | apply below_alloc | apply pw_below_drewN | apply below_drew1) | exact HB.out)⟩
     · rw [if_neg c10] at H
       have c10b0 : (t329 == t330) = false := by simpa using c10
       (try (have c10b1 : decide (t329 = t330) = false := by simpa using c10))
       (try (have c10b2 : (t329 == t330) = false := by simpa using c10))
       (try (have c10b3 : ¬ (t329 = t330) := by simpa using c10))
       clear c10
       obtain rfl := Option.some.inj H
       go_enter Tryz.func4, Tryz.ntmps4
       go_wp2_with (first | ((with_reducible refine gate_callee (f := 5) rfl ?_); refine goesL_ (some 7) rfl rfl Tryz.func5 (by kernel_rfl) rfl #[] rfl (by (try simp only [List.map_toArray, List.map_cons, List.map_nil]); first | done | rfl | (simp only [List.length_drop, List.length_take]; rfl)) ?_; (with_reducible refine (lw_awake.calls k  true _ (hG.keepAt (Nat.le_refl _) (by repeat (first | (with_reducible first | exact HB.out | apply below_alloc | apply pw_below_drewN | apply below_drew1) | exact HB.out))) A3.out).mono ?_); rintro e w57 ⟨rfl, hb⟩; refine ⟨_, rfl, ?_⟩; have n0_ := Aside0.mk (below_step (by repeat (first | (with_reducible first | exact HB.out | apply below_alloc | apply pw_below_drewN | apply below_drew1) | exact HB.out)) hb); clear HB; have HB := n0_; clear n0_; (try clear hb); (try clear hb2); (try clear hk); (try clear hi)) | ((with_reducible refine gate_callee (f := 9) rfl ?_); refine goesL_ (some 9) rfl rfl Tryz.func9 (by kernel_rfl) rfl #[.slice A0 l0.length c0] rfl (by (try simp only [List.map_toArray, List.map_cons, List.map_nil]); first | done | rfl | (simp only [List.length_drop, List.length_take]; rfl)) ?_; (with_reducible refine (rf07_Few.calls k _ _ l0 true _ ?side1 ?side2 A4.out).mono ?_); (case side1 => repeat (first | exact (Kd.C_below HR0.out HB.out) | (with_reducible refine Kd.C_alloc ?_ _) | (with_reducible refine Kd.C_drewN ?_ _) | (with_reducible refine Kd.C_drew ?_))); (case side2 => exact HC0.out); rintro e w' ⟨rfl, ⟨nd, rfl⟩⟩; refine ⟨_, rfl, ?_⟩) | ((with_reducible refine gate_callee (f := 10) rfl ?_); refine goesL_ (some 13) rfl rfl Tryz.func10 (by kernel_rfl) rfl #[.slice A0 l0.length c0] rfl (by (try simp only [List.map_toArray, List.map_cons, List.map_nil]); first | done | rfl | (simp only [List.length_drop, List.length_take]; rfl)) ?_; (with_reducible refine (rf07_Names.calls k _ _ l0 t326 _ ?side1 ?side2 A6.out).mono ?_); (case side1 => repeat (first | exact (Kd.C_below HR0.out (by repeat (first | (with_reducible first | exact HB.out | apply below_alloc | apply pw_below_drewN | apply below_drew1) | exact HB.out))) | (with_reducible refine Kd.C_alloc ?_ _) | (with_reducible refine Kd.C_drewN ?_ _) | (with_reducible refine Kd.C_drew ?_))); (case side2 => exact HC0.out); rintro e w58 ⟨v327, rfl, ho0, hb⟩; refine ⟨_, rfl, ?_⟩; have n0_ := Aside0.mk (Kd.R_lower ho0 (below_size (by repeat (first | (with_reducible first | exact HB.out | apply below_alloc | apply pw_below_drewN | apply below_drew1) | exact HB.out)))); have n1_ := Aside0.mk (below_step (by repeat (first | (with_reducible first | exact HB.out | apply below_alloc | apply pw_below_drewN | apply below_drew1) | exact HB.out)) hb); clear HB; have HO328 := n0_; have HB := n1_; clear n0_ n1_; (try clear hb); (try clear hb2); (try clear hk); (try clear hi); (try clear ho0)) | (go_at_call 11; (with_reducible refine (tmpl_May.calls k _ _ l0 t329 _ ?side1 ?side2 A8.out).mono ?_); (case side1 => repeat (first | exact (Kd.C_below HR0.out HB.out) | (with_reducible refine Kd.C_alloc ?_ _) | (with_reducible refine Kd.C_drewN ?_ _) | (with_reducible refine Kd.C_drew ?_))); (case side2 => exact HC0.out); rintro e w59 ⟨rfl, hb⟩; have n0_ := Aside0.mk (Kd.R_below (by (with_reducible repeat (first | apply Kd.R_alloc | apply Kd.R_drewN | apply Kd.R_drew)); exact HO328.out) hb); have n1_ := Aside0.mk (below_step (by repeat (first | (with_reducible first | exact HB.out | apply below_alloc | apply pw_below_drewN | apply below_drew1) | exact HB.out)) hb); clear HO328; clear HB; have HO328 := n0_; have HB := n1_; clear n0_ n1_; (try clear hb); (try clear hb2); (try clear hk); (try clear hi)) | (go_at_call 12; (with_reducible refine (rf07_May.calls k _ _ l0 t330 _ ?side1 ?side2 A9.out).mono ?_); (case side1 => repeat (first | exact (Kd.C_below HR0.out HB.out) | (with_reducible refine Kd.C_alloc ?_ _) | (with_reducible refine Kd.C_drewN ?_ _) | (with_reducible refine Kd.C_drew ?_))); (case side2 => exact HC0.out); rintro e w60 ⟨rfl, hb⟩; have n0_ := Aside0.mk (Kd.R_below (by (with_reducible repeat (first | apply Kd.R_alloc | apply Kd.R_drewN | apply Kd.R_drew)); exact HO328.out) hb); have n1_ := Aside0.mk (below_step (by repeat (first | (with_reducible first | exact HB.out | apply below_alloc | apply pw_below_drewN | apply below_drew1) | exact HB.out)) hb); clear HO328; clear HB; have HO328 := n0_; have HB := n1_; clear n0_ n1_; (try clear hb); (try clear hb2); (try clear hk); (try clear hi)))
       go_ret
       exact ⟨by first | rfl | (simp [errW_none, errW_some] <;> rfl) | (simp [*, errW_none, errW_some] <;> rfl), by repeat (first | (with_reducible first | exact HB.out | apply below_alloc | apply pw_below_drewN | apply below_drew1) | exact HB.out)⟩
   · replace c7 := Bool.eq_false_iff.mpr c7
     subst c7
     have H1 : (some false) = some r := by rw [if_neg (show ¬ (false = true) by decide)] at H; exact H
     clear H
     have H := H1
     clear H1
     obtain rfl := Option.some.inj H
     go_enter Tryz.func4, Tryz.ntmps4
     go_wp2_with (first | ((with_reducible refine gate_callee (f := 5) rfl ?_); refine goesL_ (some 7) rfl rfl Tryz.func5 (by kernel_rfl) rfl #[] rfl (by (try simp only [List.map_toArray, List.map_cons, List.map_nil]); first | done | rfl | (simp only [List.length_drop, List.length_take]; rfl)) ?_; (with_reducible refine (lw_awake.calls k  false _ (hG.keepAt (Nat.le_refl _) (by repeat (first | (with_reducible first | exact HB.out | apply below_alloc | apply pw_below_drewN | apply below_drew1) | exact HB.out))) A3.out).mono ?_); rintro e w61 ⟨rfl, hb⟩; refine ⟨_, rfl, ?_⟩; have n0_ := Aside0.mk (below_step (by repeat (first | (with_reducible first | exact HB.out | apply below_alloc | apply pw_below_drewN | apply below_drew1) | exact HB.out)) hb); clear HB; have HB := n0_; clear n0_; (try clear hb); (try clear hb2); (try clear hk); (try clear hi)) | ((with_reducible refine gate_callee (f := 9) rfl ?_); refine goesL_ (some 9) rfl rfl Tryz.func9 (by kernel_rfl) rfl #[.slice A0 l0.length c0] rfl (by (try simp only [List.map_toArray, List.map_cons, List.map_nil]); first | done | rfl | (simp only [List.length_drop, List.length_take]; rfl)) ?_; (with_reducible refine (rf07_Few.calls k _ _ l0 true _ ?side1 ?side2 A4.out).mono ?_); (case side1 => repeat (first | exact (Kd.C_below HR0.out HB.out) | (with_reducible refine Kd.C_alloc ?_ _) | (with_reducible refine Kd.C_drewN ?_ _) | (with_reducible refine Kd.C_drew ?_))); (case side2 => exact HC0.out); rintro e w' ⟨rfl, ⟨nd, rfl⟩⟩; refine ⟨_, rfl, ?_⟩) | ((with_reducible refine gate_callee (f := 10) rfl ?_); refine goesL_ (some 13) rfl rfl Tryz.func10 (by kernel_rfl) rfl #[.slice A0 l0.length c0] rfl (by (try simp only [List.map_toArray, List.map_cons, List.map_nil]); first | done | rfl | (simp only [List.length_drop, List.length_take]; rfl)) ?_; (with_reducible refine (rf07_Names.calls k _ _ l0 t326 _ ?side1 ?side2 A6.out).mono ?_); (case side1 => repeat (first | exact (Kd.C_below HR0.out (by repeat (first | (with_reducible first | exact HB.out | apply below_alloc | apply pw_below_drewN | apply below_drew1) | exact HB.out))) | (with_reducible refine Kd.C_alloc ?_ _) | (with_reducible refine Kd.C_drewN ?_ _) | (with_reducible refine Kd.C_drew ?_))); (case side2 => exact HC0.out); rintro e w62 ⟨v327, rfl, ho0, hb⟩; refine ⟨_, rfl, ?_⟩; have n0_ := Aside0.mk (Kd.R_lower ho0 (below_size (by repeat (first | (with_reducible first | exact HB.out | apply below_alloc | apply pw_below_drewN | apply below_drew1) | exact HB.out)))); have n1_ := Aside0.mk (below_step (by repeat (first | (with_reducible first | exact HB.out | apply below_alloc | apply pw_below_drewN | apply below_drew1) | exact HB.out)) hb); clear HB; have HO328 := n0_; have HB := n1_; clear n0_ n1_; (try clear hb); (try clear hb2); (try clear hk); (try clear hi); (try clear ho0)))
     go_ret
     exact ⟨by first | rfl | (simp [errW_none, errW_some] <;> rfl) | (simp [*, errW_none, errW_some] <;> rfl), by repeat (first | (with_reducible first | exact HB.out | apply below_alloc | apply pw_below_drewN | apply below_drew1) | exact HB.out)⟩
 · replace c5 := Bool.eq_false_iff.mpr c5
   subst c5
   have H1 : (some t324) = some r := by rw [if_neg (show ¬ (false = true) by decide)] at H; exact H
   clear H
   have H := H1
   clear H1
   obtain rfl := Option.some.inj H
   go_enter Tryz.func4, Tryz.ntmps4
   go_wp2_with (first | ((with_reducible refine gate_callee (f := 5) rfl ?_); refine goesL_ (some 7) rfl rfl Tryz.func5 (by kernel_rfl) rfl #[] rfl (by (try simp only [List.map_toArray, List.map_cons, List.map_nil]); first | done | rfl | (simp only [List.length_drop, List.length_take]; rfl)) ?_; (with_reducible refine (lw_awake.calls k  t324 _ (hG.keepAt (Nat.le_refl _) (by repeat (first | (with_reducible first | exact HB.out | apply below_alloc | apply pw_below_drewN | apply below_drew1) | exact HB.out))) A3.out).mono ?_); rintro e w63 ⟨rfl, hb⟩; refine ⟨_, rfl, ?_⟩; have n0_ := Aside0.mk (below_step (by repeat (first | (with_reducible first | exact HB.out | apply below_alloc | apply pw_below_drewN | apply below_drew1) | exact HB.out)) hb); clear HB; have HB := n0_; clear n0_; (try clear hb); (try clear hb2); (try clear hk); (try clear hi)) | ((with_reducible refine gate_callee (f := 9) rfl ?_); refine goesL_ (some 9) rfl rfl Tryz.func9 (by kernel_rfl) rfl #[.slice A0 l0.length c0] rfl (by (try simp only [List.map_toArray, List.map_cons, List.map_nil]); first | done | rfl | (simp only [List.length_drop, List.length_take]; rfl)) ?_; (with_reducible refine (rf07_Few.calls k _ _ l0 false _ ?side1 ?side2 A4.out).mono ?_); (case side1 => repeat (first | exact (Kd.C_below HR0.out HB.out) | (with_reducible refine Kd.C_alloc ?_ _) | (with_reducible refine Kd.C_drewN ?_ _) | (with_reducible refine Kd.C_drew ?_))); (case side2 => exact HC0.out); rintro e w' ⟨rfl, ⟨nd, rfl⟩⟩; refine ⟨_, rfl, ?_⟩))
   go_ret
   exact ⟨by first | rfl | (simp [errW_none, errW_some] <;> rfl) | (simp [*, errW_none, errW_some] <;> rfl), by repeat (first | (with_reducible first | exact HB.out | apply below_alloc | apply pw_below_drewN | apply below_drew1) | exact HB.out)⟩
end Go.Proofs.YtkipkbggnfllkaaGreatDoor.P
end
section
namespace Go.Proofs.YtkipkbggnfllkaaGreatDoor.P
open Go.RowKit Go.Proofs.YtkipkbggnfllkaaGreatDoorW.PrintWords Go.Proofs.YtkipkbggnfllkaaGreatDoorW.PrintLast Go.Proofs.YtkipkbggnfllkaaGreatDoorW.PrintMore
set_option linter.unusedVariables false
theorem tells_awake_ev : Ev (fun k => lw_awake.f k) true := Ev.of (fun k => lw_awake.mono k) (show lw_awake.f 60 = some true by kernel_rfl)
theorem prog_put_none (l : List S41) (hb : ∀ x ∈ l, OKP x) (hl : l.length ≤ 1099511627776) (hm : ¬ MayT (l.map pM)) : tmpl_Put.f l = some (⟨#[]⟩ : ByteArray) := by
 obtain ⟨b, h1, h2⟩ := prog_may l hb hl
 unfold tmpl_Put.f mayB
 rw [h1 _ (by omega), Option.bind_some, if_neg fun e => hm (h2.1 e)]
theorem few_names : ∀ (l : List S41), (∀ x ∈ l, FewP x) → (tNames l).length ≤ 20 * l.length
 | [], _ => Nat.le_refl _
 | x :: r, h => by
  have ih := few_names r fun y hy => h y (List.mem_cons_of_mem _ hy)
  have hx := (h x (List.mem_cons_self ..)).2.1
  have e : (tNames (x :: r)).length = x.f2.length + (tNames r).length := by
   show (vNames x.f2 ++ tNames r).length = _
   rw [List.length_append]
   congr 1
   exact List.length_map ..
  rw [e, List.length_cons]
  omega
theorem tells_pure (l : List S41) (c : Int) (hc : 0 ≤ c ∧ c ≤ 255) (hop : ∀ x ∈ l, 0 ≤ x.f1 ∧ x.f1 ≤ 255) : ∃ k, lw_TmplTells.f k l c = some true := by
 refine Ev.rounds (g := fun k => lw_TmplTells.f k l c) ?_
 unfold lw_TmplTells.f
 refine tells_awake_ev.bind ?_
 obtain ⟨b, hb, hbi⟩ := ref_few l
 refine hb.bind ?_
 by_cases hbt : b = true
 · obtain ⟨f1, f2⟩ := hbi hbt
   have hok : ∀ x ∈ l, OKP x := fun x hx => few_ok (f2 x hx) (hop x hx).1 (hop x hx).2
   have hnm := few_names l f2
   have hnub := nub_length (tNames l) []
   refine Ev.pos hbt ((ref_names l (by omega) (by omega)).bind (Ev.pos rfl ?_))
   obtain ⟨m, m1, m2⟩ := prog_may l hok (by omega)
   obtain ⟨m', n1, n2⟩ := ref_may7 l hok (by omega)
   have hmm : m = m' := by rw [Bool.eq_iff_iff, m2, n2]
   subst hmm
   refine Ev.bind (g := fun k => tmpl_May.f k l) ⟨l.length + 1, fun k hk => m1 k (by omega)⟩ (n1.bind (Ev.pos (beq_self_eq_true _) ?_))
   obtain ⟨t, u, p1, p2, p3⟩ : ∃ t u, tmpl_Put.f l = some t ∧ Ev (fun k => rf07_Put.f k l) u ∧ t = u := by
    by_cases hM : MayT (l.map pM)
    · have hlen := few_length l f2 hM
      obtain ⟨t, t1, t2⟩ := prog_put l hok (by omega) (by omega) hM
      obtain ⟨u, u1, u2⟩ := ref_put7 l hok (by omega) (by omega) hM
      exact ⟨t, u, t1, u1, bs_inj (by rw [t2, u2])⟩
    · exact ⟨_, _, prog_put_none l hok (by omega) hM, ref_put7_none l hok (by omega) hM, rfl⟩
   subst p3
   rw [p1]
   refine (Ev.now t).bind (p2.bind (Ev.pos rfl ?_))
   refine (prog_Names l (by omega) (by omega)).bind ((ref_texts _ (by simp only [List.length_nil] at hnub; omega)).bind (Ev.pos rfl ?_))
   refine (prog_Once l (by omega) (by omega)).bind ((ref_many l (by omega) (by omega)).bind (Ev.pos (beq_self_eq_true _) ?_))
   obtain ⟨o, o1, o2⟩ := prog_oper2 hc.1 hc.2
   obtain ⟨o', q1, q2⟩ := ref_oper7 hc.1 hc.2
   have hoo : o = o' := by rw [Bool.eq_iff_iff, o2, q2]
   subst hoo
   rw [o1]
   refine (Ev.now o).bind (q1.bind ?_)
   rw [beq_self_eq_true]
   exact Ev.now _
 · exact Ev.neg hbt (Ev.now _)
end Go.Proofs.YtkipkbggnfllkaaGreatDoor.P
end
section
namespace Go.Proofs.YtkipkbggnfllkaaGreatDoor
open Go.ChangeShapes Go.WideShapes Go.ChangeAt Go.RowKit
open Go.ChangeMaps (open_string shut_string)
set_option linter.unusedVariables false
set_option maxRecDepth 100000
theorem tells_laidOut : laidOutB Tryz.prog = true := by kernel_rfl
theorem tells_law (A : Option Addr) (c : Nat) (l : List P.S41) (s1 : Int) (h1 : 0 ≤ s1 ∧ s1 ≤ 255) (w : World) (hC : P.PartsIn w A c l) (hG : P.Gl w) : Calls Tryz.prog 4 #[.slice A l.length c, .int .u8 s1] w fun e w' => e = .returned (.bool true) ∧ Below w.heap.size w w' := by
 obtain ⟨k, hk⟩ := P.tells_pure l s1 h1 hC.2.2
 exact P.lw_TmplTells.calls k A c l s1 true w hG hC.2.1 hC.1 hk
theorem tells_own : ownKnob Tryz.prog.godebug = none := by kernel_rfl
theorem tells_lifted (os : Os) (started : os.Started) (H : Type) (enc : TypeId × Value → H) :
 ReturnsInHanded {} Tryz.checked os 4 .any (fun w args => (Rows.tmplTellsSpec.pre enc Tryz.prog Tryz.f4 [] false w args ∧ laidMetH Tryz.prog Rows.tmplTellsRow.laid w) ∧ sizedMet enc Tryz.prog Tryz.f4 (OpenSpec.ofChange Rows.tmplTellsSpec) false w args)
  (Rows.tmplTellsSpec.post enc Tryz.prog Tryz.f4 false true false false) := by
 refine returnsInHanded_of_change_and (C := Tryz.checked) (X := fun w _ => laidMetH Tryz.prog Rows.tmplTellsRow.laid w) (fun _ _ _ hh h => h.of_heap hh) tells_own started (by kernel_rfl) Tryz.func4
  (ChangeSpec.witness_shaped (enc := enc) (C := Tryz.checked) (os := os) (X := fun w _ => laidMetH Tryz.prog Rows.tmplTellsRow.laid w) false (World.laidAll Tryz.prog os Rows.tmplTellsRow.laid) #[.slice none 0 0, .int .u8 0] 8 (World.laidAll_os _ _ _)
   (World.shaped_of_ZipB (by kernel_rfl) (by kernel_rfl)) (by kernel_rfl) (by kernel_rfl) (by kernel_rfl)
   (by rw [MakeChecks.laidMetH_plain _ _ _ (by kernel_rfl)]; exact laidMet_laidAll _ (by kernel_rfl) (by kernel_rfl))) ?_
 intro W base args ds gs before hval0 hW _ _ hX _
 have hval : ∀ (j : Nat) t v, Tryz.f4.params[j]? = some t → args[j]? = some v → Value.okWide Tryz.prog W .any base t v := hval0
 have hW' := hW
 obtain ⟨p, q, hA0, hV, rfl, _, _⟩ := hW
 have hA : DataW.TrodAll enc Tryz.prog W 0 (fun _ => true) true Tryz.f4.params.toList args.toList ds p := hA0
 rw [Tryz.params4] at hA hval
 obtain ⟨v0, v1, d0, d1, p0, p1, rfl, rfl, rfl, h0, h1⟩ := trodAll_two hA
 obtain ⟨rfl, rfl⟩ := trodVars_none hV
 obtain ⟨x1, rfl, rfl, rfl, y1⟩ := open_int Tryz.underlying5 (hval 1 5 v1 rfl rfl) h1
 obtain ⟨A0, n0, c0, rfl⟩ := okWide_slice Tryz.underlying23 (hval 0 23 v0 rfl rfl)
 have k0 := h0
 have lt0 : ∀ x ∈ p0, x.block < W.heap.size := by obtain ⟨m, hm⟩ := k0; exact DataW.trod_lt m _ _ _ hm
 obtain ⟨fuel, hf⟩ := h0
 obtain ⟨A, c, l, hl⟩ := P.parts_of hf
 obtain ⟨hcs, hin⟩ := hl
 simp [Value.cells] at hcs
 obtain ⟨rfl, rfl, rfl⟩ := hcs
 rw [MakeChecks.laidMetH_plain _ _ _ (by kernel_rfl)] at hX
 refine (tells_law A0 c0 l x1 (by have h := y1; simp [Lit.wf, IntKind.min, IntKind.max, IntKind.signed, IntKind.bits] at h; omega) W hin (gl_of_laid hX)).mono fun e W' ⟨he, hb⟩ => ?_
 subst he
 exact ⟨_, rfl, _, _, _, [], _, [], hW', trodAll_mk1 (shut_bool Tryz.underlying4 _), trodAll_mk2 (Below.trod tells_laidOut (by kernel_rfl) (of_decide_eq_true (by kernel_rfl)) k0 hb lt0) (shut_int Tryz.underlying5 y1), rfl, hb.frame _, fun h => by cases h⟩
theorem tells_holds : Rows.TmplTellsSaid :=
 OpenClaim.holds_of_wide 4 Tryz.f4 rfl rfl rfl rfl rfl rfl rfl ⟨rfl, rfl, rfl, rfl, rfl⟩ rfl rfl rfl rfl rfl (by kernel_rfl) Tryz.func4 (by kernel_rfl)
  (of_decide_eq_true (by kernel_rfl)) (by unfold Func.isWrapper; first | (rw [if_pos (by decide +kernel)]; kernel_rfl) | (rw [if_neg (by decide +kernel)]; exact ⟨rfl, rfl⟩))
  (fun os started H enc _ => tells_lifted os started H enc)
theorem tells_card : Rows.TmplTellsCardSaid :=
 Claim7.holds_tied_plain_at .later [] [.data, .data, .data, .sentinel, .sentinel] true _ true
  tells_holds (fun _ h => by cases h) (by kernel_rfl) (fun _ h => by cases h) tmplTells_row_tie rfl ⟨rfl, rfl⟩ (by kernel_rfl) rfl
  (fun f fn hf hfn => by
   have e1 : f = 4 := Option.some.inj (hf.symm.trans (by kernel_rfl))
   subst e1
   obtain rfl : fn = Tryz.f4 := (Option.some.inj (Tryz.func4.symm.trans hfn)).symm
   exact ⟨by kernel_rfl, fun j t ht => by
    rw [Tryz.params4] at ht
    have hm : t ∈ [23, 5] := by simpa using Array.mem_of_getElem? ht
    simp only [List.mem_cons, List.not_mem_nil, or_false] at hm
    rcases hm with rfl | rfl
    · exact (show Tryz.prog.wantsStandIn 23 = false by kernel_rfl)
    · exact (show Tryz.prog.wantsStandIn 5 = false by kernel_rfl)⟩)
  (by kernel_rfl)
end Go.Proofs.YtkipkbggnfllkaaGreatDoor
end
