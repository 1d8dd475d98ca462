/- The law TmplBack of the package phalaropelaw07 holds of all parts and every text: parts that may be a template are read back from their text; a text that is read as a template is its parts' text. Condition: the laid variables of strconv hold what their makers laid (the card's own condition). -/
import Derived.Test.YtkipkbggnfllkaaDoorCk3
import Derived.ChangeMaps5
import Derived.Carry
import Derived.OpenShut
section
namespace Go.Proofs.YtkipkbggnfllkaaDoor.P
open Go.RowKit Go.Proofs.YtkipkbggnfllkaaDoorW.PrintWords Go.Proofs.YtkipkbggnfllkaaDoorW.PrintLast Go.Proofs.YtkipkbggnfllkaaDoorW.PrintMore
set_option linter.unusedVariables false
set_option linter.unusedSimpArgs false
theorem expr_fuel' : ∀ (d e : Nat) (l : List Nat), l.length < d → l.length < e → exprN d l = exprN e l
  | 0, _, _, h, _ => by omega
  | _, 0, _, _, h => by omega
  | d + 1, e + 1, l, h1, h2 => by
    simp only [exprN]
    cases hc : cut l with
    | none => rfl
    | some p =>
      obtain ⟨a, c, r⟩ := p
      obtain ⟨hl, -, -⟩ := cut_some hc
      have : r.length < l.length := by rw [hl]; simp; omega
      simp only
      rw [expr_fuel' d e r (by omega) (by omega)]
theorem bs_void : bs ⟨#[]⟩ = [] := rfl
theorem cut_append : ∀ {x : List Nat} (r : List Nat), NoSep x → cut (x ++ r) = (cut r).map fun t => (x ++ t.1, t.2.1, t.2.2)
  | [], r, _ => by
    rw [List.nil_append]
    cases cut r with
    | none => rfl
    | some t => rfl
  | b :: x, r, h => by
    have hb := h b (by simp)
    simp only [List.cons_append, cut]
    rw [if_neg (by omega), cut_append r h.tail]
    cases cut r with
    | none => rfl
    | some t => rfl
theorem uAt_high (b : Nat) (r : List Nat) (hb : ¬ b < 128) (h : (uAt (b :: r)).2 ≠ 0) : 128 ≤ (uAt (b :: r)).1 ∧ NoSep ((b :: r).take (uAt (b :: r)).2) := by
  match r, h with
  | [], h =>
    simp only [uAt] at h
    rw [if_neg hb] at h
    exact absurd rfl h
  | b1 :: r, h =>
    by_cases h2 : b / 32 = 6
    · rw [uAt2 h2] at h ⊢
      by_cases g : b1 / 64 = 2 ∧ 128 ≤ u2 b b1
      · rw [if_pos g]
        refine ⟨g.2, fun x hx => ?_⟩
        simp only [List.take_succ_cons, List.take_zero, List.mem_cons, List.not_mem_nil, or_false] at hx
        omega
      · rw [if_neg g] at h
        exact absurd rfl h
    match r, h with
    | [], h =>
      simp only [uAt] at h
      rw [if_neg hb, if_neg h2] at h
      exact absurd rfl h
    | b2 :: r, h =>
      by_cases h3 : b / 16 = 14
      · rw [uAt3 h3] at h ⊢
        by_cases g : b1 / 64 = 2 ∧ b2 / 64 = 2 ∧ 2048 ≤ u3 b b1 b2 ∧ MayR (u3 b b1 b2)
        · rw [if_pos g]
          refine ⟨by simp only; omega, fun x hx => ?_⟩
          have g1 := g.1
          have g2 := g.2.1
          simp only [List.take_succ_cons, List.take_zero, List.mem_cons, List.not_mem_nil, or_false] at hx
          omega
        · rw [if_neg g] at h
          exact absurd rfl h
      match r, h with
      | [], h =>
        simp only [uAt] at h
        rw [if_neg hb, if_neg h2, if_neg h3] at h
        exact absurd rfl h
      | b3 :: r, h =>
        by_cases h4 : b / 8 = 30
        · rw [uAt4 h4] at h ⊢
          by_cases g : b1 / 64 = 2 ∧ b2 / 64 = 2 ∧ b3 / 64 = 2 ∧ 65536 ≤ u4 b b1 b2 b3 ∧ MayR (u4 b b1 b2 b3)
          · rw [if_pos g]
            refine ⟨by simp only; omega, fun x hx => ?_⟩
            have g1 := g.1
            have g2 := g.2.1
            have g3 := g.2.2.1
            simp only [List.take_succ_cons, List.take_zero, List.mem_cons, List.not_mem_nil, or_false] at hx
            omega
          · rw [if_neg g] at h
            exact absurd rfl h
        · simp only [uAt] at h
          rw [if_neg hb, if_neg h2, if_neg h3, if_neg h4] at h
          exact absurd rfl h
theorem uAt_ascii {b : Nat} (h : b < 128) (r : List Nat) : uAt (b :: r) = (b, 1) := by
  simp only [uAt]
  rw [if_pos h]
theorem prog_any (s : ByteArray) : ∀ (k p : Nat), s.size - p ≤ k → p ≤ s.size → anyFrom s k p = match cut ((bs s).drop p) with
    | none => -1
    | some t => ((p + t.1.length : Nat) : Int)
  | 0, p, h, hp => by
    rw [List.drop_eq_nil_of_le (by rw [bs_length]; omega)]
    rfl
  | k + 1, p, h, hp => by
    rw [anyFrom]
    by_cases hlt : p < s.size
    · obtain ⟨b, hb, hbt, hd⟩ := bs_get s p hlt
      have hne : (bs s).drop p ≠ [] := by
        rw [hd]
        simp
      obtain ⟨d1, d2⟩ := dec_uAt _ (bs_drop_lt s p) hne
      rw [if_pos hlt, decode_bs]
      have hnext : ∀ w, 1 ≤ w → w ≤ ((bs s).drop p).length → NoSep (((bs s).drop p).take w) → anyFrom s k (p + w) = match cut ((bs s).drop p) with
          | none => -1
          | some t => ((p + t.1.length : Nat) : Int) := by
        intro w hw1 hw2 hw3
        rw [List.length_drop, bs_length] at hw2
        have ih := prog_any s k (p + w) (by omega) (by omega)
        have hc := cut_append (x := ((bs s).drop p).take w) (((bs s).drop p).drop w) hw3
        rw [List.take_append_drop, List.drop_drop] at hc
        have hl : (((bs s).drop p).take w).length = w := by rw [List.length_take, List.length_drop, bs_length]; omega
        rw [ih, hc]
        cases cut ((bs s).drop (p + w)) with
        | none => rfl
        | some t =>
          show ((p + w + t.1.length : Nat) : Int) = ((p + (((bs s).drop p).take w ++ t.1).length : Nat) : Int)
          rw [List.length_append, hl, Nat.add_assoc]
      by_cases ha : b < 128
      · have hu : uAt ((bs s).drop p) = (b, 1) := by rw [hd]; exact uAt_ascii ha _
        have he := (d1 (by rw [hu]; simp)).1
        rw [he, hu]
        simp only
        by_cases hs : b = 44 ∨ b = 125
        · rw [if_pos (by omega), hd]
          simp only [cut]
          rw [if_pos hs]
          rfl
        · rw [if_neg (by omega)]
          refine hnext 1 (Nat.le_refl _) (by rw [hd]; simp) fun x hx => ?_
          rw [hd] at hx
          simp only [List.take_succ_cons, List.take_zero, List.mem_singleton] at hx
          omega
      · by_cases h0 : (uAt ((bs s).drop p)).2 = 0
        · have he := (d2 h0).1
          rw [he, if_neg (by simp only; omega)]
          refine hnext 1 (Nat.le_refl _) (by rw [hd]; simp) fun x hx => ?_
          rw [hd] at hx
          simp only [List.take_succ_cons, List.take_zero, List.mem_singleton] at hx
          omega
        · have he := (d1 h0).1
          have hu := uAt_high b ((bs s).drop (p + 1)) ha (by rw [← hd]; exact h0)
          rw [← hd] at hu
          rw [he, if_neg (by have := hu.1; omega)]
          exact hnext _ (by omega) (uAt_le _) hu.2
    · rw [if_neg hlt, List.drop_eq_nil_of_le (by rw [bs_length]; omega)]
      rfl
theorem prog_reader (s : ByteArray) (hs : s.size ≤ 1099511627776) (a : Nat) (ha : a ≤ s.size) :
    (cut ((bs s).drop a) = none → reader_spec.f s (a : Int) = some (false, (⟨#[]⟩, 0, false), 0, ((a + far step .ns ((bs s).drop a) : Nat) : Int))) ∧
    (∀ x c t, cut ((bs s).drop a) = some (x, c, t) → (mVar x = none → reader_spec.f s (a : Int) = some (false, (⟨#[]⟩, 0, false), 0, ((a + far step .ns x : Nat) : Int))) ∧
      ∀ v, mVar x = some v → ∃ y : S43, vM y = v ∧ reader_spec.f s (a : Int) = some (true, (y.f0, y.f1, y.f2), (c : Int), ((a + x.length + 1 : Nat) : Int))) := by
  have hone : bs (s.extract a s.size) = (bs s).drop a := bs_from s a
  have hsz : (s.extract a s.size).size = s.size - a := bs_size_from s a
  have hany := prog_any (s.extract a s.size) (s.extract a s.size).size 0 (by omega) (by omega)
  rw [List.drop_zero, hone] at hany
  constructor
  · intro h
    rw [h] at hany
    have hsep := cut_none h
    obtain ⟨t1, t2⟩ := prog_take6 (s.extract a s.size) (by omega) (by rw [hone]; exact hsep)
    rw [hone] at t1 t2
    simp only [reader_spec.f, Int.toNat_natCast, hany]
    rw [if_neg (by omega)]
    cases hm : mVar ((bs s).drop a) with
    | none =>
      rw [t2 hm]
      simp only [Option.bind_some]
      rw [if_neg (by omega)]
      have : (a : Int) + ((far step .ns ((bs s).drop a) : Nat) : Int) = ((a + far step .ns ((bs s).drop a) : Nat) : Int) := by omega
      rw [this]
    | some v =>
      obtain ⟨y, -, hy⟩ := t1 v hm
      rw [hy]
      simp only [Option.bind_some]
      rw [if_neg (by omega)]
      obtain ⟨q, hq, -⟩ := (var_far hsep).2.2 ⟨v, hm⟩
      have hf := far_all hq
      rw [List.length_drop, bs_length] at hf
      have : (a : Int) + ((s.extract a s.size).size : Int) = ((a + far step .ns ((bs s).drop a) : Nat) : Int) := by omega
      rw [this]
  · intro x c t h
    rw [h] at hany
    obtain ⟨hl, hsep, hc⟩ := cut_some h
    simp only [Nat.zero_add] at hany
    have hlen : x.length < (s.extract a s.size).size := by
      have := congrArg List.length hl
      rw [List.length_drop, bs_length, List.length_append, List.length_cons] at this
      omega
    have hx : bs ((s.extract a s.size).extract 0 x.length) = x := by rw [bs_upto, hone, hl, List.take_left]
    have hxs : ((s.extract a s.size).extract 0 x.length).size = x.length := bs_size_upto _ _ (by omega)
    obtain ⟨t1, t2⟩ := prog_take6 ((s.extract a s.size).extract 0 x.length) (by omega) (by rw [hx]; exact hsep)
    rw [hx] at t1 t2
    have hbt : bt (s.extract a s.size) (x.length : Int) = (c : Int) := by
      obtain ⟨b, -, h1, h2⟩ := bs_get (s.extract a s.size) x.length hlen
      rw [hone, hl, List.drop_left] at h2
      rw [h1, (List.cons.inj h2).1]
    simp only [reader_spec.f, Int.toNat_natCast, hany]
    rw [if_pos (show (x.length : Int) ≥ 0 by omega)]
    refine ⟨fun hm => ?_, fun v hm => ?_⟩
    · rw [t2 hm]
      simp only [Option.bind_some]
      rw [if_neg (by omega)]
      have : (a : Int) + ((far step .ns x : Nat) : Int) = ((a + far step .ns x : Nat) : Int) := by omega
      rw [this]
    · obtain ⟨y, h1, hy⟩ := t1 v hm
      refine ⟨y, h1, ?_⟩
      rw [hy]
      simp only [Option.bind_some]
      rw [if_pos ⟨trivial, by omega⟩, hbt, hxs]
      have : (a : Int) + (x.length : Int) + 1 = ((a + x.length + 1 : Nat) : Int) := by omega
      rw [this]
theorem prog_expr (s : ByteArray) (hs : s.size ≤ 1099511627776) : ∀ (d a : Nat) (L : List S43), a ≤ s.size → s.size - a < d →
    (∀ vs t, exprN d ((bs s).drop a) = some (vs, t) → ∃ (sp : List S43) (a' : Nat), sp.map vM = vs ∧ exprFrom s d (a : Int) L = some (true, L ++ sp, (a' : Int)) ∧ a' ≤ s.size ∧ (bs s).drop a' = t ∧ a < a') ∧
    (exprN d ((bs s).drop a) = none → exprFrom s d (a : Int) L = some (false, [], ((a + far step .ns ((bs s).drop a) : Nat) : Int)))
  | 0, a, L, _, h => by omega
  | d + 1, a, L, ha, h => by
    obtain ⟨r1, r2⟩ := prog_reader s hs a ha
    simp only [exprN, exprFrom]
    cases hc : cut ((bs s).drop a) with
    | none =>
      rw [r1 hc]
      refine ⟨fun vs t g => (by cases g), fun _ => ?_⟩
      simp only [Option.bind_some]
      rw [if_neg (by simp)]
    | some p =>
      obtain ⟨x, c, t⟩ := p
      obtain ⟨hl, hsep, hc2⟩ := cut_some hc
      obtain ⟨r3, r4⟩ := r2 x c t hc
      obtain ⟨v1, v2⟩ := var_sep hsep c hc2 t
      have hlen : a + x.length + 1 ≤ s.size := by
        have := congrArg List.length hl
        rw [List.length_drop, bs_length, List.length_append, List.length_cons] at this
        omega
      have hdrop : (bs s).drop (a + x.length + 1) = t := by
        rw [Nat.add_assoc, ← List.drop_drop, hl, ← List.drop_drop, List.drop_left]
        rfl
      simp only
      cases hm : mVar x with
      | none =>
        rw [r3 hm]
        refine ⟨fun vs t g => (by cases g), fun _ => ?_⟩
        simp only [Option.bind_some]
        rw [if_neg (by simp), hl, (v2 hm).2]
      | some v =>
        obtain ⟨y, hy, hr⟩ := r4 v hm
        obtain ⟨w1, w2, -⟩ := v1 v hm
        rw [hr]
        simp only [Option.bind_some, if_true]
        by_cases h125 : c = 125
        · rw [if_pos h125, if_pos (by omega)]
          refine ⟨fun vs t' g => ?_, fun g => by cases g⟩
          cases g
          exact ⟨[y], a + x.length + 1, by rw [List.map_cons, hy]; rfl, rfl, hlen, hdrop, by omega⟩
        · rw [if_neg h125, if_neg (by omega)]
          obtain ⟨i1, i2⟩ := prog_expr s hs d (a + x.length + 1) (L ++ [y]) hlen (by omega)
          rw [hdrop] at i1 i2
          cases hx : exprN d t with
          | none =>
            refine ⟨fun vs t' g => (by cases g), fun _ => ?_⟩
            have := i2 hx
            rw [if_neg h125] at w2
            rw [hl, w2, show a + (x.length + 1 + far step .ns t) = a + x.length + 1 + far step .ns t by omega]
            exact this
          | some q =>
            obtain ⟨vs, t'⟩ := q
            obtain ⟨sp, a', k1, k2, k3, k4, k5⟩ := i1 vs t' hx
            refine ⟨fun vs' t2 g => ?_, fun g => by cases g⟩
            cases g
            refine ⟨y :: sp, a', by rw [List.map_cons, hy, k1], ?_, k3, k4, by omega⟩
            rw [List.append_assoc] at k2
            exact k2
theorem prog_oper {b : Nat} (h : b < 256) : tmpl_Operator.f (b : Int) = some (b == 0 || isOp b) := by
  have : ∀ b : Fin 256, tmpl_Operator.f ((b.1 : Nat) : Int) = some (b.1 == 0 || isOp b.1) := by decide +kernel
  exact this ⟨b, h⟩
theorem isOp_pos {b : Nat} (h : isOp b = true) : b ≠ 0 := by
  rintro rfl
  cases h
theorem prog_op (r : ByteArray) : opOf r = some (opN (bs r)).1 ∧ (opN (bs r)).2 = (bs r).drop (if (opN (bs r)).1 = 0 then 0 else 1) := by
  unfold opOf
  rcases bs_cases r with ⟨-, h2, h3⟩ | ⟨b, l, hb, h2, h3, h4, h5, h6, h7⟩
  · rw [if_pos h3, h2]
    exact ⟨rfl, rfl⟩
  · rw [if_neg h6, h3, h2, prog_oper hb]
    by_cases h : isOp b = true
    · have h0 := isOp_pos h
      have e : opN (b :: l) = ((b : Int), l) := by simp only [opN]; rw [if_pos h]
      have h1 : ¬ (b : Int) = 0 := by omega
      rw [h, Bool.or_true]
      simp only [e, h1, if_false, Option.map_some, if_true]
      exact ⟨trivial, rfl⟩
    · have e : opN (b :: l) = (0, b :: l) := by simp only [opN]; rw [if_neg h]
      rw [Bool.eq_false_iff.2 h, Bool.or_false]
      simp only [e, if_true]
      by_cases h0 : b = 0
      · rw [if_pos (by omega)]
        exact ⟨rfl, rfl⟩
      · rw [if_neg (by omega), beq_eq_false_iff_ne.2 h0]
        exact ⟨rfl, rfl⟩
theorem prog_parse_from (s : ByteArray) (hs : s.size ≤ 1099511627776) : ∀ (d a : Nat) (L : List S41) (e : Nat), a ≤ s.size → s.size - a < d → s.size - a ≤ e →
    (∀ t, mP e ((bs s).drop a) = some t → ∃ ps : List S41, ps.map pM = t ∧ Ev (fun k => parseFrom k s d (a : Int) L) (L ++ ps, (s.size : Int), 0)) ∧
    (mP e ((bs s).drop a) = none → Ev (fun k => parseFrom k s d (a : Int) L) ([], ((a + far step .top ((bs s).drop a) : Nat) : Int), 2))
  | 0, a, L, e, _, h, _ => by omega
  | d + 1, a, L, e, ha, h, he => by
    by_cases hlt : a < s.size
    · obtain ⟨b, hb, hbt, hd⟩ := bs_get s a hlt
      obtain ⟨e, rfl⟩ : ∃ x, e = x + 1 := ⟨e - 1, by omega⟩
      have hr : bs (s.extract a s.size) = b :: (bs s).drop (a + 1) := by rw [bs_from, hd]
      have hrs : (s.extract a s.size).size = s.size - a := bs_size_from s a
      have hbt2 : bt (s.extract a s.size) 0 = (b : Int) := by
        obtain ⟨x, -, x2, x3⟩ := bs_get (s.extract a s.size) 0 (by omega)
        rw [List.drop_zero, hr] at x3
        rw [(List.cons.inj x3).1]
        exact x2
      have hstep : ∀ R, Ev (fun k => (reader_part.f k s (a : Int)).bind fun t => if t.1 = true then (if (a : Int) < t.2.2 ∧ t.2.2 ≤ s.size then parseFrom k s d t.2.2 (L ++ [t.2.1]) else none) else some ([], t.2.2, 2)) R → Ev (fun k => parseFrom k s (d + 1) (a : Int) L) R := by
        intro R hR
        refine Ev.congr (fun k => ?_) hR
        simp only [parseFrom]
        rw [if_pos (by omega)]
      have hrl : ((bs s).drop (a + 1)).length = s.size - (a + 1) := by rw [List.length_drop, bs_length]
      rw [hd]
      simp only [mP]
      by_cases h123 : b = 123
      · rw [if_pos h123]
        subst h123
        obtain ⟨o1, o2⟩ := prog_op (s.extract (a + 1) s.size)
        have ho : bs (s.extract (a + 1) s.size) = (bs s).drop (a + 1) := bs_from s (a + 1)
        rw [ho] at o1 o2
        have hol := opN_length ((bs s).drop (a + 1))
        obtain ⟨m, hm, hmd, hms⟩ : ∃ m : Nat, (if (opN ((bs s).drop (a + 1))).1 = 0 then ((a : Int) + 1) else ((a : Int) + 1) + 1) = (m : Int) ∧ (bs s).drop m = (opN ((bs s).drop (a + 1))).2 ∧ (m = a + 1 ∨ (m = a + 2 ∧ (opN ((bs s).drop (a + 1))).2.length + 1 = ((bs s).drop (a + 1)).length)) := by
          by_cases g : (opN ((bs s).drop (a + 1))).1 = 0
          · rw [if_pos g]
            rw [if_pos g, List.drop_zero] at o2
            exact ⟨a + 1, by omega, o2.symm, .inl rfl⟩
          · rw [if_neg g]
            rw [if_neg g, List.drop_drop] at o2
            refine ⟨a + 2, by omega, o2.symm, .inr ⟨rfl, ?_⟩⟩
            have hne : (bs s).drop (a + 1) ≠ [] := by
              intro k
              rw [k] at g
              exact g rfl
            have := List.length_pos_iff.2 hne
            rw [o2, List.length_drop, bs_length]
            rw [hrl] at this ⊢
            omega
        have hmle : m ≤ s.size := by
          rcases hms with rfl | ⟨rfl, k⟩ <;> omega
        have hpart : ∀ k, reader_part.f k s (a : Int) = (exprFrom s (s.size + 2) (m : Int) []).map fun t => (t.1, ⟨⟨#[]⟩, (opN ((bs s).drop (a + 1))).1, t.2.1⟩, t.2.2) := by
          intro k
          unfold reader_part.f
          rw [Int.toNat_natCast, hbt2, if_pos (by rfl)]
          unfold reader_expression.f
          rw [show ((a : Int) + 1).toNat = a + 1 by omega, o1, Option.bind_some, hm]
          cases exprFrom s (s.size + 2) (m : Int) [] <;> rfl
        obtain ⟨x1, x2⟩ := prog_expr s hs (s.size + 2) m [] hmle (by omega)
        rw [hmd] at x1 x2
        have hfuel : exprN (s.size + 2) (opN ((bs s).drop (a + 1))).2 = exprN (((bs s).drop (a + 1)).length + 1) (opN ((bs s).drop (a + 1))).2 := expr_fuel' _ _ _ (by omega) (by omega)
        rw [hfuel] at x1 x2
        obtain ⟨et, -⟩ := expr_top (((bs s).drop (a + 1)).length + 1) (opN ((bs s).drop (a + 1))).2 (by omega)
        cases hx : exprN (((bs s).drop (a + 1)).length + 1) (opN ((bs s).drop (a + 1))).2 with
        | none =>
          refine ⟨fun t g => (by cases g), fun _ => hstep _ ?_⟩
          have hpos : m + far step .ns (opN ((bs s).drop (a + 1))).2 = a + far step .top (123 :: (bs s).drop (a + 1)) := by
            rw [far_some step_open_brace]
            by_cases hne : (bs s).drop (a + 1) = []
            · rw [hne]
              have e1 : (opN ([] : List Nat)).2 = [] := rfl
              rw [e1]
              rcases hms with rfl | ⟨rfl, k⟩
              · rfl
              · rw [hne] at k
                simp [e1] at k
            · rw [(opN_run _ hne).2]
              rcases hms with g | ⟨rfl, k⟩
              · have : (opN ((bs s).drop (a + 1))).2.length = ((bs s).drop (a + 1)).length := by rw [← hmd, g]
                omega
              · omega
          rw [← hpos]
          refine Ev.congr (f := fun _ => some ([], ((m + far step .ns (opN ((bs s).drop (a + 1))).2 : Nat) : Int), 2)) (fun k => ?_) (Ev.now _)
          rw [hpart, x2 hx]
          simp only [Option.map_some, Option.bind_some]
          rw [if_neg (by simp)]
        | some q =>
          obtain ⟨vs, t⟩ := q
          obtain ⟨sp, a', k1, k2, k3, k4, k5⟩ := x1 vs t hx
          obtain ⟨-, p, hp, hp0, hp1⟩ := et vs t hx
          have haa : a < a' := by rcases hms with rfl | ⟨rfl, -⟩ <;> omega
          have hpart2 : ∀ R, Ev (fun k => parseFrom k s d (a' : Int) (L ++ [⟨⟨#[]⟩, (opN ((bs s).drop (a + 1))).1, sp⟩])) R → Ev (fun k => parseFrom k s (d + 1) (a : Int) L) R := by
            intro R hR
            refine hstep _ (Ev.congr (fun k => ?_) hR)
            rw [hpart, k2]
            simp only [Option.map_some, Option.bind_some, List.nil_append, if_true]
            rw [if_pos ⟨by omega, by omega⟩]
          obtain ⟨i1, i2⟩ := prog_parse_from s hs d a' (L ++ [⟨⟨#[]⟩, (opN ((bs s).drop (a + 1))).1, sp⟩]) e k3 (by omega) (by omega)
          rw [k4] at i1 i2
          simp only
          cases hmp : mP e t with
          | none =>
            refine ⟨fun t g => (by cases g), fun _ => hpart2 _ ?_⟩
            have hpos : a' + far step .top t = a + far step .top (123 :: (bs s).drop (a + 1)) := by
              have hne : (bs s).drop (a + 1) ≠ [] := by
                intro g
                rw [g] at hp
                have := congrArg List.length hp
                rw [List.length_append] at this
                have h3 := List.length_pos_iff.2 hp0
                have e1 : (opN ([] : List Nat)).2 = [] := rfl
                rw [e1] at this
                simp only [List.length_nil] at this
                omega
              have e1 : far step .top (123 :: (bs s).drop (a + 1)) = (((bs s).drop (a + 1)).length - (opN ((bs s).drop (a + 1))).2.length) + (p.length + far step .top t) + 1 := by
                rw [far_some step_open_brace, (opN_run _ hne).2]
                conv => lhs; rw [hp, far_append p _ hp1]
                congr 2
                rw [← hp]
              have e2 := congrArg List.length hp
              rw [List.length_append] at e2
              have e3 := congrArg List.length k4
              rw [List.length_drop, bs_length] at e3
              rw [e1]
              rw [hrl] at hol ⊢
              omega
            rw [← hpos]
            exact i2 hmp
          | some qs =>
            obtain ⟨ps, j1, j2⟩ := i1 qs hmp
            refine ⟨fun t g => ?_, fun g => by cases g⟩
            cases g
            refine ⟨⟨⟨#[]⟩, (opN ((bs s).drop (a + 1))).1, sp⟩ :: ps, ?_, hpart2 _ ?_⟩
            · rw [List.map_cons, j1]
              simp only [pM, k1, bs_void]
            · rw [List.append_assoc] at j2
              exact j2
      · rw [if_neg h123]
        have hpcs := prog_pieces (s.extract a s.size) (by omega) (((bs s).drop (a + 1)).length + 2) (by omega)
        rw [hr] at hpcs
        by_cases hz : piecesN (((bs s).drop (a + 1)).length + 2) (b :: (bs s).drop (a + 1)) = 0
        · rw [if_pos hz]
          rw [hz] at hpcs
          refine ⟨fun t g => (by cases g), fun _ => hstep _ ?_⟩
          have hp0 := (pieces_zero _ _).1 hz
          rw [(stop_far hp0 h123).1]
          have hst := prog_stop (s.extract a s.size) (by omega) (by rw [hr]; simp)
          rw [hr] at hst
          have hpart : Ev (fun k => reader_part.f k s (a : Int)) (false, z41, ((a + stopN (b :: (bs s).drop (a + 1)) : Nat) : Int)) := by
            unfold reader_part.f
            rw [Int.toNat_natCast, hbt2]
            refine Ev.neg (by omega) (hpcs.bind (Ev.pos (by omega) ?_))
            unfold reader_stop.f
            rw [Int.toNat_natCast]
            obtain ⟨K, hK⟩ := hst
            exact ⟨K, fun k hk => by simp only [hK k hk, Option.map_some]; congr 3⟩
          exact hpart.bind (Ev.neg (by simp) (Ev.now _))
        · rw [if_neg hz]
          obtain ⟨q1, q2⟩ := pieces_top (((bs s).drop (a + 1)).length + 2) (b :: (bs s).drop (a + 1))
          have hfar : far step .top (b :: (bs s).drop (a + 1)) = piecesN (((bs s).drop (a + 1)).length + 2) (b :: (bs s).drop (a + 1)) + far step .top ((b :: (bs s).drop (a + 1)).drop (piecesN (((bs s).drop (a + 1)).length + 2) (b :: (bs s).drop (a + 1)))) := by
            conv => lhs; rw [← List.take_append_drop (piecesN (((bs s).drop (a + 1)).length + 2) (b :: (bs s).drop (a + 1))) (b :: (bs s).drop (a + 1))]
            rw [far_append _ _ q2, List.length_take, Nat.min_eq_left q1]
          rw [hfar]
          generalize piecesN (((bs s).drop (a + 1)).length + 2) (b :: (bs s).drop (a + 1)) = m at *
          have hml : m ≤ s.size - a := by
            rw [List.length_cons, hrl] at q1
            omega
          have hdm : (b :: (bs s).drop (a + 1)).drop m = (bs s).drop (a + m) := by rw [← hd, List.drop_drop]
          have htm : bs ((s.extract a s.size).extract 0 m) = (b :: (bs s).drop (a + 1)).take m := by rw [bs_upto, hr]
          rw [hdm]
          have hpart : Ev (fun k => reader_part.f k s (a : Int)) (true, ⟨(s.extract a s.size).extract 0 m, 0, []⟩, ((a + m : Nat) : Int)) := by
            unfold reader_part.f
            rw [Int.toNat_natCast, hbt2]
            refine Ev.neg (by omega) (hpcs.bind (Ev.neg (by omega) (Ev.pos ⟨by omega, by omega⟩ ?_)))
            rw [Int.toNat_natCast, show (a : Int) + (m : Int) = ((a + m : Nat) : Int) by omega]
            exact Ev.now _
          have hpart2 : ∀ R, Ev (fun k => parseFrom k s d ((a + m : Nat) : Int) (L ++ [⟨(s.extract a s.size).extract 0 m, 0, []⟩])) R → Ev (fun k => parseFrom k s (d + 1) (a : Int) L) R := by
            intro R hR
            exact hstep _ (hpart.bind (Ev.pos rfl (Ev.pos ⟨show (a : Int) < ((a + m : Nat) : Int) by omega, show ((a + m : Nat) : Int) ≤ (s.size : Int) by omega⟩ hR)))
          obtain ⟨i1, i2⟩ := prog_parse_from s hs d (a + m) (L ++ [⟨(s.extract a s.size).extract 0 m, 0, []⟩]) e (by omega) (by omega) (by omega)
          cases hmp : mP e ((bs s).drop (a + m)) with
          | none =>
            refine ⟨fun t g => (by cases g), fun _ => hpart2 _ ?_⟩
            rw [← Nat.add_assoc]
            exact i2 hmp
          | some qs =>
            obtain ⟨ps, j1, j2⟩ := i1 qs hmp
            refine ⟨fun t g => ?_, fun g => by cases g⟩
            cases g
            refine ⟨⟨(s.extract a s.size).extract 0 m, 0, []⟩ :: ps, ?_, hpart2 _ ?_⟩
            · rw [List.map_cons, j1]
              simp only [pM, htm, List.map_nil]
            · rw [List.append_assoc] at j2
              exact j2
    · have e0 : (bs s).drop a = [] := List.drop_eq_nil_of_le (by rw [bs_length]; omega)
      rw [e0]
      have : mP e [] = some [] := by cases e <;> rfl
      rw [this]
      refine ⟨fun t g => ?_, fun g => by cases g⟩
      cases g
      refine ⟨[], rfl, Ev.congr (f := fun _ => some (L, (s.size : Int), 0)) (fun k => ?_) (by rw [List.append_nil]; exact Ev.now _)⟩
      simp only [parseFrom]
      rw [if_neg (by omega)]
theorem prog_parse (s : ByteArray) (hs : s.size ≤ 1099511627776) :
    (run step .top (bs s) = some .top → ∃ ps, mP s.size (bs s) = some (ps.map pM) ∧ Ev (fun k => tmpl_Parse.f k s) (ps, (s.size : Int), 0)) ∧
    (run step .top (bs s) ≠ some .top → Ev (fun k => tmpl_Parse.f k s) (([] : List S41), ((far step .top (bs s) : Nat) : Int), 2)) := by
  obtain ⟨h1, h2⟩ := prog_parse_from s hs (s.size + 1) 0 [] s.size (by omega) (by omega) (by omega)
  rw [List.drop_zero] at h1 h2
  have h3 := mP_run s.size (bs s) (by rw [bs_length]; exact Nat.le_refl _)
  have hp : ∀ R, Ev (fun k => parseFrom k s (s.size + 1) ((0 : Nat) : Int) []) R → Ev (fun k => tmpl_Parse.f k s) R := fun R hR => Ev.congr (fun k => by simp only [tmpl_Parse.f]; rw [if_pos hs]; rfl) hR
  constructor
  · intro h
    obtain ⟨t, ht⟩ := h3.2 h
    obtain ⟨ps, g1, g2⟩ := h1 t ht
    exact ⟨ps, by rw [ht, g1], hp _ g2⟩
  · intro h
    have hm : mP s.size (bs s) = none := by
      cases hm : mP s.size (bs s) with
      | none => rfl
      | some t => exact absurd (h3.1 ⟨t, hm⟩) h
    have := h2 hm
    rw [Nat.zero_add] at this
    exact hp _ this
theorem prog_parse1 (s : ByteArray) (hs : s.size ≤ 1099511627776) : ∃ (ps : List S41) (e : Int), Ev (fun k => tmpl_Parse.f k s) (ps, ((far step .top (bs s) : Nat) : Int), e) ∧
    (run step .top (bs s) = some .top → e = 0 ∧ mP s.size (bs s) = some (ps.map pM)) ∧ (run step .top (bs s) ≠ some .top → e = 2 ∧ ps = []) := by
  obtain ⟨h1, h2⟩ := prog_parse s hs
  by_cases h : run step .top (bs s) = some .top
  · obtain ⟨ps, g1, g2⟩ := h1 h
    have hf := far_all h
    rw [bs_length] at hf
    exact ⟨ps, 0, by rw [hf]; exact g2, fun _ => ⟨rfl, g1⟩, fun g => absurd h g⟩
  · exact ⟨[], 2, h2 h, fun g => absurd g h, fun _ => ⟨rfl, rfl⟩⟩
theorem dec_figs : ∀ (d n : Nat), 0 < d → n < 10 ^ d → (Lib.decDigits n).map (·.toNat) = figsN d n
 | 0, _, h, _ => by omega
 | d + 1, n, _, h => by
  rw [Lib.decDigits]
  simp only [figsN]
  split
  · simp only [List.map_cons, List.map_nil, UInt8.toNat_ofNat']
    rw [Nat.mod_eq_of_lt (by omega)]
  · rename_i hn
    have hd : 0 < d := by
     refine Nat.pos_of_ne_zero fun e => ?_
     subst e
     simp at h
     omega
    rw [List.map_append, dec_figs d (n / 10) hd (by rw [Nat.pow_succ] at h; omega)]
    simp only [List.map_cons, List.map_nil, UInt8.toNat_ofNat']
    rw [Nat.mod_eq_of_lt (by omega)]
theorem prog_name (s : ByteArray) (hs : s.size ≤ 1099511627776) : ∃ b, vname_May.f s = some b ∧ (b = true ↔ run nstep .ns (bs s) = some .n) := by
 unfold vname_May.f
 by_cases h0 : s.toList = []
 · rw [if_pos h0]
   refine ⟨false, rfl, ?_⟩
   rw [toList_nil.1 h0]
   simp [run]
 · rw [if_neg h0]
   unfold vname_End.f
   rw [prog_ends_f s hs]
   refine ⟨_, rfl, ?_⟩
   have hn : (bs s).length ≠ 0 := fun e => h0 (toList_nil.2 (List.eq_nil_of_length_eq_zero e))
   have hsz := bs_length s
   show (((nameEnd (bs s) : Nat) : Int) == (s.size : Int)) = true ↔ _
   rw [beq_iff_eq, ← hsz]
   constructor
   · intro h
     have h : nameEnd (bs s) = (bs s).length := by omega
     have := nameEnd_is (bs s) (by omega)
     rw [h, List.take_length] at this
     exact this
   · intro h
     have := nameEnd_put (t := []) h (.inl rfl)
     rw [List.append_nil] at this
     rw [this]
theorem prog_may6 {v : S43} (hs : v.f0.size ≤ 1099511627776) : ∃ b, spec_May.f v.f0 v.f1 v.f2 = some b ∧ (b = true ↔ GoodV (vM v)) := by
 obtain ⟨b, hb, hiff⟩ := prog_name v.f0 hs
 unfold spec_May.f
 rw [hb, Option.bind_some]
 show ∃ b', _ ∧ (b' = true ↔ run nstep .ns (bs v.f0) = some .n ∧ 0 ≤ v.f1 ∧ v.f1 ≤ 9999 ∧ (v.f2 = true → v.f1 = 0))
 rw [← hiff]
 by_cases h1 : b = true
 · rw [if_pos h1]
   by_cases h2 : v.f1 ≥ 0
   · rw [if_pos h2]
     by_cases h3 : v.f1 ≤ 9999
     · rw [if_pos h3]
       by_cases h4 : v.f2 = true
       · rw [if_pos h4]
         refine ⟨_, rfl, ?_⟩
         rw [h4]
         simp only [Bool.not_eq_true', decide_eq_false_iff_not]
         constructor
         · intro g
           exact ⟨h1, h2, h3, fun _ => by omega⟩
         · rintro ⟨-, -, -, g⟩
           have := g trivial
           omega
       · rw [if_neg h4]
         exact ⟨_, rfl, fun _ => ⟨h1, h2, h3, fun g => absurd g h4⟩, fun _ => rfl⟩
     · rw [if_neg h3]
       exact ⟨_, rfl, fun g => (by cases g), fun g => absurd g.2.2.1 h3⟩
   · rw [if_neg h2]
     exact ⟨_, rfl, fun g => (by cases g), fun g => absurd g.2.1 h2⟩
 · rw [if_neg h1]
   exact ⟨_, rfl, fun g => (by cases g), fun g => absurd g.1 h1⟩
theorem goodV_iff {v : S43} (hs : v.f0.size ≤ 1099511627776) : goodV v = true ↔ GoodV (vM v) := by
 obtain ⟨b, hb, hiff⟩ := prog_may6 hs
 rw [← hiff]
 unfold goodV
 rw [hb]
theorem prog_put6 {v : S43} (hs : v.f0.size ≤ 1099511627776) (hg : GoodV (vM v)) : ∃ t, spec_Put.f v.f0 v.f1 v.f2 = some t ∧ bs t = putV (vM v) ∧ t.size ≤ v.f0.size + 5 := by
 obtain ⟨b, hb, hiff⟩ := prog_may6 hs
 have hbt := hiff.2 hg
 obtain ⟨-, g0, g1, g2⟩ := hg
 have g0 : 0 ≤ v.f1 := g0
 have g1 : v.f1 ≤ 9999 := g1
 have hP : putV (vM v) = bs v.f0 ++ putBehind v.f1 v.f2 := rfl
 unfold spec_Put.f
 rw [hb, hbt, Option.bind_some, if_pos rfl, hP]
 unfold putBehind
 by_cases h4 : v.f2 = true
 · rw [if_pos h4, if_pos h4, if_pos (by omega)]
   refine ⟨_, rfl, bs_append _ _, ?_⟩
   rw [ByteArray.size_append]
   show v.f0.size + 1 ≤ _
   omega
 · rw [if_neg h4, if_neg h4]
   by_cases h5 : v.f1 > 0
   · rw [if_pos h5, if_pos (by omega), if_pos (show 0 < v.f1 from h5)]
     have hn := figs_num (m := v.f1.toNat) (by omega) (by omega)
     have hit : strconv_Itoa.f v.f1 = some ⟨(Lib.decDigits v.f1.toNat).toArray⟩ := by
      unfold strconv_Itoa.f Lib.itoa
      rw [if_pos (by omega), if_neg (by omega)]
     have hbd : bs ⟨(Lib.decDigits v.f1.toNat).toArray⟩ = figsN 4 v.f1.toNat := by
      rw [bs_mk]
      exact dec_figs 4 _ (by omega) (by omega)
     have hsz : (⟨(Lib.decDigits v.f1.toNat).toArray⟩ : ByteArray).size ≤ 4 := by
      rw [← bs_length, hbd]
      exact hn.1.2.1
     have hs1 : (v.f0 ++ (⟨#[58]⟩ : ByteArray)).size = v.f0.size + 1 := by
      rw [ByteArray.size_append]
      rfl
     rw [hit, Option.bind_some, hs1, if_pos (by omega)]
     refine ⟨_, rfl, ?_, ?_⟩
     · rw [bs_append, bs_append, hbd, List.append_assoc]
       rfl
     · rw [ByteArray.size_append, hs1]
       omega
   · rw [if_neg h5, if_neg (show ¬ 0 < v.f1 from h5)]
     exact ⟨_, rfl, (List.append_nil _).symm, by omega⟩
def putTail : List MVar → List Nat
 | [] => []
 | v :: r => 44 :: (putV v ++ putTail r)
theorem putVs_tail : ∀ (r : List MVar) (v : MVar), putVs (v :: r) = putV v ++ (putTail r ++ [125])
 | [], v => by
  simp only [putVs, putTail]
  rw [if_pos trivial]
  rfl
 | w :: r, v => by
  have ih := putVs_tail r w
  simp only [putVs] at ih
  simp only [putVs, putTail]
  rw [if_neg (by simp), ih]
  simp
theorem specs_tail (op : Int) : ∀ (sp : List S43) (j : Nat), 0 < j → (∀ v ∈ sp, v.f0.size ≤ 1099511627776 ∧ GoodV (vM v)) → ∃ u, specsText op j sp = some u ∧ u.map (·.toNat) = putTail (sp.map vM)
 | [], j, _, _ => ⟨[], rfl, rfl⟩
 | v :: r, j, hj, h => by
  obtain ⟨h1, h2⟩ := h v (List.mem_cons_self ..)
  obtain ⟨t, ht, hbt, -⟩ := prog_put6 h1 h2
  obtain ⟨u, hu, hbu⟩ := specs_tail op r (j + 1) (by omega) fun x hx => h x (List.mem_cons_of_mem _ hx)
  simp only [specsText]
  rw [ht, Option.bind_some, hu]
  refine ⟨_, rfl, ?_⟩
  have hb : t.data.toList.map (·.toNat) = putV (vM v) := hbt
  rw [aheadOf, if_pos hj, List.map_append, List.map_append, hb, hbu]
  rfl
theorem op_byte {op : Int} (h : GoodOp op) : 0 ≤ op ∧ op ≤ 255 ∧ (op ≠ 0 → op.toNat.toUInt8.toNat = op.toNat) := by
 rcases h with rfl | ⟨b, hb, rfl⟩
 · exact ⟨by omega, by omega, fun e => absurd rfl e⟩
 · have : b < 256 := by
    simp only [isOp, Bool.or_eq_true, beq_iff_eq] at hb
    omega
   refine ⟨by omega, by omega, fun _ => ?_⟩
   rw [Int.toNat_natCast]
   show b % 256 = b
   omega
theorem part_text {x : S41} (hg : GoodP (pM x)) (hs : ∀ v ∈ x.f2, v.f0.size ≤ 1099511627776) : ∃ u, partText x = some u ∧ u.map (·.toNat) = putP (pM x) := by
 obtain ⟨lit, op, sp⟩ := x
 obtain ⟨g1, g2⟩ := hg
 cases sp with
 | nil =>
  refine ⟨lit.data.toList ++ ([] ++ []), rfl, ?_⟩
  show _ = bs lit ++ _
  rw [List.map_append]
  rfl
 | cons v r =>
  obtain ⟨o1, o2, o3⟩ := g2 (by simp [pM])
  have o3 : ∀ y ∈ (v :: r), GoodV (vM y) := fun y hy => o3 (vM y) (List.mem_map_of_mem hy)
  obtain ⟨t, ht, hbt, -⟩ := prog_put6 (hs v (List.mem_cons_self ..)) (o3 v (List.mem_cons_self ..))
  obtain ⟨u, hu, hbu⟩ := specs_tail op r 1 (by omega) fun y hy => ⟨hs y (List.mem_cons_of_mem _ hy), o3 y (List.mem_cons_of_mem _ hy)⟩
  have hst : specsText op 0 (v :: r) = some (aheadOf op 0 ++ (t.data.toList ++ u)) := by
   simp only [specsText]
   rw [ht, Option.bind_some, hu]
   rfl
  unfold partText
  simp only [hst]
  refine ⟨_, rfl, ?_⟩
  rw [if_pos (by simp)]
  have hb : t.data.toList.map (·.toNat) = putV (vM v) := hbt
  have ha : (aheadOf op 0).map (·.toNat) = 123 :: opL op := by
   obtain ⟨p0, p1, p2⟩ := op_byte o2
   unfold aheadOf opL
   rw [if_neg (by omega)]
   have p2 : op ≠ 0 → op.toNat.toUInt8.toNat = op.toNat := p2
   by_cases ho : op = 0
   · rw [if_neg (by simpa using ho), if_pos ho]
     rfl
   · rw [if_pos ho, if_neg ho]
     show [123, op.toNat.toUInt8.toNat] = _
     rw [p2 ho]
  have hl : lit.data.toList.map (·.toNat) = bs lit := rfl
  simp only [List.map_append, hb, hbu, ha, hl]
  show _ = bs lit ++ (if (vM v :: r.map vM) = [] then [] else 123 :: (opL op ++ putVs (vM v :: r.map vM)))
  rw [if_neg (by simp), putVs_tail]
  simp
theorem parts_text : ∀ (l : List S41), MayT (l.map pM) → (∀ x ∈ l, ∀ v ∈ x.f2, v.f0.size ≤ 1099511627776) → ∃ u, partsText l = some u ∧ u.map (·.toNat) = putT (l.map pM)
 | [], _, _ => ⟨[], rfl, rfl⟩
 | x :: r, h, hs => by
  obtain ⟨h1, -, h3⟩ := h
  obtain ⟨a, ha, hba⟩ := part_text h1 (hs x (List.mem_cons_self ..))
  obtain ⟨u, hu, hbu⟩ := parts_text r h3 fun y hy => hs y (List.mem_cons_of_mem _ hy)
  simp only [partsText]
  rw [ha, Option.bind_some, hu]
  refine ⟨_, rfl, ?_⟩
  rw [List.map_append, hba, hbu]
  rfl
def OKP (x : S41) : Prop := x.f0.size ≤ 1099511627776 ∧ 0 ≤ x.f1 ∧ x.f1 ≤ 255 ∧ x.f2.length ≤ 1099511627776 ∧ ∀ v ∈ x.f2, v.f0.size ≤ 1099511627776
theorem all_good {l : List S43} (hs : ∀ v ∈ l, v.f0.size ≤ 1099511627776) : l.all goodV = true ↔ ∀ v ∈ l.map vM, GoodV v := by
 rw [List.all_eq_true]
 constructor
 · intro h v hv
   obtain ⟨x, hx, rfl⟩ := List.mem_map.1 hv
   exact (goodV_iff (hs x hx)).1 (h x hx)
 · intro h x hx
   exact (goodV_iff (hs x hx)).2 (h (vM x) (List.mem_map_of_mem hx))
theorem prog_oper2 {n : Int} (h0 : 0 ≤ n) (h1 : n ≤ 255) : ∃ b, tmpl_Operator.f n = some b ∧ (b = true ↔ GoodOp n) := by
 obtain ⟨m, rfl⟩ : ∃ m : Nat, n = (m : Int) := ⟨n.toNat, by omega⟩
 refine ⟨_, prog_oper (by omega), ?_⟩
 rw [Bool.or_eq_true, beq_iff_eq]
 constructor
 · rintro (h | h)
   · exact .inl (by omega)
   · exact .inr ⟨m, h, rfl⟩
 · rintro (h | ⟨b, h, e⟩)
   · exact .inl (by omega)
   · exact .inr (by rw [show m = b by omega]; exact h)
theorem fine_iff {x : S41} (h : OKP x) : fineB x.f0 x.f1 x.f2 = true ↔ GoodP (pM x) := by
 obtain ⟨lit, op, sp⟩ := x
 obtain ⟨h1, h2, h3, h4, h5⟩ := h
 simp only at h1 h2 h3 h4 h5
 have hgp : GoodP (pM ⟨lit, op, sp⟩) ↔ (sp.map vM = [] → op = 0 ∧ bs lit ≠ [] ∧ piecesN ((bs lit).length + 1) (bs lit) = (bs lit).length) ∧ (sp.map vM ≠ [] → bs lit = [] ∧ GoodOp op ∧ ∀ v ∈ sp.map vM, GoodV v) := Iff.rfl
 rw [hgp]
 unfold fineB
 have hsz := bs_length lit
 by_cases hl : sp.length = 0
 · obtain rfl := List.eq_nil_of_length_eq_zero hl
   rw [if_pos hl]
   simp only [Bool.and_eq_true, beq_iff_eq, bne_iff_ne, ne_eq, List.map_nil, forall_const, not_true_eq_false, false_implies, and_true, toList_nil, hsz]
   constructor
   · rintro ⟨a, b, c⟩
     exact ⟨a, b, by omega⟩
   · rintro ⟨a, b, c⟩
     exact ⟨a, b, by omega⟩
 · rw [if_neg hl]
   have hne : sp.map vM ≠ [] := by
    intro e
    exact hl (by simpa using congrArg List.length e)
   obtain ⟨b, hb, hbi⟩ := prog_oper2 h2 h3
   rw [hb]
   simp only [Bool.and_eq_true, beq_iff_eq, all_good h5, hbi, toList_nil]
   constructor
   · rintro ⟨a, b, c⟩
     exact ⟨fun e => absurd e hne, fun _ => ⟨a, b, c⟩⟩
   · rintro ⟨-, g⟩
     obtain ⟨a, b, c⟩ := g hne
     exact ⟨a, b, c⟩
theorem prog_fine {x : S41} (h : OKP x) : tmpl_fine.f x.f0 x.f1 x.f2 = some (fineB x.f0 x.f1 x.f2) := by
 obtain ⟨h1, h2, h3, h4, h5⟩ := h
 unfold tmpl_fine.f
 rw [if_pos ⟨h1, h2, h3, h4, List.all_eq_true.2 fun v hv => decide_eq_true (h5 v hv)⟩]
theorem rd_part (l : List S41) (i : Nat) (h : i < l.length) : rd_T41 l (i : Int) = l[i] := by
 unfold rd_T41
 rw [Int.toNat_natCast, List.getD_eq_getElem?_getD, List.getElem?_eq_getElem h]
 rfl
theorem may_loop (l : List S41) (hb : ∀ x ∈ l, OKP x) (hl : l.length ≤ 1099511627776) : ∀ (d k i : Nat), i + d = l.length → d < k →
 ∃ b, tmpl_May.l0 k l l (l.length : Int) (i : Int) = some b ∧ (b = true ↔ (∀ y z, 0 < i → l[i - 1]? = some y → l[i]? = some z → y.f2 = [] → z.f2 ≠ []) ∧ MayT ((l.drop i).map pM))
 | d, 0, _, _, h => by omega
 | 0, k + 1, i, h, _ => by
  simp only [tmpl_May.l0]
  rw [if_neg (by omega)]
  refine ⟨true, rfl, fun _ => ⟨fun y z _ _ hz => ?_, ?_⟩, fun _ => rfl⟩
  · rw [List.getElem?_eq_none (by omega)] at hz
    cases hz
  · rw [List.drop_eq_nil_of_le (by omega)]
    trivial
 | d + 1, k + 1, i, h, hk => by
  have hi : i < l.length := by omega
  have hd : l.drop i = l[i] :: l.drop (i + 1) := List.drop_eq_getElem_cons hi
  have hok := hb l[i] (List.getElem_mem hi)
  have hw : wrap64 ((i : Int) + 1) = ((i + 1 : Nat) : Int) := by
   rw [w64 (by omega) (by omega)]
   omega
  obtain ⟨b, hbr, hbi⟩ := may_loop l hb hl d k (i + 1) (by omega) (by omega)
  simp only [tmpl_May.l0]
  rw [if_pos (by omega), if_pos (by omega), if_pos (by omega), rd_part l i hi, prog_fine hok, Option.bind_some]
  have hget : l[i]? = some l[i] := List.getElem?_eq_getElem hi
  have hMay : MayT ((l.drop i).map pM) ↔ GoodP (pM l[i]) ∧ (l[i].f2 = [] → ∀ z, l[i + 1]? = some z → z.f2 ≠ []) ∧ MayT ((l.drop (i + 1)).map pM) := by
   rw [hd]
   show GoodP (pM l[i]) ∧ ((l[i].f2.map vM) = [] → ∀ y, ((l.drop (i + 1)).map pM).head? = some y → y.specs ≠ []) ∧ _ ↔ _
   rw [List.map_eq_nil_iff]
   have hh : ((l.drop (i + 1)).map pM).head? = (l[i + 1]?).map pM := by
    rw [List.head?_map, List.head?_drop]
   rw [hh]
   constructor
   · rintro ⟨a, b, c⟩
     refine ⟨a, fun e z hz hz2 => b e (pM z) (by rw [hz]; rfl) ?_, c⟩
     show z.f2.map vM = []
     rw [hz2]
     rfl
   · rintro ⟨a, b, c⟩
     refine ⟨a, fun e y hy => ?_, c⟩
     obtain ⟨z, hz, rfl⟩ := Option.map_eq_some_iff.1 hy
     intro e2
     exact b e z hz (List.map_eq_nil_iff.1 e2)
  have hrec : (b = true ↔ (l[i].f2 = [] → ∀ z, l[i + 1]? = some z → z.f2 ≠ []) ∧ MayT ((l.drop (i + 1)).map pM)) := by
   rw [hbi]
   constructor
   · rintro ⟨a, c⟩
     exact ⟨fun e z hz => a l[i] z (by omega) hget hz e, c⟩
   · rintro ⟨a, c⟩
     refine ⟨fun y z _ hy hz he => ?_, c⟩
     have hy : l[i]? = some y := hy
     rw [hget] at hy
     cases hy
     exact a he z hz
  have hf := fine_iff hok
  by_cases hfi : fineB l[i].f0 l[i].f1 l[i].f2 = true
  · rw [if_pos hfi, hw]
    have hg := hf.1 hfi
    have hrest : (∀ y z, 0 < i → l[i - 1]? = some y → l[i]? = some z → y.f2 = [] → z.f2 ≠ []) → (b = true ↔ (∀ y z, 0 < i → l[i - 1]? = some y → l[i]? = some z → y.f2 = [] → z.f2 ≠ []) ∧ MayT ((l.drop i).map pM)) := fun hp => by
     rw [hrec, hMay]
     exact ⟨fun ⟨a, c⟩ => ⟨hp, hg, a, c⟩, fun ⟨_, _, a, c⟩ => ⟨a, c⟩⟩
    by_cases h0 : (i : Int) > 0
    · have hw2 : wrap64 ((i : Int) - 1) = ((i - 1 : Nat) : Int) := by
       rw [w64 (by omega) (by omega)]
       omega
      have hi1 : i - 1 < l.length := by omega
      have hget1 : l[i - 1]? = some l[i - 1] := List.getElem?_eq_getElem hi1
      rw [if_pos h0]
      by_cases h1 : (l[i].f2.length : Int) = 0
      · rw [if_pos h1, hw2, if_pos (by omega), if_pos (by omega), rd_part l (i - 1) hi1]
        have e1 : l[i].f2 = [] := List.eq_nil_of_length_eq_zero (by omega)
        by_cases h2 : (l[i - 1].f2.length : Int) = 0
        · rw [if_pos h2]
          have e2 : l[i - 1].f2 = [] := List.eq_nil_of_length_eq_zero (by omega)
          exact ⟨false, rfl, fun e => (by cases e), fun ⟨g, _⟩ => absurd e1 (g _ _ (by omega) hget1 hget e2)⟩
        · rw [if_neg h2, hbr]
          refine ⟨b, rfl, hrest fun y z _ hy hz he => ?_⟩
          rw [hget1] at hy
          cases hy
          rw [he] at h2
          exact absurd rfl h2
      · rw [if_neg h1, hbr]
        refine ⟨b, rfl, hrest fun y z _ hy hz he e => ?_⟩
        rw [hget] at hz
        cases hz
        rw [e] at h1
        exact h1 rfl
    · rw [if_neg h0, hbr]
      exact ⟨b, rfl, hrest fun y z hp => absurd hp (by omega)⟩
  · rw [if_neg hfi]
    refine ⟨false, rfl, fun e => (by cases e), fun ⟨_, g⟩ => ?_⟩
    exact absurd (hf.2 (hMay.1 g).1) hfi
theorem prog_may (l : List S41) (hb : ∀ x ∈ l, OKP x) (hl : l.length ≤ 1099511627776) : ∃ b, (∀ k, l.length < k → tmpl_May.f k l = some b) ∧ (b = true ↔ MayT (l.map pM)) := by
 obtain ⟨b, h1, h2⟩ := may_loop l hb hl l.length (l.length + 1) 0 (by omega) (by omega)
 refine ⟨b, fun k hk => ?_, ?_⟩
 · obtain ⟨b', h1', h2'⟩ := may_loop l hb hl l.length k 0 (by omega) hk
   have : b = b' := by
    rw [Bool.eq_iff_iff, h2, h2']
   rw [this]
   exact h1'
 · rw [h2, List.drop_zero]
   exact ⟨fun h => h.2, fun h => ⟨fun _ _ e => absurd e (by omega), h⟩⟩
theorem prog_put (l : List S41) (hb : ∀ x ∈ l, OKP x) (hl : l.length ≤ 1099511627776) (hu : (putT (l.map pM)).length ≤ 1099511627776) (hm : MayT (l.map pM)) : ∃ t, tmpl_Put.f l = some t ∧ bs t = putT (l.map pM) := by
 obtain ⟨b, h1, h2⟩ := prog_may l hb hl
 have hbt := h2.2 hm
 subst hbt
 obtain ⟨u, hu1, hu2⟩ := parts_text l hm fun x hx => (hb x hx).2.2.2.2
 unfold tmpl_Put.f mayB
 rw [h1 _ (by omega), Option.bind_some, if_pos rfl, hu1, Option.bind_some]
 have hlen : u.length ≤ 1099511627776 := by
  have := congrArg List.length hu2
  rw [List.length_map] at this
  omega
 rw [if_pos ⟨hlen, hl, List.all_eq_true.2 fun x hx => decide_eq_true ⟨(hb x hx).2.1, (hb x hx).2.2.1, (hb x hx).2.2.2.1⟩⟩]
 refine ⟨_, rfl, ?_⟩
 rw [bs_mk]
 exact hu2
end Go.Proofs.YtkipkbggnfllkaaDoor.P
end
section
namespace Go.Proofs.YtkipkbggnfllkaaDoor.P
open Go.RowKit Go.Proofs.YtkipkbggnfllkaaDoorW.PrintWords Go.Proofs.YtkipkbggnfllkaaDoorW.PrintLast Go.Proofs.YtkipkbggnfllkaaDoorW.PrintMore
set_option linter.unusedVariables false
theorem bk43_at (l : List S43) (i : Nat) (h : i < l.length) : ∃ y, rd_T43 l (i : Int) = y ∧ l.drop i = y :: l.drop (i + 1) := by
 refine ⟨l[i], ?_, List.drop_eq_getElem_cons h⟩
 unfold rd_T43
 rw [Int.toNat_natCast, List.getD_eq_getElem?_getD, List.getElem?_eq_getElem h]
 rfl
theorem bk41_at (l : List S41) (i : Nat) (h : i < l.length) : ∃ y, rd_T41 l (i : Int) = y ∧ l.drop i = y :: l.drop (i + 1) := by
 refine ⟨l[i], ?_, List.drop_eq_getElem_cons h⟩
 unfold rd_T41
 rw [Int.toNat_natCast, List.getD_eq_getElem?_getD, List.getElem?_eq_getElem h]
 rfl
def FewP (x : S41) : Prop := x.f0.size ≤ 200 ∧ x.f2.length ≤ 20 ∧ ∀ v ∈ x.f2, v.f0.size ≤ 200
theorem few_l1 (l : List S41) (i : Nat) (hi : i < l.length) (h31 : i < 31) (y : S41) (hy : rd_T41 l (i : Int) = y) (hsp : y.f2.length ≤ 20) (b : Bool) (h : Ev (fun k => rf07_Few.l0 k l ((i + 1 : Nat) : Int)) b) :
 ∀ (d j : Nat), j + d = y.f2.length → ∃ b', Ev (fun k => rf07_Few.l1 k l (i : Int) (j : Int)) b' ∧ (b' = true → b = true ∧ ∀ v ∈ y.f2.drop j, v.f0.size ≤ 200)
 | 0, j, hj => by
  have ew : wrap64 ((i : Int) + 1) = ((i + 1 : Nat) : Int) := by rw [w64 (by omega) (by omega)]; omega
  have c1 : (0 ≤ (i : Int)) = True := eq_true (by omega)
  have c2 : ((i : Int) < (l.length : Int)) = True := eq_true (by omega)
  have c3 : ((j : Int) < (y.f2.length : Int)) = False := eq_false (by omega)
  refine ⟨b, Ev.step (f := _) (fun k => ?_) h, fun e => ⟨e, ?_⟩⟩
  · simp only [rf07_Few.l1, c1, c2, hy, c3, if_true, if_false, ew]
  · rw [List.drop_eq_nil_of_le (by omega)]
    intro v hv
    cases hv
 | d + 1, j, hj => by
  have ew : wrap64 ((j : Int) + 1) = ((j + 1 : Nat) : Int) := by rw [w64 (by omega) (by omega)]; omega
  have c1 : (0 ≤ (i : Int)) = True := eq_true (by omega)
  have c2 : ((i : Int) < (l.length : Int)) = True := eq_true (by omega)
  have c3 : ((j : Int) < (y.f2.length : Int)) = True := eq_true (by omega)
  have c4 : (0 ≤ (j : Int)) = True := eq_true (by omega)
  obtain ⟨v, hv1, hv2⟩ := bk43_at y.f2 j (by omega)
  by_cases hs : v.f0.size > 200
  · have c5 : ((v.f0.size : Int) > 200) = True := eq_true (by omega)
    refine ⟨false, Ev.step (f := fun _ => some false) (fun k => ?_) (Ev.now _), fun e => by cases e⟩
    simp only [rf07_Few.l1, c1, c2, hy, c3, c4, hv1, c5, if_true]
  · have c5 : ((v.f0.size : Int) > 200) = False := eq_false (by omega)
    obtain ⟨b', h1, h2⟩ := few_l1 l i hi h31 y hy hsp b h d (j + 1) (by omega)
    refine ⟨b', Ev.step (f := _) (fun k => ?_) h1, fun e => ⟨(h2 e).1, ?_⟩⟩
    · simp only [rf07_Few.l1, c1, c2, hy, c3, c4, hv1, c5, if_true, if_false, ew]
    · rw [hv2]
      intro x hx
      rcases List.mem_cons.1 hx with rfl | hx
      · omega
      · exact (h2 e).2 x hx
theorem few_l0 (l : List S41) : ∀ (d i : Nat), i + d = l.length → i ≤ 31 → ∃ b, Ev (fun k => rf07_Few.l0 k l (i : Int)) b ∧ (b = true → l.length ≤ 30 ∧ ∀ x ∈ l.drop i, FewP x)
 | 0, i, hi, _ => by
  refine ⟨decide ((l.length : Int) ≤ 30), Ev.step (f := fun k => rf07_Few.j1 k l (i : Int) false) (fun k => ?_) (Ev.step (f := fun _ => some (decide ((l.length : Int) ≤ 30))) (fun k => ?_) (Ev.now _)), fun e => ⟨by have := of_decide_eq_true e; omega, ?_⟩⟩
  · simp only [rf07_Few.l0]
    rw [if_neg (by omega)]
  · simp only [rf07_Few.j1]
    rw [if_neg (by simp)]
  · rw [List.drop_eq_nil_of_le (by omega)]
    intro v hv
    cases hv
 | d + 1, i, hi, h31 => by
  have c1 : ((i : Int) < (l.length : Int)) = True := eq_true (by omega)
  have c2 : (0 ≤ (i : Int)) = True := eq_true (by omega)
  by_cases h : i < 31
  · obtain ⟨y, hy, hd⟩ := bk41_at l i (by omega)
    have c3 : decide ((i : Int) < 31) = true := decide_eq_true (by omega)
    have st : ∀ {b : Bool}, Ev (fun k => rf07_Few.j1 k l (i : Int) true) b → Ev (fun k => rf07_Few.l0 k l (i : Int)) b := fun h => Ev.step (f := _) (fun k => by simp only [rf07_Few.l0, c1, c3, if_true]) h
    by_cases hs : y.f0.size > 200
    · have c5 : ((y.f0.size : Int) > 200) = True := eq_true (by omega)
      refine ⟨false, st (Ev.step (f := fun k => rf07_Few.j2 k l (i : Int) true) (fun k => ?_) (Ev.step (f := fun _ => some false) (fun k => ?_) (Ev.now _))), fun e => by cases e⟩
      · simp only [rf07_Few.j1, c1, c2, hy, c5, if_true]
      · simp only [rf07_Few.j2, if_true]
    · have c5 : ((y.f0.size : Int) > 200) = False := eq_false (by omega)
      by_cases hq : y.f2.length > 20
      · have c6 : decide ((y.f2.length : Int) > 20) = true := decide_eq_true (by omega)
        refine ⟨false, st (Ev.step (f := fun k => rf07_Few.j2 k l (i : Int) true) (fun k => ?_) (Ev.step (f := fun _ => some false) (fun k => ?_) (Ev.now _))), fun e => by cases e⟩
        · simp only [rf07_Few.j1, c1, c2, hy, c5, c6, if_true, if_false]
        · simp only [rf07_Few.j2, if_true]
      · have c6 : decide ((y.f2.length : Int) > 20) = false := decide_eq_false (by omega)
        obtain ⟨b, h1, h2⟩ := few_l0 l d (i + 1) (by omega) (by omega)
        obtain ⟨b', h3, h4⟩ := few_l1 l i (by omega) h y hy (by omega) b h1 y.f2.length 0 (Nat.zero_add _)
        refine ⟨b', st (Ev.step (f := fun k => rf07_Few.j2 k l (i : Int) false) (fun k => ?_) (Ev.step (f := _) (fun k => ?_) h3)), fun e => ?_⟩
        · simp only [rf07_Few.j1, c1, c2, hy, c5, c6, if_true, if_false]
        · simp only [rf07_Few.j2, Bool.false_eq_true, if_false]
          rfl
        · obtain ⟨g1, g2⟩ := h4 e
          obtain ⟨g3, g4⟩ := h2 g1
          refine ⟨g3, ?_⟩
          rw [hd]
          intro x hx
          rcases List.mem_cons.1 hx with rfl | hx
          · rw [List.drop_zero] at g2
            exact ⟨by omega, by omega, g2⟩
          · exact g4 x hx
  · have c3 : decide ((i : Int) < 31) = false := decide_eq_false (by omega)
    refine ⟨false, Ev.step (f := fun k => rf07_Few.j1 k l (i : Int) false) (fun k => ?_) (Ev.step (f := fun _ => some false) (fun k => ?_) (Ev.now _)), fun e => by cases e⟩
    · simp only [rf07_Few.l0, c1, c3, if_true]
    · simp only [rf07_Few.j1]
      rw [if_neg (by simp), decide_eq_false (by omega)]
theorem ref_few (l : List S41) : ∃ b, Ev (fun k => rf07_Few.f k l) b ∧ (b = true → l.length ≤ 30 ∧ ∀ x ∈ l, FewP x) := by
 have := few_l0 l l.length 0 (Nat.zero_add _) (by omega)
 rw [List.drop_zero] at this
 exact this
theorem putVs_in : ∀ (vs : List MVar) (v : MVar), v ∈ vs → v.name.length ≤ (putVs vs).length
 | [], _, h => by cases h
 | w :: r, v, h => by
  simp only [putVs]
  rcases List.mem_cons.1 h with rfl | h
  · rw [List.length_append, putV, List.length_append]
    omega
  · have ih := putVs_in r v h
    have hr : r ≠ [] := by
     rintro rfl
     cases h
    rw [if_neg hr, List.length_append, List.length_cons]
    omega
theorem putP_pos {x : MPart} (h : GoodP x) : 1 ≤ (putP x).length := by
 unfold putP
 by_cases hs : x.specs = []
 · have := (h.1 hs).2.1
   rw [List.length_append]
   have : x.lit.length ≠ 0 := fun e => this (List.eq_nil_of_length_eq_zero e)
   omega
 · rw [if_neg hs, List.length_append, List.length_cons]
   omega
theorem goodP_op {x : MPart} (h : GoodP x) : 0 ≤ x.op ∧ x.op ≤ 255 := by
 by_cases hs : x.specs = []
 · have := (h.1 hs).1
   omega
 · obtain ⟨a, b, -⟩ := op_byte (h.2 hs).2.1
   exact ⟨a, b⟩
theorem putT_all : ∀ (t : List MPart), MayT t → t.length ≤ (putT t).length ∧ ∀ x ∈ t, x.lit.length ≤ (putT t).length ∧ 0 ≤ x.op ∧ x.op ≤ 255 ∧ x.specs.length ≤ (putT t).length ∧ ∀ v ∈ x.specs, v.name.length ≤ (putT t).length
 | [], _ => ⟨Nat.le_refl _, fun x hx => by cases hx⟩
 | y :: r, h => by
  obtain ⟨h1, -, h3⟩ := h
  obtain ⟨i1, i2⟩ := putT_all r h3
  have hp := putP_pos h1
  have hL : (putT (y :: r)).length = (putP y).length + (putT r).length := by
   simp only [putT, List.length_append]
  rw [hL]
  refine ⟨by rw [List.length_cons]; omega, fun x hx => ?_⟩
  rcases List.mem_cons.1 hx with rfl | hx
  · obtain ⟨o1, o2⟩ := goodP_op h1
    have hl : x.lit.length ≤ (putP x).length := by
     unfold putP
     rw [List.length_append]
     omega
    have hs : (putVs x.specs).length ≤ (putP x).length ∨ x.specs = [] := by
     by_cases hs : x.specs = []
     · exact .inr hs
     · left
       unfold putP
       rw [if_neg hs, List.length_append, List.length_cons, List.length_append]
       omega
    refine ⟨by omega, o1, o2, ?_, fun v hv => ?_⟩
    · rcases hs with hs | hs
      · by_cases hne : x.specs = []
        · rw [hne]
          exact Nat.zero_le _
        · have := putVs_length x.specs (h1.2 hne).2.2
          omega
      · rw [hs]
        exact Nat.zero_le _
    · rcases hs with hs | hs
      · have := putVs_in x.specs v hv
        omega
      · rw [hs] at hv
        cases hv
  · obtain ⟨a, b, c, d, e⟩ := i2 x hx
    exact ⟨by omega, b, c, by omega, fun v hv => by have := e v hv; omega⟩
theorem few_tail : ∀ (r : List S43), (∀ v ∈ r, v.f0.size ≤ 200 ∧ GoodV (vM v)) → (putTail (r.map vM)).length ≤ 206 * r.length
 | [], _ => Nat.le_refl _
 | v :: r, h => by
  obtain ⟨h1, h2⟩ := h v (List.mem_cons_self ..)
  obtain ⟨t, -, ht, hs⟩ := prog_put6 (by omega) h2
  have ih := few_tail r fun x hx => h x (List.mem_cons_of_mem _ hx)
  have hl : (putV (vM v)).length ≤ 205 := by
   rw [← ht, bs_length]
   omega
  show (44 :: (putV (vM v) ++ putTail (r.map vM))).length ≤ _
  rw [List.length_cons, List.length_append, List.length_cons]
  omega
theorem few_part {x : S41} (hf : FewP x) (hg : GoodP (pM x)) : (putP (pM x)).length ≤ 5000 := by
 obtain ⟨lit, op, sp⟩ := x
 obtain ⟨f1, f2, f3⟩ := hf
 simp only at f1 f2 f3
 have hb := bs_length lit
 cases sp with
 | nil =>
  show (bs lit ++ []).length ≤ _
  rw [List.append_nil]
  omega
 | cons v r =>
  obtain ⟨o1, o2, o3⟩ := hg.2 (by simp [pM])
  have o3 : ∀ y ∈ (v :: r), GoodV (vM y) := fun y hy => o3 (vM y) (List.mem_map_of_mem hy)
  have ht := few_tail (v :: r) fun y hy => ⟨f3 y hy, o3 y hy⟩
  have hop : (opL op).length ≤ 1 := by
   unfold opL
   split <;> simp
  show (bs lit ++ (if (vM v :: r.map vM) = [] then [] else 123 :: (opL op ++ putVs (vM v :: r.map vM)))).length ≤ _
  rw [if_neg (by simp), putVs_tail]
  have e : (putTail ((v :: r).map vM)).length = 1 + ((putV (vM v)).length + (putTail (r.map vM)).length) := by
   show (44 :: (putV (vM v) ++ putTail (r.map vM))).length = _
   rw [List.length_cons, List.length_append]
   omega
  simp only [List.length_append, List.length_cons, List.length_nil] at ht f2 ⊢
  omega
theorem few_length : ∀ (l : List S41), (∀ x ∈ l, FewP x) → MayT (l.map pM) → (putT (l.map pM)).length ≤ 5000 * l.length
 | [], _, _ => Nat.le_refl _
 | x :: r, hf, hm => by
  have h1 := few_part (hf x (List.mem_cons_self ..)) hm.1
  have ih := few_length r (fun y hy => hf y (List.mem_cons_of_mem _ hy)) hm.2.2
  show (putP (pM x) ++ putT (r.map pM)).length ≤ _
  rw [List.length_append, List.length_cons]
  omega
theorem few_ok {x : S41} (hf : FewP x) (h0 : 0 ≤ x.f1) (h1 : x.f1 ≤ 255) : OKP x := by
 obtain ⟨f1, f2, f3⟩ := hf
 exact ⟨by omega, h0, h1, by omega, fun v hv => by have := f3 v hv; omega⟩
theorem may_ok {l : List S41} {n : Nat} (hm : MayT (l.map pM)) (hn : (putT (l.map pM)).length ≤ n) (hn2 : n ≤ 1000000) : l.length ≤ n ∧ ∀ x ∈ l, OKP x := by
 obtain ⟨a, b⟩ := putT_all _ hm
 rw [List.length_map] at a
 refine ⟨by omega, fun x hx => ?_⟩
 obtain ⟨c, d, e, f, g⟩ := b (pM x) (List.mem_map_of_mem hx)
 have c : (bs x.f0).length ≤ _ := c
 rw [bs_length] at c
 have f : (x.f2.map vM).length ≤ _ := f
 rw [List.length_map] at f
 refine ⟨by omega, d, e, by omega, fun v hv => ?_⟩
 have := g (vM v) (List.mem_map_of_mem hv)
 have this : (bs v.f0).length ≤ _ := this
 rw [bs_length] at this
 omega
end Go.Proofs.YtkipkbggnfllkaaDoor.P
end
section
namespace Go.Proofs.YtkipkbggnfllkaaDoor.P
open Go.RowKit Go.Proofs.YtkipkbggnfllkaaDoorW.PrintWords Go.Proofs.YtkipkbggnfllkaaDoorW.PrintLast Go.Proofs.YtkipkbggnfllkaaDoorW.PrintMore
set_option linter.unusedVariables false
set_option linter.unusedSimpArgs false
theorem stopFrom_mono (k : Nat) (r : ByteArray) : ∀ (d : Nat) (n : Int), LeO (stopFrom k r d n) (stopFrom (k + 1) r d n)
 | 0, n => LeO.none _
 | d + 1, n => by
  unfold stopFrom
  refine LeO.ite (LeO.bind (ucs_Fits.mono _ _) (fun b => ?_)) (LeO.refl _)
  exact LeO.ite (stopFrom_mono k r d (n + 1)) (LeO.refl _)
theorem reader_stop_mono (k : Nat) (s : ByteArray) (a : Int) : LeO (reader_stop.f k s a) (reader_stop.f (k + 1) s a) := by
 unfold reader_stop.f stopOf
 exact LeO.map _ (LeO.ite (LeO.refl _) (stopFrom_mono k _ _ _))
theorem reader_part_mono (k : Nat) (s : ByteArray) (a : Int) : LeO (reader_part.f k s a) (reader_part.f (k + 1) s a) := by
 unfold reader_part.f
 refine LeO.ite (LeO.refl _) (LeO.bind (tmpl_pieces.mono _ _) (fun n => ?_))
 exact LeO.ite (LeO.map _ (reader_stop_mono k s a)) (LeO.refl _)
theorem parseFrom_mono (k : Nat) (s : ByteArray) : ∀ (d : Nat) (a : Int) (L : List S41), LeO (parseFrom k s d a L) (parseFrom (k + 1) s d a L)
 | 0, a, L => LeO.none _
 | d + 1, a, L => by
  unfold parseFrom
  refine LeO.ite (LeO.bind (reader_part_mono k s a) (fun t => ?_)) (LeO.refl _)
  exact LeO.ite (LeO.ite (parseFrom_mono k s d _ _) (LeO.refl _)) (LeO.refl _)
theorem tmpl_Parse.mono : ∀ a0 k, LeO (tmpl_Parse.f k a0) (tmpl_Parse.f (k + 1) a0) := by
 intro a0 k
 unfold tmpl_Parse.f
 exact LeO.ite (parseFrom_mono k a0 _ _ _) (LeO.refl _)
end Go.Proofs.YtkipkbggnfllkaaDoor.P
end
section
namespace Go.Proofs.YtkipkbggnfllkaaDoor.P
open Go.RowKit Go.Proofs.YtkipkbggnfllkaaDoorW.PrintWords Go.Proofs.YtkipkbggnfllkaaDoorW.PrintLast Go.Proofs.YtkipkbggnfllkaaDoorW.PrintMore
attribute [local go_sem] max2_int min2_int max_two min_two max_three min_three max_four min_four
set_option linter.unusedVariables false
set_option linter.unusedSimpArgs false
attribute [local go_sem high] eqA43
def lw_awake.f (k : Nat)  : Option (Bool) := (tmpl_Parse.f k (⟨#[120, 123, 63, 97, 44, 98, 42, 125]⟩ : ByteArray)).bind fun bt101 => ((tmpl_Parse.f k (⟨#[120, 123, 33, 97, 125]⟩ : ByteArray)).bind fun bt106 => (if bt101.2.2 = 0 then (if bt101.2.1 = 8 then (if (bt101.1.length : Int) = 2 then (if 0 < (bt101.1.length : Int) then (if ((rd_T41 bt101.1 0).f0).toList = ([120] : List UInt8) then (if 1 < (bt101.1.length : Int) then (if ((rd_T41 bt101.1 1).f1) = 63 then (if (((rd_T41 bt101.1 1).f2).length : Int) = 2 then (if 1 < (((rd_T41 bt101.1 1).f2).length : Int) then (if ((((rd_T43 ((rd_T41 bt101.1 1).f2) 1).f0).toList) == ([98] : List UInt8) && (((rd_T43 ((rd_T41 bt101.1 1).f2) 1).f1) == 0 && (((rd_T43 ((rd_T41 bt101.1 1).f2) 1).f2)))) = true then (if bt106.2.2 = 2 then (some (bt106.2.1 == 2)) else (some false)) else (some false)) else (none)) else (some false)) else (some false)) else (none)) else (some false)) else (none)) else (some false)) else (some false)) else (some false)))
theorem lw_awake.mono : ∀ k, LeO (lw_awake.f k ) (lw_awake.f (k + 1) ) := by
 intro  k
 unfold lw_awake.f
 repeat' first
  | (with_reducible exact tmpl_Parse.mono _ _)
  | (with_reducible exact LeO.refl _)
  | (with_reducible exact LeO.none _)
  | (with_reducible refine LeO.ite ?_ ?_)
  | (with_reducible refine LeO.bind ?_ (fun _ => ?_))
  | exact tmpl_Parse.mono _ _
  | exact LeO.none _
  | refine LeO.ite ?_ ?_
  | refine LeO.bind ?_ (fun _ => ?_)
set_option maxHeartbeats 8000000 in
set_option maxRecDepth 100000 in
theorem lw_awake.calls (k : Nat)  (r : Bool) (w : World) (hG : Gl w) (h : lw_awake.f k  = some r) :
 Calls Tryd.prog 7 #[] w fun e w' => e = .returned (.bool r) ∧ Below w.heap.size w w' := by
 have hu43 := Tryd.underlying43
 have HB := Aside0.mk (Below.refl w.heap.size w)
 have H : ((tmpl_Parse.f k (⟨#[120, 123, 63, 97, 44, 98, 42, 125]⟩ : ByteArray)).bind fun bt101 => ((tmpl_Parse.f k (⟨#[120, 123, 33, 97, 125]⟩ : ByteArray)).bind fun bt106 => (if bt101.2.2 = 0 then (if bt101.2.1 = 8 then (if (bt101.1.length : Int) = 2 then (if 0 < (bt101.1.length : Int) then (if ((rd_T41 bt101.1 0).f0).toList = ([120] : List UInt8) then (if 1 < (bt101.1.length : Int) then (if ((rd_T41 bt101.1 1).f1) = 63 then (if (((rd_T41 bt101.1 1).f2).length : Int) = 2 then (if 1 < (((rd_T41 bt101.1 1).f2).length : Int) then (if ((((rd_T43 ((rd_T41 bt101.1 1).f2) 1).f0).toList) == ([98] : List UInt8) && (((rd_T43 ((rd_T41 bt101.1 1).f2) 1).f1) == 0 && (((rd_T43 ((rd_T41 bt101.1 1).f2) 1).f2)))) = true then (if bt106.2.2 = 2 then (some (bt106.2.1 == 2)) else (some false)) else (some false)) else (none)) else (some false)) else (some false)) else (none)) else (some false)) else (none)) else (some false)) else (some false)) else (some false)))) = some r := h
 clear h
 replace H := Option.bind_eq_some_iff.mp H
 obtain ⟨⟨t101, t102, t103⟩, A10, H⟩ := H
 replace H : ((tmpl_Parse.f k (⟨#[120, 123, 33, 97, 125]⟩ : ByteArray)).bind fun bt106 => (if t103 = 0 then (if t102 = 8 then (if (t101.length : Int) = 2 then (if 0 < (t101.length : Int) then (if ((rd_T41 t101 0).f0).toList = ([120] : List UInt8) then (if 1 < (t101.length : Int) then (if ((rd_T41 t101 1).f1) = 63 then (if (((rd_T41 t101 1).f2).length : Int) = 2 then (if 1 < (((rd_T41 t101 1).f2).length : Int) then (if ((((rd_T43 ((rd_T41 t101 1).f2) 1).f0).toList) == ([98] : List UInt8) && (((rd_T43 ((rd_T41 t101 1).f2) 1).f1) == 0 && (((rd_T43 ((rd_T41 t101 1).f2) 1).f2)))) = true then (if bt106.2.2 = 2 then (some (bt106.2.1 == 2)) else (some false)) else (some false)) else (none)) else (some false)) else (some false)) else (none)) else (some false)) else (none)) else (some false)) else (some false)) else (some false))) = some r := H
 have A1 := Aside0.mk A10
 clear A10
 replace H := Option.bind_eq_some_iff.mp H
 obtain ⟨⟨t106, t107, t108⟩, A20, H⟩ := H
 replace H : (if t103 = 0 then (if t102 = 8 then (if (t101.length : Int) = 2 then (if 0 < (t101.length : Int) then (if ((rd_T41 t101 0).f0).toList = ([120] : List UInt8) then (if 1 < (t101.length : Int) then (if ((rd_T41 t101 1).f1) = 63 then (if (((rd_T41 t101 1).f2).length : Int) = 2 then (if 1 < (((rd_T41 t101 1).f2).length : Int) then (if ((((rd_T43 ((rd_T41 t101 1).f2) 1).f0).toList) == ([98] : List UInt8) && (((rd_T43 ((rd_T41 t101 1).f2) 1).f1) == 0 && (((rd_T43 ((rd_T41 t101 1).f2) 1).f2)))) = true then (if t108 = 2 then (some (t107 == 2)) else (some false)) else (some false)) else (none)) else (some false)) else (some false)) else (none)) else (some false)) else (none)) else (some false)) else (some false)) else (some false)) = some r := H
 have A2 := Aside0.mk A20
 clear A20
 by_cases c3 : t103 = 0
 · rw [if_pos c3] at H
   have c3b0 : (t103 == 0) = true := beq_iff_eq.mpr c3
   have c3b1 : (t103 != 0) = false := bne_eq_false_iff_eq.mpr c3
   clear c3
   by_cases c4 : t102 = 8
   · rw [if_pos c4] at H
     have c4b0 : (t102 == 8) = true := beq_iff_eq.mpr c4
     have c4b1 : (t102 != 8) = false := bne_eq_false_iff_eq.mpr c4
     clear c4
     by_cases c5 : (t101.length : Int) = 2
     · rw [if_pos c5] at H
       have c5b0 : ((t101.length : Int) == 2) = true := beq_iff_eq.mpr c5
       have c5b1 : ((t101.length : Int) != 2) = false := bne_eq_false_iff_eq.mpr c5
       clear c5
       by_cases c6 : 0 < (t101.length : Int)
       · rw [if_pos c6] at H
         have c6b0 : decide (0 < (t101.length : Int)) = true := decide_eq_true c6
         have c6b1 : decide (0 < t101.length) = true := decide_eq_true (by omega)
         clear c6
         by_cases c7 : ((rd_T41 t101 0).f0).toList = ([120] : List UInt8)
         · rw [if_pos c7] at H
           have c7b0 : (((rd_T41 t101 0).f0).toList == ([120] : List UInt8)) = true := beq_iff_eq.mpr c7
           have c7b1 : (((rd_T41 t101 0).f0).toList != ([120] : List UInt8)) = false := bne_eq_false_iff_eq.mpr c7
           clear c7
           by_cases c8 : 1 < (t101.length : Int)
           · rw [if_pos c8] at H
             have c8b0 : decide (1 < (t101.length : Int)) = true := decide_eq_true c8
             have c8b1 : decide (1 < t101.length) = true := decide_eq_true (by omega)
             clear c8
             by_cases c9 : ((rd_T41 t101 1).f1) = 63
             · rw [if_pos c9] at H
               have c9b0 : (((rd_T41 t101 1).f1) == 63) = true := beq_iff_eq.mpr c9
               have c9b1 : (((rd_T41 t101 1).f1) != 63) = false := bne_eq_false_iff_eq.mpr c9
               clear c9
               by_cases c10 : (((rd_T41 t101 1).f2).length : Int) = 2
               · rw [if_pos c10] at H
                 have c10b0 : ((((rd_T41 t101 1).f2).length : Int) == 2) = true := beq_iff_eq.mpr c10
                 have c10b1 : ((((rd_T41 t101 1).f2).length : Int) != 2) = false := bne_eq_false_iff_eq.mpr c10
                 clear c10
                 by_cases c11 : 1 < (((rd_T41 t101 1).f2).length : Int)
                 · rw [if_pos c11] at H
                   have c11b0 : decide (1 < (((rd_T41 t101 1).f2).length : Int)) = true := decide_eq_true c11
                   have c11b1 : decide (1 < ((rd_T41 t101 1).f2).length) = true := decide_eq_true (by omega)
                   clear c11
                   by_cases c12 : ((((rd_T43 ((rd_T41 t101 1).f2) 1).f0).toList) == ([98] : List UInt8) && (((rd_T43 ((rd_T41 t101 1).f2) 1).f1) == 0 && (((rd_T43 ((rd_T41 t101 1).f2) 1).f2)))) = true
                   · rw [if_pos c12] at H
                     have c12b0 : ((((rd_T43 ((rd_T41 t101 1).f2) 1).f0).toList) == ([98] : List UInt8) && (((rd_T43 ((rd_T41 t101 1).f2) 1).f1) == 0 && (((rd_T43 ((rd_T41 t101 1).f2) 1).f2)))) = true := c12
                     (try (have c12b1 : decide ((((rd_T43 ((rd_T41 t101 1).f2) 1).f0).toList) = ([98] : List UInt8) && (((rd_T43 ((rd_T41 t101 1).f2) 1).f1) == 0 && (((rd_T43 ((rd_T41 t101 1).f2) 1).f2)))) = true := by simpa using c12))
                     (try (have c12b2 : ((((rd_T43 ((rd_T41 t101 1).f2) 1).f0).toList) == ([98] : List UInt8) && (((rd_T43 ((rd_T41 t101 1).f2) 1).f1) == 0 && (((rd_T43 ((rd_T41 t101 1).f2) 1).f2)))) = true := by simpa using c12))
                     clear c12
                     by_cases c13 : t108 = 2
                     · rw [if_pos c13] at H
                       have c13b0 : (t108 == 2) = true := beq_iff_eq.mpr c13
                       have c13b1 : (t108 != 2) = false := bne_eq_false_iff_eq.mpr c13
                       clear c13
                       obtain rfl := Option.some.inj H
                       go_enter Tryd.func7, Tryd.ntmps7
                       go_wp2_with (first | ((with_reducible refine gate_callee (f := 8) rfl ?_); refine goesL_ (some 8) rfl rfl Tryd.func8 (by kernel_rfl) rfl #[.string (⟨#[120, 123, 63, 97, 44, 98, 42, 125]⟩ : ByteArray)] rfl (by (try simp only [List.map_toArray, List.map_cons, List.map_nil]); first | done | rfl | (simp only [List.length_drop, List.length_take]; rfl)) ?_; (with_reducible refine (tmpl_Parse.calls k (⟨#[120, 123, 63, 97, 44, 98, 42, 125]⟩ : ByteArray) t101 t102 t103 _ (hG.keepAt (Nat.le_refl _) (by repeat (first | (with_reducible first | exact HB.out | apply below_alloc | apply pw_below_drewN | apply below_drew1) | exact HB.out))) A1.out).mono ?_); rintro e w14 ⟨v104, rfl, ho0, hb⟩; refine ⟨_, rfl, ?_⟩; have n0_ := Aside0.mk (Kd.S_lower ho0 (below_size (by repeat (first | (with_reducible first | exact HB.out | apply below_alloc | apply pw_below_drewN | apply below_drew1) | exact HB.out)))); have n1_ := Aside0.mk (below_step (by repeat (first | (with_reducible first | exact HB.out | apply below_alloc | apply pw_below_drewN | apply below_drew1) | exact HB.out)) hb); clear HB; have HO105 := n0_; have HB := n1_; clear n0_ n1_; (try clear hb); (try clear hb2); (try clear hk); (try clear hi); (try clear ho0)) | ((with_reducible refine gate_callee (f := 8) rfl ?_); refine goesL_ (some 13) rfl rfl Tryd.func8 (by kernel_rfl) rfl #[.string (⟨#[120, 123, 33, 97, 125]⟩ : ByteArray)] rfl (by (try simp only [List.map_toArray, List.map_cons, List.map_nil]); first | done | rfl | (simp only [List.length_drop, List.length_take]; rfl)) ?_; (with_reducible refine (tmpl_Parse.calls k (⟨#[120, 123, 33, 97, 125]⟩ : ByteArray) t106 t107 t108 _ (hG.keepAt (Nat.le_refl _) (by repeat (first | (with_reducible first | exact HB.out | apply below_alloc | apply pw_below_drewN | apply below_drew1) | exact HB.out))) A2.out).mono ?_); rintro e w15 ⟨v109, rfl, ho0, hb⟩; refine ⟨_, rfl, ?_⟩; have n0_ := Aside0.mk (Kd.S_elder' (by (with_reducible repeat (first | apply Kd.S_alloc | apply Kd.S_drewN | apply Kd.S_drew)); exact HO105.out) (Kd.S_base ho0) hb); have n1_ := Aside0.mk (Kd.S_lower (Kd.S_new' ho0 (Kd.S_lt (by (with_reducible repeat (first | apply Kd.S_alloc | apply Kd.S_drewN | apply Kd.S_drew)); exact HO105.out))) (below_size (by repeat (first | (with_reducible first | exact HB.out | apply below_alloc | apply pw_below_drewN | apply below_drew1) | exact HB.out)))); have n2_ := Aside0.mk (below_step (by repeat (first | (with_reducible first | exact HB.out | apply below_alloc | apply pw_below_drewN | apply below_drew1) | exact HB.out)) hb); clear HO105; clear HB; have HO105 := n0_; have HO110 := n1_; have HB := n2_; clear n0_ n1_ n2_; (try clear hb); (try clear hb2); (try clear hk); (try clear hi); (try clear ho0); obtain ⟨Ao16, co16, eo16⟩ := Kd.S_slice HO105.out; subst eo16; have p111 : 0 ≤ (0 : Int) := (by omega); have q111 : 0 < (t101.length : Int) := of_decide_eq_true (by first | (with_reducible assumption) | assumption); obtain ⟨ad111, A111_2, c111_2, e111, hx111_0, hx111_1, hx111_2, hl111_2, hi111_2⟩ := at_T41 (Kd.S_reads' HO105.out).2.2 0 p111 q111; cases e111; obtain ⟨ce111, hce111, hMe111, hcc111⟩ := Kd.S_get HO105.out z41 0 p111 (by first | exact q111 | exact of_decide_eq_true (by first | (with_reducible assumption) | assumption) | (have e_ := (Kd.S_reads' HO105.out).1; omega)); obtain ⟨ve111_2, rfl, ge111_2⟩ := k41_openM hMe111; have hv111_2 := hcc111 2 _ rfl; rw [add_field _ _ 2 (by omega)] at hv111_2; replace hv111_2 := Option.some.inj (hv111_2.symm.trans hx111_2); rw [hv111_2] at ge111_2; have HL111_2 := Aside0.mk (show Kd.R k43 43 _ _ _ _ ((rd_T41 t101 0).f2) from ge111_2); clear hv111_2 ge111_2; clear hcc111 hce111; have qi111 : (0 < t101.length) = True := eq_true (by omega); (try rw [show ((0 : Int)).toNat = 0 from rfl] at hx111_0); (try rw [show 0 * 3 = 0 from rfl] at hx111_0); (try rw [Addr.add_zero'] at hx111_0); (try rw [show ((0 : Int)).toNat = 0 from rfl] at hx111_1); (try rw [show 0 * 3 = 0 from rfl] at hx111_1); (try rw [Addr.add_zero'] at hx111_1); (try rw [show ((0 : Int)).toNat = 0 from rfl] at hx111_2); (try rw [show 0 * 3 = 0 from rfl] at hx111_2); (try rw [Addr.add_zero'] at hx111_2); have HR111_2 := Aside0.mk hi111_2; have HC111_2 := Aside0.mk hl111_2; clear hi111_2 hl111_2; replace p111 := eq_true p111; replace q111 := eq_true q111; have p112 : 0 ≤ (1 : Int) := (by omega); have q112 : 1 < (t101.length : Int) := of_decide_eq_true (by first | (with_reducible assumption) | assumption); obtain ⟨ad112, A112_2, c112_2, e112, hx112_0, hx112_1, hx112_2, hl112_2, hi112_2⟩ := at_T41 (Kd.S_reads' HO105.out).2.2 1 p112 q112; obtain rfl : ad111 = ad112 := (by injection e112); obtain ⟨ce112, hce112, hMe112, hcc112⟩ := Kd.S_get HO105.out z41 1 p112 (by first | exact q112 | exact of_decide_eq_true (by first | (with_reducible assumption) | assumption) | (have e_ := (Kd.S_reads' HO105.out).1; omega)); obtain ⟨ve112_2, rfl, ge112_2⟩ := k41_openM hMe112; have hv112_2 := hcc112 2 _ rfl; rw [add_field _ _ 2 (by omega)] at hv112_2; replace hv112_2 := Option.some.inj (hv112_2.symm.trans hx112_2); rw [hv112_2] at ge112_2; have HL112_2 := Aside0.mk (show Kd.R k43 43 _ _ _ _ ((rd_T41 t101 1).f2) from ge112_2); clear hv112_2 ge112_2; clear hcc112 hce112; (try simp only [show (1 : Int).toNat = 1 from rfl, Nat.reduceMul, Nat.reduceEqDiff, Go.Addr.add, ↓reduceIte] at hx112_0); (try simp only [show (1 : Int).toNat = 1 from rfl, Nat.reduceMul, Nat.reduceEqDiff, Go.Addr.add, ↓reduceIte] at hx112_1); (try simp only [show (1 : Int).toNat = 1 from rfl, Nat.reduceMul, Nat.reduceEqDiff, Go.Addr.add, ↓reduceIte] at hx112_2); have qi112 : (1 < t101.length) = True := eq_true (by omega); (try rw [show ((1 : Int)).toNat = 1 from rfl] at hx112_0); (try rw [show 1 * 3 = 3 from rfl] at hx112_0); (try rw [show ((1 : Int)).toNat = 1 from rfl] at hx112_1); (try rw [show 1 * 3 = 3 from rfl] at hx112_1); (try rw [show ((1 : Int)).toNat = 1 from rfl] at hx112_2); (try rw [show 1 * 3 = 3 from rfl] at hx112_2); have HR112_2 := Aside0.mk hi112_2; have HC112_2 := Aside0.mk hl112_2; clear hi112_2 hl112_2; replace p112 := eq_true p112; replace q112 := eq_true q112; have p113 : 0 ≤ (1 : Int) := (by omega); have q113 : 1 < (t101.length : Int) := of_decide_eq_true (by first | (with_reducible assumption) | assumption); obtain ⟨ad113, A113_2, c113_2, e113, hx113_0, hx113_1, hx113_2, hl113_2, hi113_2⟩ := at_T41 (Kd.S_reads' HO105.out).2.2 1 p113 q113; obtain rfl : ad111 = ad113 := (by injection e113); obtain ⟨ce113, hce113, hMe113, hcc113⟩ := Kd.S_get HO105.out z41 1 p113 (by first | exact q113 | exact of_decide_eq_true (by first | (with_reducible assumption) | assumption) | (have e_ := (Kd.S_reads' HO105.out).1; omega)); obtain ⟨ve113_2, rfl, ge113_2⟩ := k41_openM hMe113; have hv113_2 := hcc113 2 _ rfl; rw [add_field _ _ 2 (by omega)] at hv113_2; replace hv113_2 := Option.some.inj (hv113_2.symm.trans hx113_2); rw [hv113_2] at ge113_2; have HL113_2 := Aside0.mk (show Kd.R k43 43 _ _ _ _ ((rd_T41 t101 1).f2) from ge113_2); clear hv113_2 ge113_2; clear hcc113 hce113; (try simp only [show (1 : Int).toNat = 1 from rfl, Nat.reduceMul, Nat.reduceEqDiff, Go.Addr.add, ↓reduceIte] at hx113_0); (try simp only [show (1 : Int).toNat = 1 from rfl, Nat.reduceMul, Nat.reduceEqDiff, Go.Addr.add, ↓reduceIte] at hx113_1); (try simp only [show (1 : Int).toNat = 1 from rfl, Nat.reduceMul, Nat.reduceEqDiff, Go.Addr.add, ↓reduceIte] at hx113_2); have qi113 : (1 < t101.length) = True := eq_true (by omega); (try rw [show ((1 : Int)).toNat = 1 from rfl] at hx113_0); (try rw [show 1 * 3 = 3 from rfl] at hx113_0); (try rw [show ((1 : Int)).toNat = 1 from rfl] at hx113_1); (try rw [show 1 * 3 = 3 from rfl] at hx113_1); (try rw [show ((1 : Int)).toNat = 1 from rfl] at hx113_2); (try rw [show 1 * 3 = 3 from rfl] at hx113_2); have HR113_2 := Aside0.mk hi113_2; have HC113_2 := Aside0.mk hl113_2; clear hi113_2 hl113_2; replace p113 := eq_true p113; replace q113 := eq_true q113; have ea_ := Option.some.inj (hx112_2.symm.trans hx113_2); injection ea_ with ea_ en_ ec_; subst ea_; subst ec_; clear en_; have p114 : 0 ≤ (1 : Int) := (by omega); have q114 : 1 < (t101.length : Int) := of_decide_eq_true (by first | (with_reducible assumption) | assumption); obtain ⟨ad114, A114_2, c114_2, e114, hx114_0, hx114_1, hx114_2, hl114_2, hi114_2⟩ := at_T41 (Kd.S_reads' HO105.out).2.2 1 p114 q114; obtain rfl : ad111 = ad114 := (by injection e114); obtain ⟨ce114, hce114, hMe114, hcc114⟩ := Kd.S_get HO105.out z41 1 p114 (by first | exact q114 | exact of_decide_eq_true (by first | (with_reducible assumption) | assumption) | (have e_ := (Kd.S_reads' HO105.out).1; omega)); obtain ⟨ve114_2, rfl, ge114_2⟩ := k41_openM hMe114; have hv114_2 := hcc114 2 _ rfl; rw [add_field _ _ 2 (by omega)] at hv114_2; replace hv114_2 := Option.some.inj (hv114_2.symm.trans hx114_2); rw [hv114_2] at ge114_2; have HL114_2 := Aside0.mk (show Kd.R k43 43 _ _ _ _ ((rd_T41 t101 1).f2) from ge114_2); clear hv114_2 ge114_2; clear hcc114 hce114; (try simp only [show (1 : Int).toNat = 1 from rfl, Nat.reduceMul, Nat.reduceEqDiff, Go.Addr.add, ↓reduceIte] at hx114_0); (try simp only [show (1 : Int).toNat = 1 from rfl, Nat.reduceMul, Nat.reduceEqDiff, Go.Addr.add, ↓reduceIte] at hx114_1); (try simp only [show (1 : Int).toNat = 1 from rfl, Nat.reduceMul, Nat.reduceEqDiff, Go.Addr.add, ↓reduceIte] at hx114_2); have qi114 : (1 < t101.length) = True := eq_true (by omega); (try rw [show ((1 : Int)).toNat = 1 from rfl] at hx114_0); (try rw [show 1 * 3 = 3 from rfl] at hx114_0); (try rw [show ((1 : Int)).toNat = 1 from rfl] at hx114_1); (try rw [show 1 * 3 = 3 from rfl] at hx114_1); (try rw [show ((1 : Int)).toNat = 1 from rfl] at hx114_2); (try rw [show 1 * 3 = 3 from rfl] at hx114_2); have HR114_2 := Aside0.mk hi114_2; have HC114_2 := Aside0.mk hl114_2; clear hi114_2 hl114_2; replace p114 := eq_true p114; replace q114 := eq_true q114; have ea_ := Option.some.inj (hx112_2.symm.trans hx114_2); injection ea_ with ea_ en_ ec_; subst ea_; subst ec_; clear en_; have p115 : 0 ≤ (1 : Int) := (by omega); have q115 : 1 < (((rd_T41 t101 1).f2).length : Int) := of_decide_eq_true (by first | (with_reducible assumption) | assumption); obtain ⟨ad115, e115, hx115_0, hx115_1, hx115_2⟩ := at_T43 (by repeat (first | (with_reducible exact HR114_2.out) | (with_reducible refine Kd.C_alloc ?_ _) | (with_reducible refine Kd.C_drewN ?_ _) | (with_reducible refine Kd.C_drew ?_) | exact HR114_2.out)) 1 p115 q115; cases e115; (try simp only [show (1 : Int).toNat = 1 from rfl, Nat.reduceMul, Nat.reduceEqDiff, Go.Addr.add, ↓reduceIte] at hx115_0); (try simp only [show (1 : Int).toNat = 1 from rfl, Nat.reduceMul, Nat.reduceEqDiff, Go.Addr.add, ↓reduceIte] at hx115_1); (try simp only [show (1 : Int).toNat = 1 from rfl, Nat.reduceMul, Nat.reduceEqDiff, Go.Addr.add, ↓reduceIte] at hx115_2); have qi115 : (1 < ((rd_T41 t101 1).f2).length) = True := eq_true (by omega); (try rw [show ((1 : Int)).toNat = 1 from rfl] at hx115_0); (try rw [show 1 * 3 = 3 from rfl] at hx115_0); (try rw [show ((1 : Int)).toNat = 1 from rfl] at hx115_1); (try rw [show 1 * 3 = 3 from rfl] at hx115_1); (try rw [show ((1 : Int)).toNat = 1 from rfl] at hx115_2); (try rw [show 1 * 3 = 3 from rfl] at hx115_2); replace p115 := eq_true p115; replace q115 := eq_true q115))
                       go_ret
                       exact ⟨by first | rfl | (simp [errW_none, errW_some] <;> rfl) | (simp [*, errW_none, errW_some] <;> rfl), by repeat (first | (with_reducible first | exact HB.out | apply below_alloc | apply pw_below_drewN | apply below_drew1) | exact HB.out)⟩
                     · rw [if_neg c13] at H
                       have c13b0 : (t108 == 2) = false := beq_eq_false_iff_ne.mpr c13
                       have c13b1 : (t108 != 2) = true := bne_iff_ne.mpr c13
                       obtain rfl := Option.some.inj H
                       go_enter Tryd.func7, Tryd.ntmps7
                       go_wp2_with (first | ((with_reducible refine gate_callee (f := 8) rfl ?_); refine goesL_ (some 8) rfl rfl Tryd.func8 (by kernel_rfl) rfl #[.string (⟨#[120, 123, 63, 97, 44, 98, 42, 125]⟩ : ByteArray)] rfl (by (try simp only [List.map_toArray, List.map_cons, List.map_nil]); first | done | rfl | (simp only [List.length_drop, List.length_take]; rfl)) ?_; (with_reducible refine (tmpl_Parse.calls k (⟨#[120, 123, 63, 97, 44, 98, 42, 125]⟩ : ByteArray) t101 t102 t103 _ (hG.keepAt (Nat.le_refl _) (by repeat (first | (with_reducible first | exact HB.out | apply below_alloc | apply pw_below_drewN | apply below_drew1) | exact HB.out))) A1.out).mono ?_); rintro e w17 ⟨v104, rfl, ho0, hb⟩; refine ⟨_, rfl, ?_⟩; have n0_ := Aside0.mk (Kd.S_lower ho0 (below_size (by repeat (first | (with_reducible first | exact HB.out | apply below_alloc | apply pw_below_drewN | apply below_drew1) | exact HB.out)))); have n1_ := Aside0.mk (below_step (by repeat (first | (with_reducible first | exact HB.out | apply below_alloc | apply pw_below_drewN | apply below_drew1) | exact HB.out)) hb); clear HB; have HO105 := n0_; have HB := n1_; clear n0_ n1_; (try clear hb); (try clear hb2); (try clear hk); (try clear hi); (try clear ho0)) | ((with_reducible refine gate_callee (f := 8) rfl ?_); refine goesL_ (some 13) rfl rfl Tryd.func8 (by kernel_rfl) rfl #[.string (⟨#[120, 123, 33, 97, 125]⟩ : ByteArray)] rfl (by (try simp only [List.map_toArray, List.map_cons, List.map_nil]); first | done | rfl | (simp only [List.length_drop, List.length_take]; rfl)) ?_; (with_reducible refine (tmpl_Parse.calls k (⟨#[120, 123, 33, 97, 125]⟩ : ByteArray) t106 t107 t108 _ (hG.keepAt (Nat.le_refl _) (by repeat (first | (with_reducible first | exact HB.out | apply below_alloc | apply pw_below_drewN | apply below_drew1) | exact HB.out))) A2.out).mono ?_); rintro e w18 ⟨v109, rfl, ho0, hb⟩; refine ⟨_, rfl, ?_⟩; have n0_ := Aside0.mk (Kd.S_elder' (by (with_reducible repeat (first | apply Kd.S_alloc | apply Kd.S_drewN | apply Kd.S_drew)); exact HO105.out) (Kd.S_base ho0) hb); have n1_ := Aside0.mk (Kd.S_lower (Kd.S_new' ho0 (Kd.S_lt (by (with_reducible repeat (first | apply Kd.S_alloc | apply Kd.S_drewN | apply Kd.S_drew)); exact HO105.out))) (below_size (by repeat (first | (with_reducible first | exact HB.out | apply below_alloc | apply pw_below_drewN | apply below_drew1) | exact HB.out)))); have n2_ := Aside0.mk (below_step (by repeat (first | (with_reducible first | exact HB.out | apply below_alloc | apply pw_below_drewN | apply below_drew1) | exact HB.out)) hb); clear HO105; clear HB; have HO105 := n0_; have HO110 := n1_; have HB := n2_; clear n0_ n1_ n2_; (try clear hb); (try clear hb2); (try clear hk); (try clear hi); (try clear ho0); obtain ⟨Ao19, co19, eo19⟩ := Kd.S_slice HO105.out; subst eo19; have p111 : 0 ≤ (0 : Int) := (by omega); have q111 : 0 < (t101.length : Int) := of_decide_eq_true (by first | (with_reducible assumption) | assumption); obtain ⟨ad111, A111_2, c111_2, e111, hx111_0, hx111_1, hx111_2, hl111_2, hi111_2⟩ := at_T41 (Kd.S_reads' HO105.out).2.2 0 p111 q111; cases e111; obtain ⟨ce111, hce111, hMe111, hcc111⟩ := Kd.S_get HO105.out z41 0 p111 (by first | exact q111 | exact of_decide_eq_true (by first | (with_reducible assumption) | assumption) | (have e_ := (Kd.S_reads' HO105.out).1; omega)); obtain ⟨ve111_2, rfl, ge111_2⟩ := k41_openM hMe111; have hv111_2 := hcc111 2 _ rfl; rw [add_field _ _ 2 (by omega)] at hv111_2; replace hv111_2 := Option.some.inj (hv111_2.symm.trans hx111_2); rw [hv111_2] at ge111_2; have HL111_2 := Aside0.mk (show Kd.R k43 43 _ _ _ _ ((rd_T41 t101 0).f2) from ge111_2); clear hv111_2 ge111_2; clear hcc111 hce111; have qi111 : (0 < t101.length) = True := eq_true (by omega); (try rw [show ((0 : Int)).toNat = 0 from rfl] at hx111_0); (try rw [show 0 * 3 = 0 from rfl] at hx111_0); (try rw [Addr.add_zero'] at hx111_0); (try rw [show ((0 : Int)).toNat = 0 from rfl] at hx111_1); (try rw [show 0 * 3 = 0 from rfl] at hx111_1); (try rw [Addr.add_zero'] at hx111_1); (try rw [show ((0 : Int)).toNat = 0 from rfl] at hx111_2); (try rw [show 0 * 3 = 0 from rfl] at hx111_2); (try rw [Addr.add_zero'] at hx111_2); have HR111_2 := Aside0.mk hi111_2; have HC111_2 := Aside0.mk hl111_2; clear hi111_2 hl111_2; replace p111 := eq_true p111; replace q111 := eq_true q111; have p112 : 0 ≤ (1 : Int) := (by omega); have q112 : 1 < (t101.length : Int) := of_decide_eq_true (by first | (with_reducible assumption) | assumption); obtain ⟨ad112, A112_2, c112_2, e112, hx112_0, hx112_1, hx112_2, hl112_2, hi112_2⟩ := at_T41 (Kd.S_reads' HO105.out).2.2 1 p112 q112; obtain rfl : ad111 = ad112 := (by injection e112); obtain ⟨ce112, hce112, hMe112, hcc112⟩ := Kd.S_get HO105.out z41 1 p112 (by first | exact q112 | exact of_decide_eq_true (by first | (with_reducible assumption) | assumption) | (have e_ := (Kd.S_reads' HO105.out).1; omega)); obtain ⟨ve112_2, rfl, ge112_2⟩ := k41_openM hMe112; have hv112_2 := hcc112 2 _ rfl; rw [add_field _ _ 2 (by omega)] at hv112_2; replace hv112_2 := Option.some.inj (hv112_2.symm.trans hx112_2); rw [hv112_2] at ge112_2; have HL112_2 := Aside0.mk (show Kd.R k43 43 _ _ _ _ ((rd_T41 t101 1).f2) from ge112_2); clear hv112_2 ge112_2; clear hcc112 hce112; (try simp only [show (1 : Int).toNat = 1 from rfl, Nat.reduceMul, Nat.reduceEqDiff, Go.Addr.add, ↓reduceIte] at hx112_0); (try simp only [show (1 : Int).toNat = 1 from rfl, Nat.reduceMul, Nat.reduceEqDiff, Go.Addr.add, ↓reduceIte] at hx112_1); (try simp only [show (1 : Int).toNat = 1 from rfl, Nat.reduceMul, Nat.reduceEqDiff, Go.Addr.add, ↓reduceIte] at hx112_2); have qi112 : (1 < t101.length) = True := eq_true (by omega); (try rw [show ((1 : Int)).toNat = 1 from rfl] at hx112_0); (try rw [show 1 * 3 = 3 from rfl] at hx112_0); (try rw [show ((1 : Int)).toNat = 1 from rfl] at hx112_1); (try rw [show 1 * 3 = 3 from rfl] at hx112_1); (try rw [show ((1 : Int)).toNat = 1 from rfl] at hx112_2); (try rw [show 1 * 3 = 3 from rfl] at hx112_2); have HR112_2 := Aside0.mk hi112_2; have HC112_2 := Aside0.mk hl112_2; clear hi112_2 hl112_2; replace p112 := eq_true p112; replace q112 := eq_true q112; have p113 : 0 ≤ (1 : Int) := (by omega); have q113 : 1 < (t101.length : Int) := of_decide_eq_true (by first | (with_reducible assumption) | assumption); obtain ⟨ad113, A113_2, c113_2, e113, hx113_0, hx113_1, hx113_2, hl113_2, hi113_2⟩ := at_T41 (Kd.S_reads' HO105.out).2.2 1 p113 q113; obtain rfl : ad111 = ad113 := (by injection e113); obtain ⟨ce113, hce113, hMe113, hcc113⟩ := Kd.S_get HO105.out z41 1 p113 (by first | exact q113 | exact of_decide_eq_true (by first | (with_reducible assumption) | assumption) | (have e_ := (Kd.S_reads' HO105.out).1; omega)); obtain ⟨ve113_2, rfl, ge113_2⟩ := k41_openM hMe113; have hv113_2 := hcc113 2 _ rfl; rw [add_field _ _ 2 (by omega)] at hv113_2; replace hv113_2 := Option.some.inj (hv113_2.symm.trans hx113_2); rw [hv113_2] at ge113_2; have HL113_2 := Aside0.mk (show Kd.R k43 43 _ _ _ _ ((rd_T41 t101 1).f2) from ge113_2); clear hv113_2 ge113_2; clear hcc113 hce113; (try simp only [show (1 : Int).toNat = 1 from rfl, Nat.reduceMul, Nat.reduceEqDiff, Go.Addr.add, ↓reduceIte] at hx113_0); (try simp only [show (1 : Int).toNat = 1 from rfl, Nat.reduceMul, Nat.reduceEqDiff, Go.Addr.add, ↓reduceIte] at hx113_1); (try simp only [show (1 : Int).toNat = 1 from rfl, Nat.reduceMul, Nat.reduceEqDiff, Go.Addr.add, ↓reduceIte] at hx113_2); have qi113 : (1 < t101.length) = True := eq_true (by omega); (try rw [show ((1 : Int)).toNat = 1 from rfl] at hx113_0); (try rw [show 1 * 3 = 3 from rfl] at hx113_0); (try rw [show ((1 : Int)).toNat = 1 from rfl] at hx113_1); (try rw [show 1 * 3 = 3 from rfl] at hx113_1); (try rw [show ((1 : Int)).toNat = 1 from rfl] at hx113_2); (try rw [show 1 * 3 = 3 from rfl] at hx113_2); have HR113_2 := Aside0.mk hi113_2; have HC113_2 := Aside0.mk hl113_2; clear hi113_2 hl113_2; replace p113 := eq_true p113; replace q113 := eq_true q113; have ea_ := Option.some.inj (hx112_2.symm.trans hx113_2); injection ea_ with ea_ en_ ec_; subst ea_; subst ec_; clear en_; have p114 : 0 ≤ (1 : Int) := (by omega); have q114 : 1 < (t101.length : Int) := of_decide_eq_true (by first | (with_reducible assumption) | assumption); obtain ⟨ad114, A114_2, c114_2, e114, hx114_0, hx114_1, hx114_2, hl114_2, hi114_2⟩ := at_T41 (Kd.S_reads' HO105.out).2.2 1 p114 q114; obtain rfl : ad111 = ad114 := (by injection e114); obtain ⟨ce114, hce114, hMe114, hcc114⟩ := Kd.S_get HO105.out z41 1 p114 (by first | exact q114 | exact of_decide_eq_true (by first | (with_reducible assumption) | assumption) | (have e_ := (Kd.S_reads' HO105.out).1; omega)); obtain ⟨ve114_2, rfl, ge114_2⟩ := k41_openM hMe114; have hv114_2 := hcc114 2 _ rfl; rw [add_field _ _ 2 (by omega)] at hv114_2; replace hv114_2 := Option.some.inj (hv114_2.symm.trans hx114_2); rw [hv114_2] at ge114_2; have HL114_2 := Aside0.mk (show Kd.R k43 43 _ _ _ _ ((rd_T41 t101 1).f2) from ge114_2); clear hv114_2 ge114_2; clear hcc114 hce114; (try simp only [show (1 : Int).toNat = 1 from rfl, Nat.reduceMul, Nat.reduceEqDiff, Go.Addr.add, ↓reduceIte] at hx114_0); (try simp only [show (1 : Int).toNat = 1 from rfl, Nat.reduceMul, Nat.reduceEqDiff, Go.Addr.add, ↓reduceIte] at hx114_1); (try simp only [show (1 : Int).toNat = 1 from rfl, Nat.reduceMul, Nat.reduceEqDiff, Go.Addr.add, ↓reduceIte] at hx114_2); have qi114 : (1 < t101.length) = True := eq_true (by omega); (try rw [show ((1 : Int)).toNat = 1 from rfl] at hx114_0); (try rw [show 1 * 3 = 3 from rfl] at hx114_0); (try rw [show ((1 : Int)).toNat = 1 from rfl] at hx114_1); (try rw [show 1 * 3 = 3 from rfl] at hx114_1); (try rw [show ((1 : Int)).toNat = 1 from rfl] at hx114_2); (try rw [show 1 * 3 = 3 from rfl] at hx114_2); have HR114_2 := Aside0.mk hi114_2; have HC114_2 := Aside0.mk hl114_2; clear hi114_2 hl114_2; replace p114 := eq_true p114; replace q114 := eq_true q114; have ea_ := Option.some.inj (hx112_2.symm.trans hx114_2); injection ea_ with ea_ en_ ec_; subst ea_; subst ec_; clear en_; have p115 : 0 ≤ (1 : Int) := (by omega); have q115 : 1 < (((rd_T41 t101 1).f2).length : Int) := of_decide_eq_true (by first | (with_reducible assumption) | assumption); obtain ⟨ad115, e115, hx115_0, hx115_1, hx115_2⟩ := at_T43 (by repeat (first | (with_reducible exact HR114_2.out) | (with_reducible refine Kd.C_alloc ?_ _) | (with_reducible refine Kd.C_drewN ?_ _) | (with_reducible refine Kd.C_drew ?_) | exact HR114_2.out)) 1 p115 q115; cases e115; (try simp only [show (1 : Int).toNat = 1 from rfl, Nat.reduceMul, Nat.reduceEqDiff, Go.Addr.add, ↓reduceIte] at hx115_0); (try simp only [show (1 : Int).toNat = 1 from rfl, Nat.reduceMul, Nat.reduceEqDiff, Go.Addr.add, ↓reduceIte] at hx115_1); (try simp only [show (1 : Int).toNat = 1 from rfl, Nat.reduceMul, Nat.reduceEqDiff, Go.Addr.add, ↓reduceIte] at hx115_2); have qi115 : (1 < ((rd_T41 t101 1).f2).length) = True := eq_true (by omega); (try rw [show ((1 : Int)).toNat = 1 from rfl] at hx115_0); (try rw [show 1 * 3 = 3 from rfl] at hx115_0); (try rw [show ((1 : Int)).toNat = 1 from rfl] at hx115_1); (try rw [show 1 * 3 = 3 from rfl] at hx115_1); (try rw [show ((1 : Int)).toNat = 1 from rfl] at hx115_2); (try rw [show 1 * 3 = 3 from rfl] at hx115_2); replace p115 := eq_true p115; replace q115 := eq_true q115))
                       go_ret
                       exact ⟨by first | rfl | (simp [errW_none, errW_some] <;> rfl) | (simp [*, errW_none, errW_some] <;> rfl), by repeat (first | (with_reducible first | exact HB.out | apply below_alloc | apply pw_below_drewN | apply below_drew1) | exact HB.out)⟩
                   · rw [if_neg c12] at H
                     have c12b0 : ((((rd_T43 ((rd_T41 t101 1).f2) 1).f0).toList) == ([98] : List UInt8) && (((rd_T43 ((rd_T41 t101 1).f2) 1).f1) == 0 && (((rd_T43 ((rd_T41 t101 1).f2) 1).f2)))) = false := by simpa using c12
                     (try (have c12b1 : decide ((((rd_T43 ((rd_T41 t101 1).f2) 1).f0).toList) = ([98] : List UInt8) && (((rd_T43 ((rd_T41 t101 1).f2) 1).f1) == 0 && (((rd_T43 ((rd_T41 t101 1).f2) 1).f2)))) = false := by simpa using c12))
                     (try (have c12b2 : ((((rd_T43 ((rd_T41 t101 1).f2) 1).f0).toList) == ([98] : List UInt8) && (((rd_T43 ((rd_T41 t101 1).f2) 1).f1) == 0 && (((rd_T43 ((rd_T41 t101 1).f2) 1).f2)))) = false := by simpa using c12))
                     (try (have c12b3 : ¬ ((((rd_T43 ((rd_T41 t101 1).f2) 1).f0).toList) = ([98] : List UInt8) && (((rd_T43 ((rd_T41 t101 1).f2) 1).f1) == 0 && (((rd_T43 ((rd_T41 t101 1).f2) 1).f2)))) := by simpa using c12))
                     clear c12
                     obtain rfl := Option.some.inj H
                     go_enter Tryd.func7, Tryd.ntmps7
                     go_wp2_with (first | ((with_reducible refine gate_callee (f := 8) rfl ?_); refine goesL_ (some 8) rfl rfl Tryd.func8 (by kernel_rfl) rfl #[.string (⟨#[120, 123, 63, 97, 44, 98, 42, 125]⟩ : ByteArray)] rfl (by (try simp only [List.map_toArray, List.map_cons, List.map_nil]); first | done | rfl | (simp only [List.length_drop, List.length_take]; rfl)) ?_; (with_reducible refine (tmpl_Parse.calls k (⟨#[120, 123, 63, 97, 44, 98, 42, 125]⟩ : ByteArray) t101 t102 t103 _ (hG.keepAt (Nat.le_refl _) (by repeat (first | (with_reducible first | exact HB.out | apply below_alloc | apply pw_below_drewN | apply below_drew1) | exact HB.out))) A1.out).mono ?_); rintro e w20 ⟨v104, rfl, ho0, hb⟩; refine ⟨_, rfl, ?_⟩; have n0_ := Aside0.mk (Kd.S_lower ho0 (below_size (by repeat (first | (with_reducible first | exact HB.out | apply below_alloc | apply pw_below_drewN | apply below_drew1) | exact HB.out)))); have n1_ := Aside0.mk (below_step (by repeat (first | (with_reducible first | exact HB.out | apply below_alloc | apply pw_below_drewN | apply below_drew1) | exact HB.out)) hb); clear HB; have HO105 := n0_; have HB := n1_; clear n0_ n1_; (try clear hb); (try clear hb2); (try clear hk); (try clear hi); (try clear ho0)) | ((with_reducible refine gate_callee (f := 8) rfl ?_); refine goesL_ (some 13) rfl rfl Tryd.func8 (by kernel_rfl) rfl #[.string (⟨#[120, 123, 33, 97, 125]⟩ : ByteArray)] rfl (by (try simp only [List.map_toArray, List.map_cons, List.map_nil]); first | done | rfl | (simp only [List.length_drop, List.length_take]; rfl)) ?_; (with_reducible refine (tmpl_Parse.calls k (⟨#[120, 123, 33, 97, 125]⟩ : ByteArray) t106 t107 t108 _ (hG.keepAt (Nat.le_refl _) (by repeat (first | (with_reducible first | exact HB.out | apply below_alloc | apply pw_below_drewN | apply below_drew1) | exact HB.out))) A2.out).mono ?_); rintro e w21 ⟨v109, rfl, ho0, hb⟩; refine ⟨_, rfl, ?_⟩; have n0_ := Aside0.mk (Kd.S_elder' (by (with_reducible repeat (first | apply Kd.S_alloc | apply Kd.S_drewN | apply Kd.S_drew)); exact HO105.out) (Kd.S_base ho0) hb); have n1_ := Aside0.mk (Kd.S_lower (Kd.S_new' ho0 (Kd.S_lt (by (with_reducible repeat (first | apply Kd.S_alloc | apply Kd.S_drewN | apply Kd.S_drew)); exact HO105.out))) (below_size (by repeat (first | (with_reducible first | exact HB.out | apply below_alloc | apply pw_below_drewN | apply below_drew1) | exact HB.out)))); have n2_ := Aside0.mk (below_step (by repeat (first | (with_reducible first | exact HB.out | apply below_alloc | apply pw_below_drewN | apply below_drew1) | exact HB.out)) hb); clear HO105; clear HB; have HO105 := n0_; have HO110 := n1_; have HB := n2_; clear n0_ n1_ n2_; (try clear hb); (try clear hb2); (try clear hk); (try clear hi); (try clear ho0); obtain ⟨Ao22, co22, eo22⟩ := Kd.S_slice HO105.out; subst eo22; have p111 : 0 ≤ (0 : Int) := (by omega); have q111 : 0 < (t101.length : Int) := of_decide_eq_true (by first | (with_reducible assumption) | assumption); obtain ⟨ad111, A111_2, c111_2, e111, hx111_0, hx111_1, hx111_2, hl111_2, hi111_2⟩ := at_T41 (Kd.S_reads' HO105.out).2.2 0 p111 q111; cases e111; obtain ⟨ce111, hce111, hMe111, hcc111⟩ := Kd.S_get HO105.out z41 0 p111 (by first | exact q111 | exact of_decide_eq_true (by first | (with_reducible assumption) | assumption) | (have e_ := (Kd.S_reads' HO105.out).1; omega)); obtain ⟨ve111_2, rfl, ge111_2⟩ := k41_openM hMe111; have hv111_2 := hcc111 2 _ rfl; rw [add_field _ _ 2 (by omega)] at hv111_2; replace hv111_2 := Option.some.inj (hv111_2.symm.trans hx111_2); rw [hv111_2] at ge111_2; have HL111_2 := Aside0.mk (show Kd.R k43 43 _ _ _ _ ((rd_T41 t101 0).f2) from ge111_2); clear hv111_2 ge111_2; clear hcc111 hce111; have qi111 : (0 < t101.length) = True := eq_true (by omega); (try rw [show ((0 : Int)).toNat = 0 from rfl] at hx111_0); (try rw [show 0 * 3 = 0 from rfl] at hx111_0); (try rw [Addr.add_zero'] at hx111_0); (try rw [show ((0 : Int)).toNat = 0 from rfl] at hx111_1); (try rw [show 0 * 3 = 0 from rfl] at hx111_1); (try rw [Addr.add_zero'] at hx111_1); (try rw [show ((0 : Int)).toNat = 0 from rfl] at hx111_2); (try rw [show 0 * 3 = 0 from rfl] at hx111_2); (try rw [Addr.add_zero'] at hx111_2); have HR111_2 := Aside0.mk hi111_2; have HC111_2 := Aside0.mk hl111_2; clear hi111_2 hl111_2; replace p111 := eq_true p111; replace q111 := eq_true q111; have p112 : 0 ≤ (1 : Int) := (by omega); have q112 : 1 < (t101.length : Int) := of_decide_eq_true (by first | (with_reducible assumption) | assumption); obtain ⟨ad112, A112_2, c112_2, e112, hx112_0, hx112_1, hx112_2, hl112_2, hi112_2⟩ := at_T41 (Kd.S_reads' HO105.out).2.2 1 p112 q112; obtain rfl : ad111 = ad112 := (by injection e112); obtain ⟨ce112, hce112, hMe112, hcc112⟩ := Kd.S_get HO105.out z41 1 p112 (by first | exact q112 | exact of_decide_eq_true (by first | (with_reducible assumption) | assumption) | (have e_ := (Kd.S_reads' HO105.out).1; omega)); obtain ⟨ve112_2, rfl, ge112_2⟩ := k41_openM hMe112; have hv112_2 := hcc112 2 _ rfl; rw [add_field _ _ 2 (by omega)] at hv112_2; replace hv112_2 := Option.some.inj (hv112_2.symm.trans hx112_2); rw [hv112_2] at ge112_2; have HL112_2 := Aside0.mk (show Kd.R k43 43 _ _ _ _ ((rd_T41 t101 1).f2) from ge112_2); clear hv112_2 ge112_2; clear hcc112 hce112; (try simp only [show (1 : Int).toNat = 1 from rfl, Nat.reduceMul, Nat.reduceEqDiff, Go.Addr.add, ↓reduceIte] at hx112_0); (try simp only [show (1 : Int).toNat = 1 from rfl, Nat.reduceMul, Nat.reduceEqDiff, Go.Addr.add, ↓reduceIte] at hx112_1); (try simp only [show (1 : Int).toNat = 1 from rfl, Nat.reduceMul, Nat.reduceEqDiff, Go.Addr.add, ↓reduceIte] at hx112_2); have qi112 : (1 < t101.length) = True := eq_true (by omega); (try rw [show ((1 : Int)).toNat = 1 from rfl] at hx112_0); (try rw [show 1 * 3 = 3 from rfl] at hx112_0); (try rw [show ((1 : Int)).toNat = 1 from rfl] at hx112_1); (try rw [show 1 * 3 = 3 from rfl] at hx112_1); (try rw [show ((1 : Int)).toNat = 1 from rfl] at hx112_2); (try rw [show 1 * 3 = 3 from rfl] at hx112_2); have HR112_2 := Aside0.mk hi112_2; have HC112_2 := Aside0.mk hl112_2; clear hi112_2 hl112_2; replace p112 := eq_true p112; replace q112 := eq_true q112; have p113 : 0 ≤ (1 : Int) := (by omega); have q113 : 1 < (t101.length : Int) := of_decide_eq_true (by first | (with_reducible assumption) | assumption); obtain ⟨ad113, A113_2, c113_2, e113, hx113_0, hx113_1, hx113_2, hl113_2, hi113_2⟩ := at_T41 (Kd.S_reads' HO105.out).2.2 1 p113 q113; obtain rfl : ad111 = ad113 := (by injection e113); obtain ⟨ce113, hce113, hMe113, hcc113⟩ := Kd.S_get HO105.out z41 1 p113 (by first | exact q113 | exact of_decide_eq_true (by first | (with_reducible assumption) | assumption) | (have e_ := (Kd.S_reads' HO105.out).1; omega)); obtain ⟨ve113_2, rfl, ge113_2⟩ := k41_openM hMe113; have hv113_2 := hcc113 2 _ rfl; rw [add_field _ _ 2 (by omega)] at hv113_2; replace hv113_2 := Option.some.inj (hv113_2.symm.trans hx113_2); rw [hv113_2] at ge113_2; have HL113_2 := Aside0.mk (show Kd.R k43 43 _ _ _ _ ((rd_T41 t101 1).f2) from ge113_2); clear hv113_2 ge113_2; clear hcc113 hce113; (try simp only [show (1 : Int).toNat = 1 from rfl, Nat.reduceMul, Nat.reduceEqDiff, Go.Addr.add, ↓reduceIte] at hx113_0); (try simp only [show (1 : Int).toNat = 1 from rfl, Nat.reduceMul, Nat.reduceEqDiff, Go.Addr.add, ↓reduceIte] at hx113_1); (try simp only [show (1 : Int).toNat = 1 from rfl, Nat.reduceMul, Nat.reduceEqDiff, Go.Addr.add, ↓reduceIte] at hx113_2); have qi113 : (1 < t101.length) = True := eq_true (by omega); (try rw [show ((1 : Int)).toNat = 1 from rfl] at hx113_0); (try rw [show 1 * 3 = 3 from rfl] at hx113_0); (try rw [show ((1 : Int)).toNat = 1 from rfl] at hx113_1); (try rw [show 1 * 3 = 3 from rfl] at hx113_1); (try rw [show ((1 : Int)).toNat = 1 from rfl] at hx113_2); (try rw [show 1 * 3 = 3 from rfl] at hx113_2); have HR113_2 := Aside0.mk hi113_2; have HC113_2 := Aside0.mk hl113_2; clear hi113_2 hl113_2; replace p113 := eq_true p113; replace q113 := eq_true q113; have ea_ := Option.some.inj (hx112_2.symm.trans hx113_2); injection ea_ with ea_ en_ ec_; subst ea_; subst ec_; clear en_; have p114 : 0 ≤ (1 : Int) := (by omega); have q114 : 1 < (t101.length : Int) := of_decide_eq_true (by first | (with_reducible assumption) | assumption); obtain ⟨ad114, A114_2, c114_2, e114, hx114_0, hx114_1, hx114_2, hl114_2, hi114_2⟩ := at_T41 (Kd.S_reads' HO105.out).2.2 1 p114 q114; obtain rfl : ad111 = ad114 := (by injection e114); obtain ⟨ce114, hce114, hMe114, hcc114⟩ := Kd.S_get HO105.out z41 1 p114 (by first | exact q114 | exact of_decide_eq_true (by first | (with_reducible assumption) | assumption) | (have e_ := (Kd.S_reads' HO105.out).1; omega)); obtain ⟨ve114_2, rfl, ge114_2⟩ := k41_openM hMe114; have hv114_2 := hcc114 2 _ rfl; rw [add_field _ _ 2 (by omega)] at hv114_2; replace hv114_2 := Option.some.inj (hv114_2.symm.trans hx114_2); rw [hv114_2] at ge114_2; have HL114_2 := Aside0.mk (show Kd.R k43 43 _ _ _ _ ((rd_T41 t101 1).f2) from ge114_2); clear hv114_2 ge114_2; clear hcc114 hce114; (try simp only [show (1 : Int).toNat = 1 from rfl, Nat.reduceMul, Nat.reduceEqDiff, Go.Addr.add, ↓reduceIte] at hx114_0); (try simp only [show (1 : Int).toNat = 1 from rfl, Nat.reduceMul, Nat.reduceEqDiff, Go.Addr.add, ↓reduceIte] at hx114_1); (try simp only [show (1 : Int).toNat = 1 from rfl, Nat.reduceMul, Nat.reduceEqDiff, Go.Addr.add, ↓reduceIte] at hx114_2); have qi114 : (1 < t101.length) = True := eq_true (by omega); (try rw [show ((1 : Int)).toNat = 1 from rfl] at hx114_0); (try rw [show 1 * 3 = 3 from rfl] at hx114_0); (try rw [show ((1 : Int)).toNat = 1 from rfl] at hx114_1); (try rw [show 1 * 3 = 3 from rfl] at hx114_1); (try rw [show ((1 : Int)).toNat = 1 from rfl] at hx114_2); (try rw [show 1 * 3 = 3 from rfl] at hx114_2); have HR114_2 := Aside0.mk hi114_2; have HC114_2 := Aside0.mk hl114_2; clear hi114_2 hl114_2; replace p114 := eq_true p114; replace q114 := eq_true q114; have ea_ := Option.some.inj (hx112_2.symm.trans hx114_2); injection ea_ with ea_ en_ ec_; subst ea_; subst ec_; clear en_; have p115 : 0 ≤ (1 : Int) := (by omega); have q115 : 1 < (((rd_T41 t101 1).f2).length : Int) := of_decide_eq_true (by first | (with_reducible assumption) | assumption); obtain ⟨ad115, e115, hx115_0, hx115_1, hx115_2⟩ := at_T43 (by repeat (first | (with_reducible exact HR114_2.out) | (with_reducible refine Kd.C_alloc ?_ _) | (with_reducible refine Kd.C_drewN ?_ _) | (with_reducible refine Kd.C_drew ?_) | exact HR114_2.out)) 1 p115 q115; cases e115; (try simp only [show (1 : Int).toNat = 1 from rfl, Nat.reduceMul, Nat.reduceEqDiff, Go.Addr.add, ↓reduceIte] at hx115_0); (try simp only [show (1 : Int).toNat = 1 from rfl, Nat.reduceMul, Nat.reduceEqDiff, Go.Addr.add, ↓reduceIte] at hx115_1); (try simp only [show (1 : Int).toNat = 1 from rfl, Nat.reduceMul, Nat.reduceEqDiff, Go.Addr.add, ↓reduceIte] at hx115_2); have qi115 : (1 < ((rd_T41 t101 1).f2).length) = True := eq_true (by omega); (try rw [show ((1 : Int)).toNat = 1 from rfl] at hx115_0); (try rw [show 1 * 3 = 3 from rfl] at hx115_0); (try rw [show ((1 : Int)).toNat = 1 from rfl] at hx115_1); (try rw [show 1 * 3 = 3 from rfl] at hx115_1); (try rw [show ((1 : Int)).toNat = 1 from rfl] at hx115_2); (try rw [show 1 * 3 = 3 from rfl] at hx115_2); replace p115 := eq_true p115; replace q115 := eq_true q115))
                     go_ret
                     exact ⟨by first | rfl | (simp [errW_none, errW_some] <;> rfl) | (simp [*, errW_none, errW_some] <;> rfl), by repeat (first | (with_reducible first | exact HB.out | apply below_alloc | apply pw_below_drewN | apply below_drew1) | exact HB.out)⟩
                 · rw [if_neg c11] at H
                   exact absurd H (by simp)
               · rw [if_neg c10] at H
                 have c10b0 : ((((rd_T41 t101 1).f2).length : Int) == 2) = false := beq_eq_false_iff_ne.mpr c10
                 have c10b1 : ((((rd_T41 t101 1).f2).length : Int) != 2) = true := bne_iff_ne.mpr c10
                 obtain rfl := Option.some.inj H
                 go_enter Tryd.func7, Tryd.ntmps7
                 go_wp2_with (first | ((with_reducible refine gate_callee (f := 8) rfl ?_); refine goesL_ (some 8) rfl rfl Tryd.func8 (by kernel_rfl) rfl #[.string (⟨#[120, 123, 63, 97, 44, 98, 42, 125]⟩ : ByteArray)] rfl (by (try simp only [List.map_toArray, List.map_cons, List.map_nil]); first | done | rfl | (simp only [List.length_drop, List.length_take]; rfl)) ?_; (with_reducible refine (tmpl_Parse.calls k (⟨#[120, 123, 63, 97, 44, 98, 42, 125]⟩ : ByteArray) t101 t102 t103 _ (hG.keepAt (Nat.le_refl _) (by repeat (first | (with_reducible first | exact HB.out | apply below_alloc | apply pw_below_drewN | apply below_drew1) | exact HB.out))) A1.out).mono ?_); rintro e w23 ⟨v104, rfl, ho0, hb⟩; refine ⟨_, rfl, ?_⟩; have n0_ := Aside0.mk (Kd.S_lower ho0 (below_size (by repeat (first | (with_reducible first | exact HB.out | apply below_alloc | apply pw_below_drewN | apply below_drew1) | exact HB.out)))); have n1_ := Aside0.mk (below_step (by repeat (first | (with_reducible first | exact HB.out | apply below_alloc | apply pw_below_drewN | apply below_drew1) | exact HB.out)) hb); clear HB; have HO105 := n0_; have HB := n1_; clear n0_ n1_; (try clear hb); (try clear hb2); (try clear hk); (try clear hi); (try clear ho0)) | ((with_reducible refine gate_callee (f := 8) rfl ?_); refine goesL_ (some 13) rfl rfl Tryd.func8 (by kernel_rfl) rfl #[.string (⟨#[120, 123, 33, 97, 125]⟩ : ByteArray)] rfl (by (try simp only [List.map_toArray, List.map_cons, List.map_nil]); first | done | rfl | (simp only [List.length_drop, List.length_take]; rfl)) ?_; (with_reducible refine (tmpl_Parse.calls k (⟨#[120, 123, 33, 97, 125]⟩ : ByteArray) t106 t107 t108 _ (hG.keepAt (Nat.le_refl _) (by repeat (first | (with_reducible first | exact HB.out | apply below_alloc | apply pw_below_drewN | apply below_drew1) | exact HB.out))) A2.out).mono ?_); rintro e w24 ⟨v109, rfl, ho0, hb⟩; refine ⟨_, rfl, ?_⟩; have n0_ := Aside0.mk (Kd.S_elder' (by (with_reducible repeat (first | apply Kd.S_alloc | apply Kd.S_drewN | apply Kd.S_drew)); exact HO105.out) (Kd.S_base ho0) hb); have n1_ := Aside0.mk (Kd.S_lower (Kd.S_new' ho0 (Kd.S_lt (by (with_reducible repeat (first | apply Kd.S_alloc | apply Kd.S_drewN | apply Kd.S_drew)); exact HO105.out))) (below_size (by repeat (first | (with_reducible first | exact HB.out | apply below_alloc | apply pw_below_drewN | apply below_drew1) | exact HB.out)))); have n2_ := Aside0.mk (below_step (by repeat (first | (with_reducible first | exact HB.out | apply below_alloc | apply pw_below_drewN | apply below_drew1) | exact HB.out)) hb); clear HO105; clear HB; have HO105 := n0_; have HO110 := n1_; have HB := n2_; clear n0_ n1_ n2_; (try clear hb); (try clear hb2); (try clear hk); (try clear hi); (try clear ho0); obtain ⟨Ao25, co25, eo25⟩ := Kd.S_slice HO105.out; subst eo25; have p111 : 0 ≤ (0 : Int) := (by omega); have q111 : 0 < (t101.length : Int) := of_decide_eq_true (by first | (with_reducible assumption) | assumption); obtain ⟨ad111, A111_2, c111_2, e111, hx111_0, hx111_1, hx111_2, hl111_2, hi111_2⟩ := at_T41 (Kd.S_reads' HO105.out).2.2 0 p111 q111; cases e111; obtain ⟨ce111, hce111, hMe111, hcc111⟩ := Kd.S_get HO105.out z41 0 p111 (by first | exact q111 | exact of_decide_eq_true (by first | (with_reducible assumption) | assumption) | (have e_ := (Kd.S_reads' HO105.out).1; omega)); obtain ⟨ve111_2, rfl, ge111_2⟩ := k41_openM hMe111; have hv111_2 := hcc111 2 _ rfl; rw [add_field _ _ 2 (by omega)] at hv111_2; replace hv111_2 := Option.some.inj (hv111_2.symm.trans hx111_2); rw [hv111_2] at ge111_2; have HL111_2 := Aside0.mk (show Kd.R k43 43 _ _ _ _ ((rd_T41 t101 0).f2) from ge111_2); clear hv111_2 ge111_2; clear hcc111 hce111; have qi111 : (0 < t101.length) = True := eq_true (by omega); (try rw [show ((0 : Int)).toNat = 0 from rfl] at hx111_0); (try rw [show 0 * 3 = 0 from rfl] at hx111_0); (try rw [Addr.add_zero'] at hx111_0); (try rw [show ((0 : Int)).toNat = 0 from rfl] at hx111_1); (try rw [show 0 * 3 = 0 from rfl] at hx111_1); (try rw [Addr.add_zero'] at hx111_1); (try rw [show ((0 : Int)).toNat = 0 from rfl] at hx111_2); (try rw [show 0 * 3 = 0 from rfl] at hx111_2); (try rw [Addr.add_zero'] at hx111_2); have HR111_2 := Aside0.mk hi111_2; have HC111_2 := Aside0.mk hl111_2; clear hi111_2 hl111_2; replace p111 := eq_true p111; replace q111 := eq_true q111; have p112 : 0 ≤ (1 : Int) := (by omega); have q112 : 1 < (t101.length : Int) := of_decide_eq_true (by first | (with_reducible assumption) | assumption); obtain ⟨ad112, A112_2, c112_2, e112, hx112_0, hx112_1, hx112_2, hl112_2, hi112_2⟩ := at_T41 (Kd.S_reads' HO105.out).2.2 1 p112 q112; obtain rfl : ad111 = ad112 := (by injection e112); obtain ⟨ce112, hce112, hMe112, hcc112⟩ := Kd.S_get HO105.out z41 1 p112 (by first | exact q112 | exact of_decide_eq_true (by first | (with_reducible assumption) | assumption) | (have e_ := (Kd.S_reads' HO105.out).1; omega)); obtain ⟨ve112_2, rfl, ge112_2⟩ := k41_openM hMe112; have hv112_2 := hcc112 2 _ rfl; rw [add_field _ _ 2 (by omega)] at hv112_2; replace hv112_2 := Option.some.inj (hv112_2.symm.trans hx112_2); rw [hv112_2] at ge112_2; have HL112_2 := Aside0.mk (show Kd.R k43 43 _ _ _ _ ((rd_T41 t101 1).f2) from ge112_2); clear hv112_2 ge112_2; clear hcc112 hce112; (try simp only [show (1 : Int).toNat = 1 from rfl, Nat.reduceMul, Nat.reduceEqDiff, Go.Addr.add, ↓reduceIte] at hx112_0); (try simp only [show (1 : Int).toNat = 1 from rfl, Nat.reduceMul, Nat.reduceEqDiff, Go.Addr.add, ↓reduceIte] at hx112_1); (try simp only [show (1 : Int).toNat = 1 from rfl, Nat.reduceMul, Nat.reduceEqDiff, Go.Addr.add, ↓reduceIte] at hx112_2); have qi112 : (1 < t101.length) = True := eq_true (by omega); (try rw [show ((1 : Int)).toNat = 1 from rfl] at hx112_0); (try rw [show 1 * 3 = 3 from rfl] at hx112_0); (try rw [show ((1 : Int)).toNat = 1 from rfl] at hx112_1); (try rw [show 1 * 3 = 3 from rfl] at hx112_1); (try rw [show ((1 : Int)).toNat = 1 from rfl] at hx112_2); (try rw [show 1 * 3 = 3 from rfl] at hx112_2); have HR112_2 := Aside0.mk hi112_2; have HC112_2 := Aside0.mk hl112_2; clear hi112_2 hl112_2; replace p112 := eq_true p112; replace q112 := eq_true q112; have p113 : 0 ≤ (1 : Int) := (by omega); have q113 : 1 < (t101.length : Int) := of_decide_eq_true (by first | (with_reducible assumption) | assumption); obtain ⟨ad113, A113_2, c113_2, e113, hx113_0, hx113_1, hx113_2, hl113_2, hi113_2⟩ := at_T41 (Kd.S_reads' HO105.out).2.2 1 p113 q113; obtain rfl : ad111 = ad113 := (by injection e113); obtain ⟨ce113, hce113, hMe113, hcc113⟩ := Kd.S_get HO105.out z41 1 p113 (by first | exact q113 | exact of_decide_eq_true (by first | (with_reducible assumption) | assumption) | (have e_ := (Kd.S_reads' HO105.out).1; omega)); obtain ⟨ve113_2, rfl, ge113_2⟩ := k41_openM hMe113; have hv113_2 := hcc113 2 _ rfl; rw [add_field _ _ 2 (by omega)] at hv113_2; replace hv113_2 := Option.some.inj (hv113_2.symm.trans hx113_2); rw [hv113_2] at ge113_2; have HL113_2 := Aside0.mk (show Kd.R k43 43 _ _ _ _ ((rd_T41 t101 1).f2) from ge113_2); clear hv113_2 ge113_2; clear hcc113 hce113; (try simp only [show (1 : Int).toNat = 1 from rfl, Nat.reduceMul, Nat.reduceEqDiff, Go.Addr.add, ↓reduceIte] at hx113_0); (try simp only [show (1 : Int).toNat = 1 from rfl, Nat.reduceMul, Nat.reduceEqDiff, Go.Addr.add, ↓reduceIte] at hx113_1); (try simp only [show (1 : Int).toNat = 1 from rfl, Nat.reduceMul, Nat.reduceEqDiff, Go.Addr.add, ↓reduceIte] at hx113_2); have qi113 : (1 < t101.length) = True := eq_true (by omega); (try rw [show ((1 : Int)).toNat = 1 from rfl] at hx113_0); (try rw [show 1 * 3 = 3 from rfl] at hx113_0); (try rw [show ((1 : Int)).toNat = 1 from rfl] at hx113_1); (try rw [show 1 * 3 = 3 from rfl] at hx113_1); (try rw [show ((1 : Int)).toNat = 1 from rfl] at hx113_2); (try rw [show 1 * 3 = 3 from rfl] at hx113_2); have HR113_2 := Aside0.mk hi113_2; have HC113_2 := Aside0.mk hl113_2; clear hi113_2 hl113_2; replace p113 := eq_true p113; replace q113 := eq_true q113; have ea_ := Option.some.inj (hx112_2.symm.trans hx113_2); injection ea_ with ea_ en_ ec_; subst ea_; subst ec_; clear en_))
                 go_ret
                 exact ⟨by first | rfl | (simp [errW_none, errW_some] <;> rfl) | (simp [*, errW_none, errW_some] <;> rfl), by repeat (first | (with_reducible first | exact HB.out | apply below_alloc | apply pw_below_drewN | apply below_drew1) | exact HB.out)⟩
             · rw [if_neg c9] at H
               have c9b0 : (((rd_T41 t101 1).f1) == 63) = false := beq_eq_false_iff_ne.mpr c9
               have c9b1 : (((rd_T41 t101 1).f1) != 63) = true := bne_iff_ne.mpr c9
               obtain rfl := Option.some.inj H
               go_enter Tryd.func7, Tryd.ntmps7
               go_wp2_with (first | ((with_reducible refine gate_callee (f := 8) rfl ?_); refine goesL_ (some 8) rfl rfl Tryd.func8 (by kernel_rfl) rfl #[.string (⟨#[120, 123, 63, 97, 44, 98, 42, 125]⟩ : ByteArray)] rfl (by (try simp only [List.map_toArray, List.map_cons, List.map_nil]); first | done | rfl | (simp only [List.length_drop, List.length_take]; rfl)) ?_; (with_reducible refine (tmpl_Parse.calls k (⟨#[120, 123, 63, 97, 44, 98, 42, 125]⟩ : ByteArray) t101 t102 t103 _ (hG.keepAt (Nat.le_refl _) (by repeat (first | (with_reducible first | exact HB.out | apply below_alloc | apply pw_below_drewN | apply below_drew1) | exact HB.out))) A1.out).mono ?_); rintro e w26 ⟨v104, rfl, ho0, hb⟩; refine ⟨_, rfl, ?_⟩; have n0_ := Aside0.mk (Kd.S_lower ho0 (below_size (by repeat (first | (with_reducible first | exact HB.out | apply below_alloc | apply pw_below_drewN | apply below_drew1) | exact HB.out)))); have n1_ := Aside0.mk (below_step (by repeat (first | (with_reducible first | exact HB.out | apply below_alloc | apply pw_below_drewN | apply below_drew1) | exact HB.out)) hb); clear HB; have HO105 := n0_; have HB := n1_; clear n0_ n1_; (try clear hb); (try clear hb2); (try clear hk); (try clear hi); (try clear ho0)) | ((with_reducible refine gate_callee (f := 8) rfl ?_); refine goesL_ (some 13) rfl rfl Tryd.func8 (by kernel_rfl) rfl #[.string (⟨#[120, 123, 33, 97, 125]⟩ : ByteArray)] rfl (by (try simp only [List.map_toArray, List.map_cons, List.map_nil]); first | done | rfl | (simp only [List.length_drop, List.length_take]; rfl)) ?_; (with_reducible refine (tmpl_Parse.calls k (⟨#[120, 123, 33, 97, 125]⟩ : ByteArray) t106 t107 t108 _ (hG.keepAt (Nat.le_refl _) (by repeat (first | (with_reducible first | exact HB.out | apply below_alloc | apply pw_below_drewN | apply below_drew1) | exact HB.out))) A2.out).mono ?_); rintro e w27 ⟨v109, rfl, ho0, hb⟩; refine ⟨_, rfl, ?_⟩; have n0_ := Aside0.mk (Kd.S_elder' (by (with_reducible repeat (first | apply Kd.S_alloc | apply Kd.S_drewN | apply Kd.S_drew)); exact HO105.out) (Kd.S_base ho0) hb); have n1_ := Aside0.mk (Kd.S_lower (Kd.S_new' ho0 (Kd.S_lt (by (with_reducible repeat (first | apply Kd.S_alloc | apply Kd.S_drewN | apply Kd.S_drew)); exact HO105.out))) (below_size (by repeat (first | (with_reducible first | exact HB.out | apply below_alloc | apply pw_below_drewN | apply below_drew1) | exact HB.out)))); have n2_ := Aside0.mk (below_step (by repeat (first | (with_reducible first | exact HB.out | apply below_alloc | apply pw_below_drewN | apply below_drew1) | exact HB.out)) hb); clear HO105; clear HB; have HO105 := n0_; have HO110 := n1_; have HB := n2_; clear n0_ n1_ n2_; (try clear hb); (try clear hb2); (try clear hk); (try clear hi); (try clear ho0); obtain ⟨Ao28, co28, eo28⟩ := Kd.S_slice HO105.out; subst eo28; have p111 : 0 ≤ (0 : Int) := (by omega); have q111 : 0 < (t101.length : Int) := of_decide_eq_true (by first | (with_reducible assumption) | assumption); obtain ⟨ad111, A111_2, c111_2, e111, hx111_0, hx111_1, hx111_2, hl111_2, hi111_2⟩ := at_T41 (Kd.S_reads' HO105.out).2.2 0 p111 q111; cases e111; obtain ⟨ce111, hce111, hMe111, hcc111⟩ := Kd.S_get HO105.out z41 0 p111 (by first | exact q111 | exact of_decide_eq_true (by first | (with_reducible assumption) | assumption) | (have e_ := (Kd.S_reads' HO105.out).1; omega)); obtain ⟨ve111_2, rfl, ge111_2⟩ := k41_openM hMe111; have hv111_2 := hcc111 2 _ rfl; rw [add_field _ _ 2 (by omega)] at hv111_2; replace hv111_2 := Option.some.inj (hv111_2.symm.trans hx111_2); rw [hv111_2] at ge111_2; have HL111_2 := Aside0.mk (show Kd.R k43 43 _ _ _ _ ((rd_T41 t101 0).f2) from ge111_2); clear hv111_2 ge111_2; clear hcc111 hce111; have qi111 : (0 < t101.length) = True := eq_true (by omega); (try rw [show ((0 : Int)).toNat = 0 from rfl] at hx111_0); (try rw [show 0 * 3 = 0 from rfl] at hx111_0); (try rw [Addr.add_zero'] at hx111_0); (try rw [show ((0 : Int)).toNat = 0 from rfl] at hx111_1); (try rw [show 0 * 3 = 0 from rfl] at hx111_1); (try rw [Addr.add_zero'] at hx111_1); (try rw [show ((0 : Int)).toNat = 0 from rfl] at hx111_2); (try rw [show 0 * 3 = 0 from rfl] at hx111_2); (try rw [Addr.add_zero'] at hx111_2); have HR111_2 := Aside0.mk hi111_2; have HC111_2 := Aside0.mk hl111_2; clear hi111_2 hl111_2; replace p111 := eq_true p111; replace q111 := eq_true q111; have p112 : 0 ≤ (1 : Int) := (by omega); have q112 : 1 < (t101.length : Int) := of_decide_eq_true (by first | (with_reducible assumption) | assumption); obtain ⟨ad112, A112_2, c112_2, e112, hx112_0, hx112_1, hx112_2, hl112_2, hi112_2⟩ := at_T41 (Kd.S_reads' HO105.out).2.2 1 p112 q112; obtain rfl : ad111 = ad112 := (by injection e112); obtain ⟨ce112, hce112, hMe112, hcc112⟩ := Kd.S_get HO105.out z41 1 p112 (by first | exact q112 | exact of_decide_eq_true (by first | (with_reducible assumption) | assumption) | (have e_ := (Kd.S_reads' HO105.out).1; omega)); obtain ⟨ve112_2, rfl, ge112_2⟩ := k41_openM hMe112; have hv112_2 := hcc112 2 _ rfl; rw [add_field _ _ 2 (by omega)] at hv112_2; replace hv112_2 := Option.some.inj (hv112_2.symm.trans hx112_2); rw [hv112_2] at ge112_2; have HL112_2 := Aside0.mk (show Kd.R k43 43 _ _ _ _ ((rd_T41 t101 1).f2) from ge112_2); clear hv112_2 ge112_2; clear hcc112 hce112; (try simp only [show (1 : Int).toNat = 1 from rfl, Nat.reduceMul, Nat.reduceEqDiff, Go.Addr.add, ↓reduceIte] at hx112_0); (try simp only [show (1 : Int).toNat = 1 from rfl, Nat.reduceMul, Nat.reduceEqDiff, Go.Addr.add, ↓reduceIte] at hx112_1); (try simp only [show (1 : Int).toNat = 1 from rfl, Nat.reduceMul, Nat.reduceEqDiff, Go.Addr.add, ↓reduceIte] at hx112_2); have qi112 : (1 < t101.length) = True := eq_true (by omega); (try rw [show ((1 : Int)).toNat = 1 from rfl] at hx112_0); (try rw [show 1 * 3 = 3 from rfl] at hx112_0); (try rw [show ((1 : Int)).toNat = 1 from rfl] at hx112_1); (try rw [show 1 * 3 = 3 from rfl] at hx112_1); (try rw [show ((1 : Int)).toNat = 1 from rfl] at hx112_2); (try rw [show 1 * 3 = 3 from rfl] at hx112_2); have HR112_2 := Aside0.mk hi112_2; have HC112_2 := Aside0.mk hl112_2; clear hi112_2 hl112_2; replace p112 := eq_true p112; replace q112 := eq_true q112))
               go_ret
               exact ⟨by first | rfl | (simp [errW_none, errW_some] <;> rfl) | (simp [*, errW_none, errW_some] <;> rfl), by repeat (first | (with_reducible first | exact HB.out | apply below_alloc | apply pw_below_drewN | apply below_drew1) | exact HB.out)⟩
           · rw [if_neg c8] at H
             exact absurd H (by simp)
         · rw [if_neg c7] at H
           have c7b0 : (((rd_T41 t101 0).f0).toList == ([120] : List UInt8)) = false := beq_eq_false_iff_ne.mpr c7
           have c7b1 : (((rd_T41 t101 0).f0).toList != ([120] : List UInt8)) = true := bne_iff_ne.mpr c7
           obtain rfl := Option.some.inj H
           go_enter Tryd.func7, Tryd.ntmps7
           go_wp2_with (first | ((with_reducible refine gate_callee (f := 8) rfl ?_); refine goesL_ (some 8) rfl rfl Tryd.func8 (by kernel_rfl) rfl #[.string (⟨#[120, 123, 63, 97, 44, 98, 42, 125]⟩ : ByteArray)] rfl (by (try simp only [List.map_toArray, List.map_cons, List.map_nil]); first | done | rfl | (simp only [List.length_drop, List.length_take]; rfl)) ?_; (with_reducible refine (tmpl_Parse.calls k (⟨#[120, 123, 63, 97, 44, 98, 42, 125]⟩ : ByteArray) t101 t102 t103 _ (hG.keepAt (Nat.le_refl _) (by repeat (first | (with_reducible first | exact HB.out | apply below_alloc | apply pw_below_drewN | apply below_drew1) | exact HB.out))) A1.out).mono ?_); rintro e w29 ⟨v104, rfl, ho0, hb⟩; refine ⟨_, rfl, ?_⟩; have n0_ := Aside0.mk (Kd.S_lower ho0 (below_size (by repeat (first | (with_reducible first | exact HB.out | apply below_alloc | apply pw_below_drewN | apply below_drew1) | exact HB.out)))); have n1_ := Aside0.mk (below_step (by repeat (first | (with_reducible first | exact HB.out | apply below_alloc | apply pw_below_drewN | apply below_drew1) | exact HB.out)) hb); clear HB; have HO105 := n0_; have HB := n1_; clear n0_ n1_; (try clear hb); (try clear hb2); (try clear hk); (try clear hi); (try clear ho0)) | ((with_reducible refine gate_callee (f := 8) rfl ?_); refine goesL_ (some 13) rfl rfl Tryd.func8 (by kernel_rfl) rfl #[.string (⟨#[120, 123, 33, 97, 125]⟩ : ByteArray)] rfl (by (try simp only [List.map_toArray, List.map_cons, List.map_nil]); first | done | rfl | (simp only [List.length_drop, List.length_take]; rfl)) ?_; (with_reducible refine (tmpl_Parse.calls k (⟨#[120, 123, 33, 97, 125]⟩ : ByteArray) t106 t107 t108 _ (hG.keepAt (Nat.le_refl _) (by repeat (first | (with_reducible first | exact HB.out | apply below_alloc | apply pw_below_drewN | apply below_drew1) | exact HB.out))) A2.out).mono ?_); rintro e w30 ⟨v109, rfl, ho0, hb⟩; refine ⟨_, rfl, ?_⟩; have n0_ := Aside0.mk (Kd.S_elder' (by (with_reducible repeat (first | apply Kd.S_alloc | apply Kd.S_drewN | apply Kd.S_drew)); exact HO105.out) (Kd.S_base ho0) hb); have n1_ := Aside0.mk (Kd.S_lower (Kd.S_new' ho0 (Kd.S_lt (by (with_reducible repeat (first | apply Kd.S_alloc | apply Kd.S_drewN | apply Kd.S_drew)); exact HO105.out))) (below_size (by repeat (first | (with_reducible first | exact HB.out | apply below_alloc | apply pw_below_drewN | apply below_drew1) | exact HB.out)))); have n2_ := Aside0.mk (below_step (by repeat (first | (with_reducible first | exact HB.out | apply below_alloc | apply pw_below_drewN | apply below_drew1) | exact HB.out)) hb); clear HO105; clear HB; have HO105 := n0_; have HO110 := n1_; have HB := n2_; clear n0_ n1_ n2_; (try clear hb); (try clear hb2); (try clear hk); (try clear hi); (try clear ho0); obtain ⟨Ao31, co31, eo31⟩ := Kd.S_slice HO105.out; subst eo31; have p111 : 0 ≤ (0 : Int) := (by omega); have q111 : 0 < (t101.length : Int) := of_decide_eq_true (by first | (with_reducible assumption) | assumption); obtain ⟨ad111, A111_2, c111_2, e111, hx111_0, hx111_1, hx111_2, hl111_2, hi111_2⟩ := at_T41 (Kd.S_reads' HO105.out).2.2 0 p111 q111; cases e111; obtain ⟨ce111, hce111, hMe111, hcc111⟩ := Kd.S_get HO105.out z41 0 p111 (by first | exact q111 | exact of_decide_eq_true (by first | (with_reducible assumption) | assumption) | (have e_ := (Kd.S_reads' HO105.out).1; omega)); obtain ⟨ve111_2, rfl, ge111_2⟩ := k41_openM hMe111; have hv111_2 := hcc111 2 _ rfl; rw [add_field _ _ 2 (by omega)] at hv111_2; replace hv111_2 := Option.some.inj (hv111_2.symm.trans hx111_2); rw [hv111_2] at ge111_2; have HL111_2 := Aside0.mk (show Kd.R k43 43 _ _ _ _ ((rd_T41 t101 0).f2) from ge111_2); clear hv111_2 ge111_2; clear hcc111 hce111; have qi111 : (0 < t101.length) = True := eq_true (by omega); (try rw [show ((0 : Int)).toNat = 0 from rfl] at hx111_0); (try rw [show 0 * 3 = 0 from rfl] at hx111_0); (try rw [Addr.add_zero'] at hx111_0); (try rw [show ((0 : Int)).toNat = 0 from rfl] at hx111_1); (try rw [show 0 * 3 = 0 from rfl] at hx111_1); (try rw [Addr.add_zero'] at hx111_1); (try rw [show ((0 : Int)).toNat = 0 from rfl] at hx111_2); (try rw [show 0 * 3 = 0 from rfl] at hx111_2); (try rw [Addr.add_zero'] at hx111_2); have HR111_2 := Aside0.mk hi111_2; have HC111_2 := Aside0.mk hl111_2; clear hi111_2 hl111_2; replace p111 := eq_true p111; replace q111 := eq_true q111))
           go_ret
           exact ⟨by first | rfl | (simp [errW_none, errW_some] <;> rfl) | (simp [*, errW_none, errW_some] <;> rfl), by repeat (first | (with_reducible first | exact HB.out | apply below_alloc | apply pw_below_drewN | apply below_drew1) | exact HB.out)⟩
       · rw [if_neg c6] at H
         exact absurd H (by simp)
     · rw [if_neg c5] at H
       have c5b0 : ((t101.length : Int) == 2) = false := beq_eq_false_iff_ne.mpr c5
       have c5b1 : ((t101.length : Int) != 2) = true := bne_iff_ne.mpr c5
       obtain rfl := Option.some.inj H
       go_enter Tryd.func7, Tryd.ntmps7
       go_wp2_with (first | ((with_reducible refine gate_callee (f := 8) rfl ?_); refine goesL_ (some 8) rfl rfl Tryd.func8 (by kernel_rfl) rfl #[.string (⟨#[120, 123, 63, 97, 44, 98, 42, 125]⟩ : ByteArray)] rfl (by (try simp only [List.map_toArray, List.map_cons, List.map_nil]); first | done | rfl | (simp only [List.length_drop, List.length_take]; rfl)) ?_; (with_reducible refine (tmpl_Parse.calls k (⟨#[120, 123, 63, 97, 44, 98, 42, 125]⟩ : ByteArray) t101 t102 t103 _ (hG.keepAt (Nat.le_refl _) (by repeat (first | (with_reducible first | exact HB.out | apply below_alloc | apply pw_below_drewN | apply below_drew1) | exact HB.out))) A1.out).mono ?_); rintro e w32 ⟨v104, rfl, ho0, hb⟩; refine ⟨_, rfl, ?_⟩; have n0_ := Aside0.mk (Kd.S_lower ho0 (below_size (by repeat (first | (with_reducible first | exact HB.out | apply below_alloc | apply pw_below_drewN | apply below_drew1) | exact HB.out)))); have n1_ := Aside0.mk (below_step (by repeat (first | (with_reducible first | exact HB.out | apply below_alloc | apply pw_below_drewN | apply below_drew1) | exact HB.out)) hb); clear HB; have HO105 := n0_; have HB := n1_; clear n0_ n1_; (try clear hb); (try clear hb2); (try clear hk); (try clear hi); (try clear ho0)) | ((with_reducible refine gate_callee (f := 8) rfl ?_); refine goesL_ (some 13) rfl rfl Tryd.func8 (by kernel_rfl) rfl #[.string (⟨#[120, 123, 33, 97, 125]⟩ : ByteArray)] rfl (by (try simp only [List.map_toArray, List.map_cons, List.map_nil]); first | done | rfl | (simp only [List.length_drop, List.length_take]; rfl)) ?_; (with_reducible refine (tmpl_Parse.calls k (⟨#[120, 123, 33, 97, 125]⟩ : ByteArray) t106 t107 t108 _ (hG.keepAt (Nat.le_refl _) (by repeat (first | (with_reducible first | exact HB.out | apply below_alloc | apply pw_below_drewN | apply below_drew1) | exact HB.out))) A2.out).mono ?_); rintro e w33 ⟨v109, rfl, ho0, hb⟩; refine ⟨_, rfl, ?_⟩; have n0_ := Aside0.mk (Kd.S_elder' (by (with_reducible repeat (first | apply Kd.S_alloc | apply Kd.S_drewN | apply Kd.S_drew)); exact HO105.out) (Kd.S_base ho0) hb); have n1_ := Aside0.mk (Kd.S_lower (Kd.S_new' ho0 (Kd.S_lt (by (with_reducible repeat (first | apply Kd.S_alloc | apply Kd.S_drewN | apply Kd.S_drew)); exact HO105.out))) (below_size (by repeat (first | (with_reducible first | exact HB.out | apply below_alloc | apply pw_below_drewN | apply below_drew1) | exact HB.out)))); have n2_ := Aside0.mk (below_step (by repeat (first | (with_reducible first | exact HB.out | apply below_alloc | apply pw_below_drewN | apply below_drew1) | exact HB.out)) hb); clear HO105; clear HB; have HO105 := n0_; have HO110 := n1_; have HB := n2_; clear n0_ n1_ n2_; (try clear hb); (try clear hb2); (try clear hk); (try clear hi); (try clear ho0); obtain ⟨Ao34, co34, eo34⟩ := Kd.S_slice HO105.out; subst eo34))
       go_ret
       exact ⟨by first | rfl | (simp [errW_none, errW_some] <;> rfl) | (simp [*, errW_none, errW_some] <;> rfl), by repeat (first | (with_reducible first | exact HB.out | apply below_alloc | apply pw_below_drewN | apply below_drew1) | exact HB.out)⟩
   · rw [if_neg c4] at H
     have c4b0 : (t102 == 8) = false := beq_eq_false_iff_ne.mpr c4
     have c4b1 : (t102 != 8) = true := bne_iff_ne.mpr c4
     obtain rfl := Option.some.inj H
     go_enter Tryd.func7, Tryd.ntmps7
     go_wp2_with (first | ((with_reducible refine gate_callee (f := 8) rfl ?_); refine goesL_ (some 8) rfl rfl Tryd.func8 (by kernel_rfl) rfl #[.string (⟨#[120, 123, 63, 97, 44, 98, 42, 125]⟩ : ByteArray)] rfl (by (try simp only [List.map_toArray, List.map_cons, List.map_nil]); first | done | rfl | (simp only [List.length_drop, List.length_take]; rfl)) ?_; (with_reducible refine (tmpl_Parse.calls k (⟨#[120, 123, 63, 97, 44, 98, 42, 125]⟩ : ByteArray) t101 t102 t103 _ (hG.keepAt (Nat.le_refl _) (by repeat (first | (with_reducible first | exact HB.out | apply below_alloc | apply pw_below_drewN | apply below_drew1) | exact HB.out))) A1.out).mono ?_); rintro e w35 ⟨v104, rfl, ho0, hb⟩; refine ⟨_, rfl, ?_⟩; have n0_ := Aside0.mk (Kd.S_lower ho0 (below_size (by repeat (first | (with_reducible first | exact HB.out | apply below_alloc | apply pw_below_drewN | apply below_drew1) | exact HB.out)))); have n1_ := Aside0.mk (below_step (by repeat (first | (with_reducible first | exact HB.out | apply below_alloc | apply pw_below_drewN | apply below_drew1) | exact HB.out)) hb); clear HB; have HO105 := n0_; have HB := n1_; clear n0_ n1_; (try clear hb); (try clear hb2); (try clear hk); (try clear hi); (try clear ho0)) | ((with_reducible refine gate_callee (f := 8) rfl ?_); refine goesL_ (some 13) rfl rfl Tryd.func8 (by kernel_rfl) rfl #[.string (⟨#[120, 123, 33, 97, 125]⟩ : ByteArray)] rfl (by (try simp only [List.map_toArray, List.map_cons, List.map_nil]); first | done | rfl | (simp only [List.length_drop, List.length_take]; rfl)) ?_; (with_reducible refine (tmpl_Parse.calls k (⟨#[120, 123, 33, 97, 125]⟩ : ByteArray) t106 t107 t108 _ (hG.keepAt (Nat.le_refl _) (by repeat (first | (with_reducible first | exact HB.out | apply below_alloc | apply pw_below_drewN | apply below_drew1) | exact HB.out))) A2.out).mono ?_); rintro e w36 ⟨v109, rfl, ho0, hb⟩; refine ⟨_, rfl, ?_⟩; have n0_ := Aside0.mk (Kd.S_elder' (by (with_reducible repeat (first | apply Kd.S_alloc | apply Kd.S_drewN | apply Kd.S_drew)); exact HO105.out) (Kd.S_base ho0) hb); have n1_ := Aside0.mk (Kd.S_lower (Kd.S_new' ho0 (Kd.S_lt (by (with_reducible repeat (first | apply Kd.S_alloc | apply Kd.S_drewN | apply Kd.S_drew)); exact HO105.out))) (below_size (by repeat (first | (with_reducible first | exact HB.out | apply below_alloc | apply pw_below_drewN | apply below_drew1) | exact HB.out)))); have n2_ := Aside0.mk (below_step (by repeat (first | (with_reducible first | exact HB.out | apply below_alloc | apply pw_below_drewN | apply below_drew1) | exact HB.out)) hb); clear HO105; clear HB; have HO105 := n0_; have HO110 := n1_; have HB := n2_; clear n0_ n1_ n2_; (try clear hb); (try clear hb2); (try clear hk); (try clear hi); (try clear ho0)))
     go_ret
     exact ⟨by first | rfl | (simp [errW_none, errW_some] <;> rfl) | (simp [*, errW_none, errW_some] <;> rfl), by repeat (first | (with_reducible first | exact HB.out | apply below_alloc | apply pw_below_drewN | apply below_drew1) | exact HB.out)⟩
 · rw [if_neg c3] at H
   have c3b0 : (t103 == 0) = false := beq_eq_false_iff_ne.mpr c3
   have c3b1 : (t103 != 0) = true := bne_iff_ne.mpr c3
   obtain rfl := Option.some.inj H
   go_enter Tryd.func7, Tryd.ntmps7
   go_wp2_with (first | ((with_reducible refine gate_callee (f := 8) rfl ?_); refine goesL_ (some 8) rfl rfl Tryd.func8 (by kernel_rfl) rfl #[.string (⟨#[120, 123, 63, 97, 44, 98, 42, 125]⟩ : ByteArray)] rfl (by (try simp only [List.map_toArray, List.map_cons, List.map_nil]); first | done | rfl | (simp only [List.length_drop, List.length_take]; rfl)) ?_; (with_reducible refine (tmpl_Parse.calls k (⟨#[120, 123, 63, 97, 44, 98, 42, 125]⟩ : ByteArray) t101 t102 t103 _ (hG.keepAt (Nat.le_refl _) (by repeat (first | (with_reducible first | exact HB.out | apply below_alloc | apply pw_below_drewN | apply below_drew1) | exact HB.out))) A1.out).mono ?_); rintro e w37 ⟨v104, rfl, ho0, hb⟩; refine ⟨_, rfl, ?_⟩; have n0_ := Aside0.mk (Kd.S_lower ho0 (below_size (by repeat (first | (with_reducible first | exact HB.out | apply below_alloc | apply pw_below_drewN | apply below_drew1) | exact HB.out)))); have n1_ := Aside0.mk (below_step (by repeat (first | (with_reducible first | exact HB.out | apply below_alloc | apply pw_below_drewN | apply below_drew1) | exact HB.out)) hb); clear HB; have HO105 := n0_; have HB := n1_; clear n0_ n1_; (try clear hb); (try clear hb2); (try clear hk); (try clear hi); (try clear ho0)) | ((with_reducible refine gate_callee (f := 8) rfl ?_); refine goesL_ (some 13) rfl rfl Tryd.func8 (by kernel_rfl) rfl #[.string (⟨#[120, 123, 33, 97, 125]⟩ : ByteArray)] rfl (by (try simp only [List.map_toArray, List.map_cons, List.map_nil]); first | done | rfl | (simp only [List.length_drop, List.length_take]; rfl)) ?_; (with_reducible refine (tmpl_Parse.calls k (⟨#[120, 123, 33, 97, 125]⟩ : ByteArray) t106 t107 t108 _ (hG.keepAt (Nat.le_refl _) (by repeat (first | (with_reducible first | exact HB.out | apply below_alloc | apply pw_below_drewN | apply below_drew1) | exact HB.out))) A2.out).mono ?_); rintro e w38 ⟨v109, rfl, ho0, hb⟩; refine ⟨_, rfl, ?_⟩; have n0_ := Aside0.mk (Kd.S_elder' (by (with_reducible repeat (first | apply Kd.S_alloc | apply Kd.S_drewN | apply Kd.S_drew)); exact HO105.out) (Kd.S_base ho0) hb); have n1_ := Aside0.mk (Kd.S_lower (Kd.S_new' ho0 (Kd.S_lt (by (with_reducible repeat (first | apply Kd.S_alloc | apply Kd.S_drewN | apply Kd.S_drew)); exact HO105.out))) (below_size (by repeat (first | (with_reducible first | exact HB.out | apply below_alloc | apply pw_below_drewN | apply below_drew1) | exact HB.out)))); have n2_ := Aside0.mk (below_step (by repeat (first | (with_reducible first | exact HB.out | apply below_alloc | apply pw_below_drewN | apply below_drew1) | exact HB.out)) hb); clear HO105; clear HB; have HO105 := n0_; have HO110 := n1_; have HB := n2_; clear n0_ n1_ n2_; (try clear hb); (try clear hb2); (try clear hk); (try clear hi); (try clear ho0)))
   go_ret
   exact ⟨by first | rfl | (simp [errW_none, errW_some] <;> rfl) | (simp [*, errW_none, errW_some] <;> rfl), by repeat (first | (with_reducible first | exact HB.out | apply below_alloc | apply pw_below_drewN | apply below_drew1) | exact HB.out)⟩
end Go.Proofs.YtkipkbggnfllkaaDoor.P
end
section
namespace Go.Proofs.YtkipkbggnfllkaaDoor.P
open Go.RowKit Go.Proofs.YtkipkbggnfllkaaDoorW.PrintWords Go.Proofs.YtkipkbggnfllkaaDoorW.PrintLast Go.Proofs.YtkipkbggnfllkaaDoorW.PrintMore
attribute [local go_sem] max2_int min2_int max_two min_two max_three min_three max_four min_four
set_option linter.unusedVariables false
set_option linter.unusedSimpArgs false
mutual
def lw_TmplBack.j0 : Nat → List (S41) → ByteArray → Bool → Bool → Option (Bool)
 | 0, _, _, _, _ => none
 | k + 1, x0, x1, x5, x21 => if x21 = true then (some x5) else ((tmpl_May.f k x0).bind fun t283 => (if t283 = true then ((tmpl_Put.f x0).bind fun t284 => ((tmpl_Parse.f k t284).bind fun bt285 => (if bt285.2.2 = 0 then (if bt285.2.1 = (t284.size : Int) then ((rf07_Same.f k bt285.1 x0).bind fun t290 => (if t290 = true then (lw_TmplBack.j1 k x1 x5) else (some false))) else (some false)) else (some false)))) else (lw_TmplBack.j1 k x1 x5)))
def lw_TmplBack.j1 : Nat → ByteArray → Bool → Option (Bool)
 | 0, _, _ => none
 | k + 1, x1, x5 => (tmpl_Parse.f k x1).bind fun bt291 => (if bt291.2.2 = 0 then (if x5 = true then ((tmpl_May.f k bt291.1).bind fun t296 => (if t296 = true then ((tmpl_Put.f bt291.1).bind fun t297 => (if t297.toList = x1.toList then (some (bt291.2.1 == (x1.size : Int))) else (some false))) else (some false))) else (some false)) else (if x5 = true then (if bt291.2.2 = 2 then (if (bt291.1.length : Int) = 0 then (some (decide (bt291.2.1 ≤ (x1.size : Int)))) else (some false)) else (some false)) else (some false)))
end
def lw_TmplBack.f (k : Nat) (l0 : List (S41)) (a1 : ByteArray) : Option (Bool) := (lw_awake.f k).bind fun t281 => ((rf07_Few.f k l0).bind fun t282 => (if t282 = true then (lw_TmplBack.j0 k l0 a1 t281 (decide ((a1.size : Int) > 100))) else (lw_TmplBack.j0 k l0 a1 t281 true)))
set_option maxHeartbeats 8000000 in
set_option maxRecDepth 100000 in
theorem lw_TmplBack.calls (k : Nat) (A0 : Option Addr) (c0 : Nat) (l0 : List (S41)) (a1 : ByteArray) (r : Bool) (w : World) (hG : Gl w) (hr0 : Kd.C k41 w A0 l0.length l0) (hc0 : l0.length ≤ c0) (h : lw_TmplBack.f k l0 a1 = some r) :
 Calls Tryd.prog 6 #[.slice A0 l0.length c0, .string a1] w fun e w' => e = .returned (.bool r) ∧ Below w.heap.size w w' := by
 have HR0 := Aside0.mk hr0
 have HC0 := Aside0.mk hc0
 clear hr0 hc0
 have HB := Aside0.mk (Below.refl w.heap.size w)
 have H : ((lw_awake.f k).bind fun t281 => ((rf07_Few.f k l0).bind fun t282 => (if t282 = true then (lw_TmplBack.j0 k l0 a1 t281 (decide ((a1.size : Int) > 100))) else (lw_TmplBack.j0 k l0 a1 t281 true)))) = some r := h
 clear h
 replace H := Option.bind_eq_some_iff.mp H
 obtain ⟨t281, A30, H⟩ := H
 replace H : ((rf07_Few.f k l0).bind fun t282 => (if t282 = true then (lw_TmplBack.j0 k l0 a1 t281 (decide ((a1.size : Int) > 100))) else (lw_TmplBack.j0 k l0 a1 t281 true))) = some r := H
 have A3 := Aside0.mk A30
 clear A30
 have HC4 := Aside0.mk H
 clear H
 go_enter Tryd.func6, Tryd.ntmps6
 go_upto_region 2 with (first | ((with_reducible refine gate_callee (f := 7) rfl ?_); refine goesL_ (some 13) rfl rfl Tryd.func7 (by kernel_rfl) rfl #[] rfl (by (try simp only [List.map_toArray, List.map_cons, List.map_nil]); first | done | rfl | (simp only [List.length_drop, List.length_take]; rfl)) ?_; (with_reducible refine (lw_awake.calls k  t281 _ (hG.keepAt (Nat.le_refl _) (by repeat (first | (with_reducible first | exact HB.out | apply below_alloc | apply pw_below_drewN | apply below_drew1) | exact HB.out))) A3.out).mono ?_); rintro e w5 ⟨rfl, hb⟩; refine ⟨_, rfl, ?_⟩; have n0_ := Aside0.mk (below_step (by repeat (first | (with_reducible first | exact HB.out | apply below_alloc | apply pw_below_drewN | apply below_drew1) | exact HB.out)) hb); clear HB; have HB := n0_; clear n0_; (try clear hb); (try clear hb2); (try clear hk); (try clear hi)))
 (try simp only [Act.put, List.setIfInBounds_toArray, List.set_cons_zero, List.set_cons_succ])
 go_cut [21] (fun v21 wc => ∃ (kq : Nat) (x21_3 : Bool), v21 = .bool x21_3 ∧ Aside0 (lw_TmplBack.j0 kq l0 a1 t281 x21_3 = some r) ∧ Aside0 (kq ≤ k) ∧ Aside0 (Below w.heap.size w wc))
 case first =>
  have H := HC4.out
  clear HC4
  replace H := Option.bind_eq_some_iff.mp H
  obtain ⟨t282, A60, H⟩ := H
  replace H : (if t282 = true then (lw_TmplBack.j0 k l0 a1 t281 (decide ((a1.size : Int) > 100))) else (lw_TmplBack.j0 k l0 a1 t281 true)) = some r := H
  have A6 := Aside0.mk A60
  clear A60
  by_cases c7 : t282 = true
  · subst c7
    have H1 : (lw_TmplBack.j0 k l0 a1 t281 (decide ((a1.size : Int) > 100))) = some r := by rw [if_pos rfl] at H; exact H
    clear H
    have H := H1
    clear H1
    have H' := Aside0.mk H
    clear H
    go_wp2_with (first | ((with_reducible refine gate_callee (f := 16) rfl ?_); refine goesL_ (some 15) rfl rfl Tryd.func16 (by kernel_rfl) rfl #[.slice A0 l0.length c0] rfl (by (try simp only [List.map_toArray, List.map_cons, List.map_nil]); first | done | rfl | (simp only [List.length_drop, List.length_take]; rfl)) ?_; (with_reducible refine (rf07_Few.calls k _ _ l0 true _ ?side1 ?side2 A6.out).mono ?_); (case side1 => repeat (first | exact (Kd.C_below HR0.out HB.out) | (with_reducible refine Kd.C_alloc ?_ _) | (with_reducible refine Kd.C_drewN ?_ _) | (with_reducible refine Kd.C_drew ?_))); (case side2 => exact HC0.out); rintro e w' ⟨rfl, ⟨nd, rfl⟩⟩; refine ⟨_, rfl, ?_⟩))
    go_meet
    case rel => exact ⟨_, (decide ((a1.size : Int) > 100)), (by first | rfl | (simp; done) | (simp [*]; done)), H', ⟨by first | omega | exact Nat.le_refl _⟩, ⟨by repeat (first | (with_reducible first | exact HB.out | apply below_alloc | apply pw_below_drewN | apply below_drew1) | exact HB.out)⟩⟩
  · replace c7 := Bool.eq_false_iff.mpr c7
    subst c7
    have H1 : (lw_TmplBack.j0 k l0 a1 t281 true) = some r := by rw [if_neg (show ¬ (false = true) by decide)] at H; exact H
    clear H
    have H := H1
    clear H1
    have H' := Aside0.mk H
    clear H
    go_wp2_with (first | ((with_reducible refine gate_callee (f := 16) rfl ?_); refine goesL_ (some 15) rfl rfl Tryd.func16 (by kernel_rfl) rfl #[.slice A0 l0.length c0] rfl (by (try simp only [List.map_toArray, List.map_cons, List.map_nil]); first | done | rfl | (simp only [List.length_drop, List.length_take]; rfl)) ?_; (with_reducible refine (rf07_Few.calls k _ _ l0 false _ ?side1 ?side2 A6.out).mono ?_); (case side1 => repeat (first | exact (Kd.C_below HR0.out HB.out) | (with_reducible refine Kd.C_alloc ?_ _) | (with_reducible refine Kd.C_drewN ?_ _) | (with_reducible refine Kd.C_drew ?_))); (case side2 => exact HC0.out); rintro e w' ⟨rfl, ⟨nd, rfl⟩⟩; refine ⟨_, rfl, ?_⟩))
    go_meet
    case rel => exact ⟨_, (true), (by first | rfl | (simp; done) | (simp [*]; done)), H', ⟨by first | omega | exact Nat.le_refl _⟩, ⟨by repeat (first | (with_reducible first | exact HB.out | apply below_alloc | apply pw_below_drewN | apply below_drew1) | exact HB.out)⟩⟩
 case rest =>
  clear HC4
  try clear c1
  try clear p2
  try clear c6
  try clear c7
  obtain ⟨kq, x21_3, rfl, HA, HJ3, HB⟩ := hcut
  cases kq with
  | zero => exact absurd HA.out (by simp [lw_TmplBack.j0])
  | succ kj3 =>
   have H := HA.out
   clear HA
   simp only [lw_TmplBack.j0] at H
   by_cases c8 : x21_3 = true
   · subst c8
     have H1 : (some t281) = some r := by rw [if_pos rfl] at H; exact H
     clear H
     have H := H1
     clear H1
     obtain rfl := Option.some.inj H
     go_wp2
     go_ret
     exact ⟨by first | rfl | (simp [errW_none, errW_some] <;> rfl) | (simp [*, errW_none, errW_some] <;> rfl), by repeat (first | (with_reducible first | exact HB.out | apply below_alloc | apply pw_below_drewN | apply below_drew1) | exact HB.out)⟩
   · replace c8 := Bool.eq_false_iff.mpr c8
     subst c8
     have H1 : ((tmpl_May.f kj3 l0).bind fun t283 => (if t283 = true then ((tmpl_Put.f l0).bind fun t284 => ((tmpl_Parse.f kj3 t284).bind fun bt285 => (if bt285.2.2 = 0 then (if bt285.2.1 = (t284.size : Int) then ((rf07_Same.f kj3 bt285.1 l0).bind fun t290 => (if t290 = true then (lw_TmplBack.j1 kj3 a1 t281) else (some false))) else (some false)) else (some false)))) else (lw_TmplBack.j1 kj3 a1 t281))) = some r := by rw [if_neg (show ¬ (false = true) by decide)] at H; exact H
     clear H
     have H := H1
     clear H1
     replace H := Option.bind_eq_some_iff.mp H
     obtain ⟨t283, A90, H⟩ := H
     replace H : (if t283 = true then ((tmpl_Put.f l0).bind fun t284 => ((tmpl_Parse.f kj3 t284).bind fun bt285 => (if bt285.2.2 = 0 then (if bt285.2.1 = (t284.size : Int) then ((rf07_Same.f kj3 bt285.1 l0).bind fun t290 => (if t290 = true then (lw_TmplBack.j1 kj3 a1 t281) else (some false))) else (some false)) else (some false)))) else (lw_TmplBack.j1 kj3 a1 t281)) = some r := H
     have A9 := Aside0.mk A90
     clear A90
     have HC10 := Aside0.mk H
     clear H
     go_upto_if 24 with (first | ((with_reducible refine gate_callee (f := 17) rfl ?_); refine goesL_ (some 24) rfl rfl Tryd.func17 (by kernel_rfl) rfl #[.slice A0 l0.length c0] rfl (by (try simp only [List.map_toArray, List.map_cons, List.map_nil]); first | done | rfl | (simp only [List.length_drop, List.length_take]; rfl)) ?_; (with_reducible refine (tmpl_May.calls kj3 _ _ l0 t283 _ ?side1 ?side2 A9.out).mono ?_); (case side1 => repeat (first | exact (Kd.C_below HR0.out HB.out) | (with_reducible refine Kd.C_alloc ?_ _) | (with_reducible refine Kd.C_drewN ?_ _) | (with_reducible refine Kd.C_drew ?_))); (case side2 => exact HC0.out); rintro e w11 ⟨rfl, hb⟩; refine ⟨_, rfl, ?_⟩; have n0_ := Aside0.mk (below_step (by repeat (first | (with_reducible first | exact HB.out | apply below_alloc | apply pw_below_drewN | apply below_drew1) | exact HB.out)) hb); clear HB; have HB := n0_; clear n0_; (try clear hb); (try clear hb2); (try clear hk); (try clear hi)))
     (try simp only [Act.put, List.setIfInBounds_toArray, List.set_cons_zero, List.set_cons_succ])
     go_cut [] (fun wc => ∃ (kq : Nat), Aside0 (lw_TmplBack.j1 kq a1 t281 = some r) ∧ Aside0 (kq ≤ kj3) ∧ Aside0 (Below w.heap.size w wc))
     case first =>
      have H := HC10.out
      clear HC10
      by_cases c12 : t283 = true
      · subst c12
        have H1 : ((tmpl_Put.f l0).bind fun t284 => ((tmpl_Parse.f kj3 t284).bind fun bt285 => (if bt285.2.2 = 0 then (if bt285.2.1 = (t284.size : Int) then ((rf07_Same.f kj3 bt285.1 l0).bind fun t290 => (if t290 = true then (lw_TmplBack.j1 kj3 a1 t281) else (some false))) else (some false)) else (some false)))) = some r := by rw [if_pos rfl] at H; exact H
        clear H
        have H := H1
        clear H1
        replace H := Option.bind_eq_some_iff.mp H
        obtain ⟨t284, A130, H⟩ := H
        replace H : ((tmpl_Parse.f kj3 t284).bind fun bt285 => (if bt285.2.2 = 0 then (if bt285.2.1 = (t284.size : Int) then ((rf07_Same.f kj3 bt285.1 l0).bind fun t290 => (if t290 = true then (lw_TmplBack.j1 kj3 a1 t281) else (some false))) else (some false)) else (some false))) = some r := H
        have A13 := Aside0.mk A130
        clear A130
        replace H := Option.bind_eq_some_iff.mp H
        obtain ⟨⟨t285, t286, t287⟩, A140, H⟩ := H
        replace H : (if t287 = 0 then (if t286 = (t284.size : Int) then ((rf07_Same.f kj3 t285 l0).bind fun t290 => (if t290 = true then (lw_TmplBack.j1 kj3 a1 t281) else (some false))) else (some false)) else (some false)) = some r := H
        have A14 := Aside0.mk A140
        clear A140
        by_cases c15 : t287 = 0
        · rw [if_pos c15] at H
          have c15b0 : (t287 == 0) = true := beq_iff_eq.mpr c15
          have c15b1 : (t287 != 0) = false := bne_eq_false_iff_eq.mpr c15
          clear c15
          (first | rw [c15b0] | (simp only [i64_w, i32_w]; rw [c15b0]) | skip)
          by_cases c16 : t286 = (t284.size : Int)
          · rw [if_pos c16] at H
            have c16b0 : (t286 == (t284.size : Int)) = true := beq_iff_eq.mpr c16
            have c16b1 : (t286 != (t284.size : Int)) = false := bne_eq_false_iff_eq.mpr c16
            clear c16
            replace H := Option.bind_eq_some_iff.mp H
            obtain ⟨t290, A170, H⟩ := H
            replace H : (if t290 = true then (lw_TmplBack.j1 kj3 a1 t281) else (some false)) = some r := H
            have A17 := Aside0.mk A170
            clear A170
            by_cases c18 : t290 = true
            · subst c18
              have H1 : (lw_TmplBack.j1 kj3 a1 t281) = some r := by rw [if_pos rfl] at H; exact H
              clear H
              have H := H1
              clear H1
              have H' := Aside0.mk H
              clear H
              go_wp2_with (first | ((with_reducible refine gate_callee (f := 18) rfl ?_); refine goesL_ (some 26) rfl rfl Tryd.func18 (by kernel_rfl) rfl #[.slice A0 l0.length c0] rfl (by (try simp only [List.map_toArray, List.map_cons, List.map_nil]); first | done | rfl | (simp only [List.length_drop, List.length_take]; rfl)) ?_; (with_reducible refine (tmpl_Put.calls _ _ l0 t284 _ (hG.keepAt (Nat.le_refl _) (by repeat (first | (with_reducible first | exact HB.out | apply below_alloc | apply pw_below_drewN | apply below_drew1) | exact HB.out))) ?side1 ?side2 A13.out).mono ?_); (case side1 => repeat (first | exact (Kd.C_below HR0.out HB.out) | (with_reducible refine Kd.C_alloc ?_ _) | (with_reducible refine Kd.C_drewN ?_ _) | (with_reducible refine Kd.C_drew ?_))); (case side2 => exact HC0.out); rintro e w19 ⟨rfl, hb⟩; refine ⟨_, rfl, ?_⟩; have n0_ := Aside0.mk (below_step (by repeat (first | (with_reducible first | exact HB.out | apply below_alloc | apply pw_below_drewN | apply below_drew1) | exact HB.out)) hb); clear HB; have HB := n0_; clear n0_; (try clear hb); (try clear hb2); (try clear hk); (try clear hi)) | ((with_reducible refine gate_callee (f := 8) rfl ?_); refine goesL_ (some 29) rfl rfl Tryd.func8 (by kernel_rfl) rfl #[.string t284] rfl (by (try simp only [List.map_toArray, List.map_cons, List.map_nil]); first | done | rfl | (simp only [List.length_drop, List.length_take]; rfl)) ?_; (with_reducible refine (tmpl_Parse.calls kj3 t284 t285 t286 t287 _ (hG.keepAt (Nat.le_refl _) (by repeat (first | (with_reducible first | exact HB.out | apply below_alloc | apply pw_below_drewN | apply below_drew1) | exact HB.out))) A14.out).mono ?_); rintro e w20 ⟨v288, rfl, ho0, hb⟩; refine ⟨_, rfl, ?_⟩; have n0_ := Aside0.mk (Kd.S_lower ho0 (below_size (by repeat (first | (with_reducible first | exact HB.out | apply below_alloc | apply pw_below_drewN | apply below_drew1) | exact HB.out)))); have n1_ := Aside0.mk (below_step (by repeat (first | (with_reducible first | exact HB.out | apply below_alloc | apply pw_below_drewN | apply below_drew1) | exact HB.out)) hb); clear HB; have HO289 := n0_; have HB := n1_; clear n0_ n1_; (try clear hb); (try clear hb2); (try clear hk); (try clear hi); (try clear ho0); obtain ⟨Ao21, co21, eo21⟩ := Kd.S_slice HO289.out; subst eo21) | (go_at_call 19; (with_reducible refine (rf07_Same.calls kj3 _ _ t285 _ _ l0 true _ ?side1 ?side2 ?side3 ?side4 A17.out).mono ?_); (case side1 => repeat (first | exact (Kd.S_reads' HO289.out).2.2 | (with_reducible refine Kd.C_alloc ?_ _) | (with_reducible refine Kd.C_drewN ?_ _) | (with_reducible refine Kd.C_drew ?_))); (case side2 => exact (Kd.S_reads' HO289.out).2.1); (case side3 => repeat (first | exact (Kd.C_below HR0.out HB.out) | (with_reducible refine Kd.C_alloc ?_ _) | (with_reducible refine Kd.C_drewN ?_ _) | (with_reducible refine Kd.C_drew ?_))); (case side4 => exact HC0.out); rintro e w' ⟨rfl, ⟨nd, rfl⟩⟩))
              go_meet
              case rel => exact ⟨_, H', ⟨by have := HJ3.out; first | omega | exact Nat.le_refl _⟩, ⟨by repeat (first | (with_reducible first | exact HB.out | apply below_alloc | apply pw_below_drewN | apply below_drew1) | exact HB.out)⟩⟩
            · replace c18 := Bool.eq_false_iff.mpr c18
              subst c18
              have H1 : (some false) = some r := by rw [if_neg (show ¬ (false = true) by decide)] at H; exact H
              clear H
              have H := H1
              clear H1
              obtain rfl := Option.some.inj H
              go_wp2_with (first | ((with_reducible refine gate_callee (f := 18) rfl ?_); refine goesL_ (some 26) rfl rfl Tryd.func18 (by kernel_rfl) rfl #[.slice A0 l0.length c0] rfl (by (try simp only [List.map_toArray, List.map_cons, List.map_nil]); first | done | rfl | (simp only [List.length_drop, List.length_take]; rfl)) ?_; (with_reducible refine (tmpl_Put.calls _ _ l0 t284 _ (hG.keepAt (Nat.le_refl _) (by repeat (first | (with_reducible first | exact HB.out | apply below_alloc | apply pw_below_drewN | apply below_drew1) | exact HB.out))) ?side1 ?side2 A13.out).mono ?_); (case side1 => repeat (first | exact (Kd.C_below HR0.out HB.out) | (with_reducible refine Kd.C_alloc ?_ _) | (with_reducible refine Kd.C_drewN ?_ _) | (with_reducible refine Kd.C_drew ?_))); (case side2 => exact HC0.out); rintro e w22 ⟨rfl, hb⟩; refine ⟨_, rfl, ?_⟩; have n0_ := Aside0.mk (below_step (by repeat (first | (with_reducible first | exact HB.out | apply below_alloc | apply pw_below_drewN | apply below_drew1) | exact HB.out)) hb); clear HB; have HB := n0_; clear n0_; (try clear hb); (try clear hb2); (try clear hk); (try clear hi)) | ((with_reducible refine gate_callee (f := 8) rfl ?_); refine goesL_ (some 29) rfl rfl Tryd.func8 (by kernel_rfl) rfl #[.string t284] rfl (by (try simp only [List.map_toArray, List.map_cons, List.map_nil]); first | done | rfl | (simp only [List.length_drop, List.length_take]; rfl)) ?_; (with_reducible refine (tmpl_Parse.calls kj3 t284 t285 t286 t287 _ (hG.keepAt (Nat.le_refl _) (by repeat (first | (with_reducible first | exact HB.out | apply below_alloc | apply pw_below_drewN | apply below_drew1) | exact HB.out))) A14.out).mono ?_); rintro e w23 ⟨v288, rfl, ho0, hb⟩; refine ⟨_, rfl, ?_⟩; have n0_ := Aside0.mk (Kd.S_lower ho0 (below_size (by repeat (first | (with_reducible first | exact HB.out | apply below_alloc | apply pw_below_drewN | apply below_drew1) | exact HB.out)))); have n1_ := Aside0.mk (below_step (by repeat (first | (with_reducible first | exact HB.out | apply below_alloc | apply pw_below_drewN | apply below_drew1) | exact HB.out)) hb); clear HB; have HO289 := n0_; have HB := n1_; clear n0_ n1_; (try clear hb); (try clear hb2); (try clear hk); (try clear hi); (try clear ho0); obtain ⟨Ao24, co24, eo24⟩ := Kd.S_slice HO289.out; subst eo24) | (go_at_call 19; (with_reducible refine (rf07_Same.calls kj3 _ _ t285 _ _ l0 false _ ?side1 ?side2 ?side3 ?side4 A17.out).mono ?_); (case side1 => repeat (first | exact (Kd.S_reads' HO289.out).2.2 | (with_reducible refine Kd.C_alloc ?_ _) | (with_reducible refine Kd.C_drewN ?_ _) | (with_reducible refine Kd.C_drew ?_))); (case side2 => exact (Kd.S_reads' HO289.out).2.1); (case side3 => repeat (first | exact (Kd.C_below HR0.out HB.out) | (with_reducible refine Kd.C_alloc ?_ _) | (with_reducible refine Kd.C_drewN ?_ _) | (with_reducible refine Kd.C_drew ?_))); (case side4 => exact HC0.out); rintro e w' ⟨rfl, ⟨nd, rfl⟩⟩))
              go_ret
              exact ⟨by first | rfl | (simp [errW_none, errW_some] <;> rfl) | (simp [*, errW_none, errW_some] <;> rfl), by repeat (first | (with_reducible first | exact HB.out | apply below_alloc | apply pw_below_drewN | apply below_drew1) | exact HB.out)⟩
          · rw [if_neg c16] at H
            have c16b0 : (t286 == (t284.size : Int)) = false := beq_eq_false_iff_ne.mpr c16
            have c16b1 : (t286 != (t284.size : Int)) = true := bne_iff_ne.mpr c16
            obtain rfl := Option.some.inj H
            go_wp2_with (first | ((with_reducible refine gate_callee (f := 18) rfl ?_); refine goesL_ (some 26) rfl rfl Tryd.func18 (by kernel_rfl) rfl #[.slice A0 l0.length c0] rfl (by (try simp only [List.map_toArray, List.map_cons, List.map_nil]); first | done | rfl | (simp only [List.length_drop, List.length_take]; rfl)) ?_; (with_reducible refine (tmpl_Put.calls _ _ l0 t284 _ (hG.keepAt (Nat.le_refl _) (by repeat (first | (with_reducible first | exact HB.out | apply below_alloc | apply pw_below_drewN | apply below_drew1) | exact HB.out))) ?side1 ?side2 A13.out).mono ?_); (case side1 => repeat (first | exact (Kd.C_below HR0.out HB.out) | (with_reducible refine Kd.C_alloc ?_ _) | (with_reducible refine Kd.C_drewN ?_ _) | (with_reducible refine Kd.C_drew ?_))); (case side2 => exact HC0.out); rintro e w25 ⟨rfl, hb⟩; refine ⟨_, rfl, ?_⟩; have n0_ := Aside0.mk (below_step (by repeat (first | (with_reducible first | exact HB.out | apply below_alloc | apply pw_below_drewN | apply below_drew1) | exact HB.out)) hb); clear HB; have HB := n0_; clear n0_; (try clear hb); (try clear hb2); (try clear hk); (try clear hi)) | ((with_reducible refine gate_callee (f := 8) rfl ?_); refine goesL_ (some 29) rfl rfl Tryd.func8 (by kernel_rfl) rfl #[.string t284] rfl (by (try simp only [List.map_toArray, List.map_cons, List.map_nil]); first | done | rfl | (simp only [List.length_drop, List.length_take]; rfl)) ?_; (with_reducible refine (tmpl_Parse.calls kj3 t284 t285 t286 t287 _ (hG.keepAt (Nat.le_refl _) (by repeat (first | (with_reducible first | exact HB.out | apply below_alloc | apply pw_below_drewN | apply below_drew1) | exact HB.out))) A14.out).mono ?_); rintro e w26 ⟨v288, rfl, ho0, hb⟩; refine ⟨_, rfl, ?_⟩; have n0_ := Aside0.mk (Kd.S_lower ho0 (below_size (by repeat (first | (with_reducible first | exact HB.out | apply below_alloc | apply pw_below_drewN | apply below_drew1) | exact HB.out)))); have n1_ := Aside0.mk (below_step (by repeat (first | (with_reducible first | exact HB.out | apply below_alloc | apply pw_below_drewN | apply below_drew1) | exact HB.out)) hb); clear HB; have HO289 := n0_; have HB := n1_; clear n0_ n1_; (try clear hb); (try clear hb2); (try clear hk); (try clear hi); (try clear ho0)))
            go_ret
            exact ⟨by first | rfl | (simp [errW_none, errW_some] <;> rfl) | (simp [*, errW_none, errW_some] <;> rfl), by repeat (first | (with_reducible first | exact HB.out | apply below_alloc | apply pw_below_drewN | apply below_drew1) | exact HB.out)⟩
        · rw [if_neg c15] at H
          have c15b0 : (t287 == 0) = false := beq_eq_false_iff_ne.mpr c15
          have c15b1 : (t287 != 0) = true := bne_iff_ne.mpr c15
          (first | rw [c15b0] | (simp only [i64_w, i32_w]; rw [c15b0]) | skip)
          obtain rfl := Option.some.inj H
          go_wp2_with (first | ((with_reducible refine gate_callee (f := 18) rfl ?_); refine goesL_ (some 26) rfl rfl Tryd.func18 (by kernel_rfl) rfl #[.slice A0 l0.length c0] rfl (by (try simp only [List.map_toArray, List.map_cons, List.map_nil]); first | done | rfl | (simp only [List.length_drop, List.length_take]; rfl)) ?_; (with_reducible refine (tmpl_Put.calls _ _ l0 t284 _ (hG.keepAt (Nat.le_refl _) (by repeat (first | (with_reducible first | exact HB.out | apply below_alloc | apply pw_below_drewN | apply below_drew1) | exact HB.out))) ?side1 ?side2 A13.out).mono ?_); (case side1 => repeat (first | exact (Kd.C_below HR0.out HB.out) | (with_reducible refine Kd.C_alloc ?_ _) | (with_reducible refine Kd.C_drewN ?_ _) | (with_reducible refine Kd.C_drew ?_))); (case side2 => exact HC0.out); rintro e w27 ⟨rfl, hb⟩; refine ⟨_, rfl, ?_⟩; have n0_ := Aside0.mk (below_step (by repeat (first | (with_reducible first | exact HB.out | apply below_alloc | apply pw_below_drewN | apply below_drew1) | exact HB.out)) hb); clear HB; have HB := n0_; clear n0_; (try clear hb); (try clear hb2); (try clear hk); (try clear hi)) | ((with_reducible refine gate_callee (f := 8) rfl ?_); refine goesL_ (some 29) rfl rfl Tryd.func8 (by kernel_rfl) rfl #[.string t284] rfl (by (try simp only [List.map_toArray, List.map_cons, List.map_nil]); first | done | rfl | (simp only [List.length_drop, List.length_take]; rfl)) ?_; (with_reducible refine (tmpl_Parse.calls kj3 t284 t285 t286 t287 _ (hG.keepAt (Nat.le_refl _) (by repeat (first | (with_reducible first | exact HB.out | apply below_alloc | apply pw_below_drewN | apply below_drew1) | exact HB.out))) A14.out).mono ?_); rintro e w28 ⟨v288, rfl, ho0, hb⟩; refine ⟨_, rfl, ?_⟩; have n0_ := Aside0.mk (Kd.S_lower ho0 (below_size (by repeat (first | (with_reducible first | exact HB.out | apply below_alloc | apply pw_below_drewN | apply below_drew1) | exact HB.out)))); have n1_ := Aside0.mk (below_step (by repeat (first | (with_reducible first | exact HB.out | apply below_alloc | apply pw_below_drewN | apply below_drew1) | exact HB.out)) hb); clear HB; have HO289 := n0_; have HB := n1_; clear n0_ n1_; (try clear hb); (try clear hb2); (try clear hk); (try clear hi); (try clear ho0)))
          go_ret
          exact ⟨by first | rfl | (simp [errW_none, errW_some] <;> rfl) | (simp [*, errW_none, errW_some] <;> rfl), by repeat (first | (with_reducible first | exact HB.out | apply below_alloc | apply pw_below_drewN | apply below_drew1) | exact HB.out)⟩
      · replace c12 := Bool.eq_false_iff.mpr c12
        subst c12
        have H1 : (lw_TmplBack.j1 kj3 a1 t281) = some r := by rw [if_neg (show ¬ (false = true) by decide)] at H; exact H
        clear H
        have H := H1
        clear H1
        have H' := Aside0.mk H
        clear H
        go_wp2
        go_meet
        case rel => exact ⟨_, H', ⟨by have := HJ3.out; first | omega | exact Nat.le_refl _⟩, ⟨by repeat (first | (with_reducible first | exact HB.out | apply below_alloc | apply pw_below_drewN | apply below_drew1) | exact HB.out)⟩⟩
     case rest =>
      clear HC10
      try clear c1
      try clear p2
      try clear c6
      try clear c7
      try clear c8
      try clear c12
      try clear c15
      try clear c15b0
      try clear c15b1
      try clear c16
      try clear c16b0
      try clear c16b1
      try clear c17
      try clear c18
      try clear p2
      obtain ⟨kq, HA, HJ9, HB⟩ := hcut
      cases kq with
      | zero => exact absurd HA.out (by simp [lw_TmplBack.j1])
      | succ kj9 =>
       have H := HA.out
       clear HA
       simp only [lw_TmplBack.j1] at H
       replace H := Option.bind_eq_some_iff.mp H
       obtain ⟨⟨t291, t292, t293⟩, A290, H⟩ := H
       replace H : (if t293 = 0 then (if t281 = true then ((tmpl_May.f kj9 t291).bind fun t296 => (if t296 = true then ((tmpl_Put.f t291).bind fun t297 => (if t297.toList = a1.toList then (some (t292 == (a1.size : Int))) else (some false))) else (some false))) else (some false)) else (if t281 = true then (if t293 = 2 then (if (t291.length : Int) = 0 then (some (decide (t292 ≤ (a1.size : Int)))) else (some false)) else (some false)) else (some false))) = some r := H
       have A29 := Aside0.mk A290
       clear A290
       by_cases c30 : t293 = 0
       · rw [if_pos c30] at H
         have c30b0 : (t293 == 0) = true := beq_iff_eq.mpr c30
         have c30b1 : (t293 != 0) = false := bne_eq_false_iff_eq.mpr c30
         clear c30
         by_cases c31 : t281 = true
         · subst c31
           have H1 : ((tmpl_May.f kj9 t291).bind fun t296 => (if t296 = true then ((tmpl_Put.f t291).bind fun t297 => (if t297.toList = a1.toList then (some (t292 == (a1.size : Int))) else (some false))) else (some false))) = some r := by rw [if_pos rfl] at H; exact H
           clear H
           have H := H1
           clear H1
           replace H := Option.bind_eq_some_iff.mp H
           obtain ⟨t296, A320, H⟩ := H
           replace H : (if t296 = true then ((tmpl_Put.f t291).bind fun t297 => (if t297.toList = a1.toList then (some (t292 == (a1.size : Int))) else (some false))) else (some false)) = some r := H
           have A32 := Aside0.mk A320
           clear A320
           by_cases c33 : t296 = true
           · subst c33
             have H1 : ((tmpl_Put.f t291).bind fun t297 => (if t297.toList = a1.toList then (some (t292 == (a1.size : Int))) else (some false))) = some r := by rw [if_pos rfl] at H; exact H
             clear H
             have H := H1
             clear H1
             replace H := Option.bind_eq_some_iff.mp H
             obtain ⟨t297, A340, H⟩ := H
             replace H : (if t297.toList = a1.toList then (some (t292 == (a1.size : Int))) else (some false)) = some r := H
             have A34 := Aside0.mk A340
             clear A340
             by_cases c35 : t297.toList = a1.toList
             · rw [if_pos c35] at H
               have c35b0 : (t297.toList == a1.toList) = true := beq_iff_eq.mpr c35
               have c35b1 : (t297.toList != a1.toList) = false := bne_eq_false_iff_eq.mpr c35
               clear c35
               obtain rfl := Option.some.inj H
               go_wp2_with (first | ((with_reducible refine gate_callee (f := 8) rfl ?_); refine goesL_ (some 49) rfl rfl Tryd.func8 (by kernel_rfl) rfl #[.string a1] rfl (by (try simp only [List.map_toArray, List.map_cons, List.map_nil]); first | done | rfl | (simp only [List.length_drop, List.length_take]; rfl)) ?_; (with_reducible refine (tmpl_Parse.calls kj9 a1 t291 t292 t293 _ (hG.keepAt (Nat.le_refl _) (by repeat (first | (with_reducible first | exact HB.out | apply below_alloc | apply pw_below_drewN | apply below_drew1) | exact HB.out))) A29.out).mono ?_); rintro e w36 ⟨v294, rfl, ho0, hb⟩; refine ⟨_, rfl, ?_⟩; have n0_ := Aside0.mk (Kd.S_lower ho0 (below_size (by repeat (first | (with_reducible first | exact HB.out | apply below_alloc | apply pw_below_drewN | apply below_drew1) | exact HB.out)))); have n1_ := Aside0.mk (below_step (by repeat (first | (with_reducible first | exact HB.out | apply below_alloc | apply pw_below_drewN | apply below_drew1) | exact HB.out)) hb); clear HB; have HO295 := n0_; have HB := n1_; clear n0_ n1_; (try clear hb); (try clear hb2); (try clear hk); (try clear hi); (try clear ho0); obtain ⟨Ao37, co37, eo37⟩ := Kd.S_slice HO295.out; subst eo37) | (go_at_call 17; (with_reducible refine (tmpl_May.calls kj9 _ _ t291 true _ ?side1 ?side2 A32.out).mono ?_); (case side1 => repeat (first | exact (Kd.S_reads' HO295.out).2.2 | (with_reducible refine Kd.C_alloc ?_ _) | (with_reducible refine Kd.C_drewN ?_ _) | (with_reducible refine Kd.C_drew ?_))); (case side2 => exact (Kd.S_reads' HO295.out).2.1); rintro e w38 ⟨rfl, hb⟩; have n0_ := Aside0.mk (Kd.S_below (by (with_reducible repeat (first | apply Kd.S_alloc | apply Kd.S_drewN | apply Kd.S_drew)); exact HO295.out) hb); have n1_ := Aside0.mk (below_step (by repeat (first | (with_reducible first | exact HB.out | apply below_alloc | apply pw_below_drewN | apply below_drew1) | exact HB.out)) hb); clear HO295; clear HB; have HO295 := n0_; have HB := n1_; clear n0_ n1_; (try clear hb); (try clear hb2); (try clear hk); (try clear hi)) | (go_at_call 18; (with_reducible refine (tmpl_Put.calls _ _ t291 t297 _ (hG.keepAt (Nat.le_refl _) (by repeat (first | (with_reducible first | exact HB.out | apply below_alloc | apply pw_below_drewN | apply below_drew1) | exact HB.out))) ?side1 ?side2 A34.out).mono ?_); (case side1 => repeat (first | exact (Kd.S_reads' HO295.out).2.2 | (with_reducible refine Kd.C_alloc ?_ _) | (with_reducible refine Kd.C_drewN ?_ _) | (with_reducible refine Kd.C_drew ?_))); (case side2 => exact (Kd.S_reads' HO295.out).2.1); rintro e w39 ⟨rfl, hb⟩; have n0_ := Aside0.mk (Kd.S_below (by (with_reducible repeat (first | apply Kd.S_alloc | apply Kd.S_drewN | apply Kd.S_drew)); exact HO295.out) hb); have n1_ := Aside0.mk (below_step (by repeat (first | (with_reducible first | exact HB.out | apply below_alloc | apply pw_below_drewN | apply below_drew1) | exact HB.out)) hb); clear HO295; clear HB; have HO295 := n0_; have HB := n1_; clear n0_ n1_; (try clear hb); (try clear hb2); (try clear hk); (try clear hi)))
               go_ret
               exact ⟨by first | rfl | (simp [errW_none, errW_some] <;> rfl) | (simp [*, errW_none, errW_some] <;> rfl), by repeat (first | (with_reducible first | exact HB.out | apply below_alloc | apply pw_below_drewN | apply below_drew1) | exact HB.out)⟩
             · rw [if_neg c35] at H
               have c35b0 : (t297.toList == a1.toList) = false := beq_eq_false_iff_ne.mpr c35
               have c35b1 : (t297.toList != a1.toList) = true := bne_iff_ne.mpr c35
               obtain rfl := Option.some.inj H
               go_wp2_with (first | ((with_reducible refine gate_callee (f := 8) rfl ?_); refine goesL_ (some 49) rfl rfl Tryd.func8 (by kernel_rfl) rfl #[.string a1] rfl (by (try simp only [List.map_toArray, List.map_cons, List.map_nil]); first | done | rfl | (simp only [List.length_drop, List.length_take]; rfl)) ?_; (with_reducible refine (tmpl_Parse.calls kj9 a1 t291 t292 t293 _ (hG.keepAt (Nat.le_refl _) (by repeat (first | (with_reducible first | exact HB.out | apply below_alloc | apply pw_below_drewN | apply below_drew1) | exact HB.out))) A29.out).mono ?_); rintro e w40 ⟨v294, rfl, ho0, hb⟩; refine ⟨_, rfl, ?_⟩; have n0_ := Aside0.mk (Kd.S_lower ho0 (below_size (by repeat (first | (with_reducible first | exact HB.out | apply below_alloc | apply pw_below_drewN | apply below_drew1) | exact HB.out)))); have n1_ := Aside0.mk (below_step (by repeat (first | (with_reducible first | exact HB.out | apply below_alloc | apply pw_below_drewN | apply below_drew1) | exact HB.out)) hb); clear HB; have HO295 := n0_; have HB := n1_; clear n0_ n1_; (try clear hb); (try clear hb2); (try clear hk); (try clear hi); (try clear ho0); obtain ⟨Ao41, co41, eo41⟩ := Kd.S_slice HO295.out; subst eo41) | (go_at_call 17; (with_reducible refine (tmpl_May.calls kj9 _ _ t291 true _ ?side1 ?side2 A32.out).mono ?_); (case side1 => repeat (first | exact (Kd.S_reads' HO295.out).2.2 | (with_reducible refine Kd.C_alloc ?_ _) | (with_reducible refine Kd.C_drewN ?_ _) | (with_reducible refine Kd.C_drew ?_))); (case side2 => exact (Kd.S_reads' HO295.out).2.1); rintro e w42 ⟨rfl, hb⟩; have n0_ := Aside0.mk (Kd.S_below (by (with_reducible repeat (first | apply Kd.S_alloc | apply Kd.S_drewN | apply Kd.S_drew)); exact HO295.out) hb); have n1_ := Aside0.mk (below_step (by repeat (first | (with_reducible first | exact HB.out | apply below_alloc | apply pw_below_drewN | apply below_drew1) | exact HB.out)) hb); clear HO295; clear HB; have HO295 := n0_; have HB := n1_; clear n0_ n1_; (try clear hb); (try clear hb2); (try clear hk); (try clear hi)) | (go_at_call 18; (with_reducible refine (tmpl_Put.calls _ _ t291 t297 _ (hG.keepAt (Nat.le_refl _) (by repeat (first | (with_reducible first | exact HB.out | apply below_alloc | apply pw_below_drewN | apply below_drew1) | exact HB.out))) ?side1 ?side2 A34.out).mono ?_); (case side1 => repeat (first | exact (Kd.S_reads' HO295.out).2.2 | (with_reducible refine Kd.C_alloc ?_ _) | (with_reducible refine Kd.C_drewN ?_ _) | (with_reducible refine Kd.C_drew ?_))); (case side2 => exact (Kd.S_reads' HO295.out).2.1); rintro e w43 ⟨rfl, hb⟩; have n0_ := Aside0.mk (Kd.S_below (by (with_reducible repeat (first | apply Kd.S_alloc | apply Kd.S_drewN | apply Kd.S_drew)); exact HO295.out) hb); have n1_ := Aside0.mk (below_step (by repeat (first | (with_reducible first | exact HB.out | apply below_alloc | apply pw_below_drewN | apply below_drew1) | exact HB.out)) hb); clear HO295; clear HB; have HO295 := n0_; have HB := n1_; clear n0_ n1_; (try clear hb); (try clear hb2); (try clear hk); (try clear hi)))
               go_ret
               exact ⟨by first | rfl | (simp [errW_none, errW_some] <;> rfl) | (simp [*, errW_none, errW_some] <;> rfl), by repeat (first | (with_reducible first | exact HB.out | apply below_alloc | apply pw_below_drewN | apply below_drew1) | exact HB.out)⟩
           · replace c33 := Bool.eq_false_iff.mpr c33
             subst c33
             have H1 : (some false) = some r := by rw [if_neg (show ¬ (false = true) by decide)] at H; exact H
             clear H
             have H := H1
             clear H1
             obtain rfl := Option.some.inj H
             go_wp2_with (first | ((with_reducible refine gate_callee (f := 8) rfl ?_); refine goesL_ (some 49) rfl rfl Tryd.func8 (by kernel_rfl) rfl #[.string a1] rfl (by (try simp only [List.map_toArray, List.map_cons, List.map_nil]); first | done | rfl | (simp only [List.length_drop, List.length_take]; rfl)) ?_; (with_reducible refine (tmpl_Parse.calls kj9 a1 t291 t292 t293 _ (hG.keepAt (Nat.le_refl _) (by repeat (first | (with_reducible first | exact HB.out | apply below_alloc | apply pw_below_drewN | apply below_drew1) | exact HB.out))) A29.out).mono ?_); rintro e w44 ⟨v294, rfl, ho0, hb⟩; refine ⟨_, rfl, ?_⟩; have n0_ := Aside0.mk (Kd.S_lower ho0 (below_size (by repeat (first | (with_reducible first | exact HB.out | apply below_alloc | apply pw_below_drewN | apply below_drew1) | exact HB.out)))); have n1_ := Aside0.mk (below_step (by repeat (first | (with_reducible first | exact HB.out | apply below_alloc | apply pw_below_drewN | apply below_drew1) | exact HB.out)) hb); clear HB; have HO295 := n0_; have HB := n1_; clear n0_ n1_; (try clear hb); (try clear hb2); (try clear hk); (try clear hi); (try clear ho0); obtain ⟨Ao45, co45, eo45⟩ := Kd.S_slice HO295.out; subst eo45) | (go_at_call 17; (with_reducible refine (tmpl_May.calls kj9 _ _ t291 false _ ?side1 ?side2 A32.out).mono ?_); (case side1 => repeat (first | exact (Kd.S_reads' HO295.out).2.2 | (with_reducible refine Kd.C_alloc ?_ _) | (with_reducible refine Kd.C_drewN ?_ _) | (with_reducible refine Kd.C_drew ?_))); (case side2 => exact (Kd.S_reads' HO295.out).2.1); rintro e w46 ⟨rfl, hb⟩; have n0_ := Aside0.mk (Kd.S_below (by (with_reducible repeat (first | apply Kd.S_alloc | apply Kd.S_drewN | apply Kd.S_drew)); exact HO295.out) hb); have n1_ := Aside0.mk (below_step (by repeat (first | (with_reducible first | exact HB.out | apply below_alloc | apply pw_below_drewN | apply below_drew1) | exact HB.out)) hb); clear HO295; clear HB; have HO295 := n0_; have HB := n1_; clear n0_ n1_; (try clear hb); (try clear hb2); (try clear hk); (try clear hi)))
             go_ret
             exact ⟨by first | rfl | (simp [errW_none, errW_some] <;> rfl) | (simp [*, errW_none, errW_some] <;> rfl), by repeat (first | (with_reducible first | exact HB.out | apply below_alloc | apply pw_below_drewN | apply below_drew1) | exact HB.out)⟩
         · replace c31 := Bool.eq_false_iff.mpr c31
           subst c31
           have H1 : (some false) = some r := by rw [if_neg (show ¬ (false = true) by decide)] at H; exact H
           clear H
           have H := H1
           clear H1
           obtain rfl := Option.some.inj H
           go_wp2_with (first | ((with_reducible refine gate_callee (f := 8) rfl ?_); refine goesL_ (some 49) rfl rfl Tryd.func8 (by kernel_rfl) rfl #[.string a1] rfl (by (try simp only [List.map_toArray, List.map_cons, List.map_nil]); first | done | rfl | (simp only [List.length_drop, List.length_take]; rfl)) ?_; (with_reducible refine (tmpl_Parse.calls kj9 a1 t291 t292 t293 _ (hG.keepAt (Nat.le_refl _) (by repeat (first | (with_reducible first | exact HB.out | apply below_alloc | apply pw_below_drewN | apply below_drew1) | exact HB.out))) A29.out).mono ?_); rintro e w47 ⟨v294, rfl, ho0, hb⟩; refine ⟨_, rfl, ?_⟩; have n0_ := Aside0.mk (Kd.S_lower ho0 (below_size (by repeat (first | (with_reducible first | exact HB.out | apply below_alloc | apply pw_below_drewN | apply below_drew1) | exact HB.out)))); have n1_ := Aside0.mk (below_step (by repeat (first | (with_reducible first | exact HB.out | apply below_alloc | apply pw_below_drewN | apply below_drew1) | exact HB.out)) hb); clear HB; have HO295 := n0_; have HB := n1_; clear n0_ n1_; (try clear hb); (try clear hb2); (try clear hk); (try clear hi); (try clear ho0)))
           go_ret
           exact ⟨by first | rfl | (simp [errW_none, errW_some] <;> rfl) | (simp [*, errW_none, errW_some] <;> rfl), by repeat (first | (with_reducible first | exact HB.out | apply below_alloc | apply pw_below_drewN | apply below_drew1) | exact HB.out)⟩
       · rw [if_neg c30] at H
         have c30b0 : (t293 == 0) = false := beq_eq_false_iff_ne.mpr c30
         have c30b1 : (t293 != 0) = true := bne_iff_ne.mpr c30
         by_cases c48 : t281 = true
         · subst c48
           have H1 : (if t293 = 2 then (if (t291.length : Int) = 0 then (some (decide (t292 ≤ (a1.size : Int)))) else (some false)) else (some false)) = some r := by rw [if_pos rfl] at H; exact H
           clear H
           have H := H1
           clear H1
           by_cases c49 : t293 = 2
           · rw [if_pos c49] at H
             have c49b0 : (t293 == 2) = true := beq_iff_eq.mpr c49
             have c49b1 : (t293 != 2) = false := bne_eq_false_iff_eq.mpr c49
             clear c49
             by_cases c50 : (t291.length : Int) = 0
             · rw [if_pos c50] at H
               have c50b0 : ((t291.length : Int) == 0) = true := beq_iff_eq.mpr c50
               have c50b1 : ((t291.length : Int) != 0) = false := bne_eq_false_iff_eq.mpr c50
               clear c50
               obtain rfl := Option.some.inj H
               go_wp2_with (first | ((with_reducible refine gate_callee (f := 8) rfl ?_); refine goesL_ (some 49) rfl rfl Tryd.func8 (by kernel_rfl) rfl #[.string a1] rfl (by (try simp only [List.map_toArray, List.map_cons, List.map_nil]); first | done | rfl | (simp only [List.length_drop, List.length_take]; rfl)) ?_; (with_reducible refine (tmpl_Parse.calls kj9 a1 t291 t292 t293 _ (hG.keepAt (Nat.le_refl _) (by repeat (first | (with_reducible first | exact HB.out | apply below_alloc | apply pw_below_drewN | apply below_drew1) | exact HB.out))) A29.out).mono ?_); rintro e w51 ⟨v294, rfl, ho0, hb⟩; refine ⟨_, rfl, ?_⟩; have n0_ := Aside0.mk (Kd.S_lower ho0 (below_size (by repeat (first | (with_reducible first | exact HB.out | apply below_alloc | apply pw_below_drewN | apply below_drew1) | exact HB.out)))); have n1_ := Aside0.mk (below_step (by repeat (first | (with_reducible first | exact HB.out | apply below_alloc | apply pw_below_drewN | apply below_drew1) | exact HB.out)) hb); clear HB; have HO295 := n0_; have HB := n1_; clear n0_ n1_; (try clear hb); (try clear hb2); (try clear hk); (try clear hi); (try clear ho0); obtain ⟨Ao52, co52, eo52⟩ := Kd.S_slice HO295.out; subst eo52))
               go_ret
               exact ⟨by first | rfl | (simp [errW_none, errW_some] <;> rfl) | (simp [*, errW_none, errW_some] <;> rfl), by repeat (first | (with_reducible first | exact HB.out | apply below_alloc | apply pw_below_drewN | apply below_drew1) | exact HB.out)⟩
             · rw [if_neg c50] at H
               have c50b0 : ((t291.length : Int) == 0) = false := beq_eq_false_iff_ne.mpr c50
               have c50b1 : ((t291.length : Int) != 0) = true := bne_iff_ne.mpr c50
               have c50b2 : ¬ (t291 = []) := fun h_ => c50 (by rw [h_]; rfl)
               obtain rfl := Option.some.inj H
               go_wp2_with (first | ((with_reducible refine gate_callee (f := 8) rfl ?_); refine goesL_ (some 49) rfl rfl Tryd.func8 (by kernel_rfl) rfl #[.string a1] rfl (by (try simp only [List.map_toArray, List.map_cons, List.map_nil]); first | done | rfl | (simp only [List.length_drop, List.length_take]; rfl)) ?_; (with_reducible refine (tmpl_Parse.calls kj9 a1 t291 t292 t293 _ (hG.keepAt (Nat.le_refl _) (by repeat (first | (with_reducible first | exact HB.out | apply below_alloc | apply pw_below_drewN | apply below_drew1) | exact HB.out))) A29.out).mono ?_); rintro e w53 ⟨v294, rfl, ho0, hb⟩; refine ⟨_, rfl, ?_⟩; have n0_ := Aside0.mk (Kd.S_lower ho0 (below_size (by repeat (first | (with_reducible first | exact HB.out | apply below_alloc | apply pw_below_drewN | apply below_drew1) | exact HB.out)))); have n1_ := Aside0.mk (below_step (by repeat (first | (with_reducible first | exact HB.out | apply below_alloc | apply pw_below_drewN | apply below_drew1) | exact HB.out)) hb); clear HB; have HO295 := n0_; have HB := n1_; clear n0_ n1_; (try clear hb); (try clear hb2); (try clear hk); (try clear hi); (try clear ho0); obtain ⟨Ao54, co54, eo54⟩ := Kd.S_slice HO295.out; subst eo54))
               go_ret
               exact ⟨by first | rfl | (simp [errW_none, errW_some] <;> rfl) | (simp [*, errW_none, errW_some] <;> rfl), by repeat (first | (with_reducible first | exact HB.out | apply below_alloc | apply pw_below_drewN | apply below_drew1) | exact HB.out)⟩
           · rw [if_neg c49] at H
             have c49b0 : (t293 == 2) = false := beq_eq_false_iff_ne.mpr c49
             have c49b1 : (t293 != 2) = true := bne_iff_ne.mpr c49
             obtain rfl := Option.some.inj H
             go_wp2_with (first | ((with_reducible refine gate_callee (f := 8) rfl ?_); refine goesL_ (some 49) rfl rfl Tryd.func8 (by kernel_rfl) rfl #[.string a1] rfl (by (try simp only [List.map_toArray, List.map_cons, List.map_nil]); first | done | rfl | (simp only [List.length_drop, List.length_take]; rfl)) ?_; (with_reducible refine (tmpl_Parse.calls kj9 a1 t291 t292 t293 _ (hG.keepAt (Nat.le_refl _) (by repeat (first | (with_reducible first | exact HB.out | apply below_alloc | apply pw_below_drewN | apply below_drew1) | exact HB.out))) A29.out).mono ?_); rintro e w55 ⟨v294, rfl, ho0, hb⟩; refine ⟨_, rfl, ?_⟩; have n0_ := Aside0.mk (Kd.S_lower ho0 (below_size (by repeat (first | (with_reducible first | exact HB.out | apply below_alloc | apply pw_below_drewN | apply below_drew1) | exact HB.out)))); have n1_ := Aside0.mk (below_step (by repeat (first | (with_reducible first | exact HB.out | apply below_alloc | apply pw_below_drewN | apply below_drew1) | exact HB.out)) hb); clear HB; have HO295 := n0_; have HB := n1_; clear n0_ n1_; (try clear hb); (try clear hb2); (try clear hk); (try clear hi); (try clear ho0)))
             go_ret
             exact ⟨by first | rfl | (simp [errW_none, errW_some] <;> rfl) | (simp [*, errW_none, errW_some] <;> rfl), by repeat (first | (with_reducible first | exact HB.out | apply below_alloc | apply pw_below_drewN | apply below_drew1) | exact HB.out)⟩
         · replace c48 := Bool.eq_false_iff.mpr c48
           subst c48
           have H1 : (some false) = some r := by rw [if_neg (show ¬ (false = true) by decide)] at H; exact H
           clear H
           have H := H1
           clear H1
           obtain rfl := Option.some.inj H
           go_wp2_with (first | ((with_reducible refine gate_callee (f := 8) rfl ?_); refine goesL_ (some 49) rfl rfl Tryd.func8 (by kernel_rfl) rfl #[.string a1] rfl (by (try simp only [List.map_toArray, List.map_cons, List.map_nil]); first | done | rfl | (simp only [List.length_drop, List.length_take]; rfl)) ?_; (with_reducible refine (tmpl_Parse.calls kj9 a1 t291 t292 t293 _ (hG.keepAt (Nat.le_refl _) (by repeat (first | (with_reducible first | exact HB.out | apply below_alloc | apply pw_below_drewN | apply below_drew1) | exact HB.out))) A29.out).mono ?_); rintro e w56 ⟨v294, rfl, ho0, hb⟩; refine ⟨_, rfl, ?_⟩; have n0_ := Aside0.mk (Kd.S_lower ho0 (below_size (by repeat (first | (with_reducible first | exact HB.out | apply below_alloc | apply pw_below_drewN | apply below_drew1) | exact HB.out)))); have n1_ := Aside0.mk (below_step (by repeat (first | (with_reducible first | exact HB.out | apply below_alloc | apply pw_below_drewN | apply below_drew1) | exact HB.out)) hb); clear HB; have HO295 := n0_; have HB := n1_; clear n0_ n1_; (try clear hb); (try clear hb2); (try clear hk); (try clear hi); (try clear ho0)))
           go_ret
           exact ⟨by first | rfl | (simp [errW_none, errW_some] <;> rfl) | (simp [*, errW_none, errW_some] <;> rfl), by repeat (first | (with_reducible first | exact HB.out | apply below_alloc | apply pw_below_drewN | apply below_drew1) | exact HB.out)⟩
end Go.Proofs.YtkipkbggnfllkaaDoor.P
end
section
namespace Go.Proofs.YtkipkbggnfllkaaDoor.P
open Go.RowKit Go.Proofs.YtkipkbggnfllkaaDoorW.PrintWords Go.Proofs.YtkipkbggnfllkaaDoorW.PrintLast Go.Proofs.YtkipkbggnfllkaaDoorW.PrintMore
set_option linter.unusedVariables false
theorem ref_same_l1 (l : List S41) (hl : l.length ≤ 1099511627776) (i : Nat) (hi : i < l.length) (hs : (rd_T41 l (i : Int)).f2.length ≤ 1099511627776) (R : Bool) (h : Ev (fun k => rf07_Same.l0 k l l ((i + 1 : Nat) : Int)) R) :
 ∀ (d j : Nat), j + d = (rd_T41 l (i : Int)).f2.length → Ev (fun k => rf07_Same.l1 k l l (i : Int) (j : Int)) R
 | 0, j, hj => by
  have ew : wrap64 ((i : Int) + 1) = ((i + 1 : Nat) : Int) := by rw [w64 (by omega) (by omega)]; omega
  refine Ev.step (f := _) (fun k => ?_) h
  have c1 : (0 ≤ (i : Int)) = True := eq_true (by omega)
  have c2 : ((i : Int) < (l.length : Int)) = True := eq_true (by omega)
  have c3 : ((j : Int) < ((rd_T41 l (i : Int)).f2.length : Int)) = False := eq_false (by omega)
  simp only [rf07_Same.l1, c1, c2, c3, if_true, if_false, ew]
 | d + 1, j, hj => by
  have ih := ref_same_l1 l hl i hi hs R h d (j + 1) (by omega)
  have ew : wrap64 ((j : Int) + 1) = ((j + 1 : Nat) : Int) := by rw [w64 (by omega) (by omega)]; omega
  refine Ev.step (f := _) (fun k => ?_) ih
  have c1 : (0 ≤ (i : Int)) = True := eq_true (by omega)
  have c2 : ((i : Int) < (l.length : Int)) = True := eq_true (by omega)
  have c3 : ((j : Int) < ((rd_T41 l (i : Int)).f2.length : Int)) = True := eq_true (by omega)
  have c4 : (0 ≤ (j : Int)) = True := eq_true (by omega)
  simp only [rf07_Same.l1, c1, c2, c3, c4, if_true, if_false, ew, beq_self_eq_true, Bool.not_true, Bool.or_self, Bool.false_eq_true]
theorem ref_same_l0 (l : List S41) (hl : l.length ≤ 1099511627776) (hs : ∀ x ∈ l, x.f2.length ≤ 1099511627776) : ∀ (d i : Nat), i + d = l.length → Ev (fun k => rf07_Same.l0 k l l (i : Int)) true
 | 0, i, hi => Ev.step (f := fun _ => some true) (fun k => by simp only [rf07_Same.l0]; rw [if_neg (by omega)]) (Ev.now _)
 | d + 1, i, hi => by
  have ih := ref_same_l0 l hl hs d (i + 1) (by omega)
  have hx : (rd_T41 l (i : Int)).f2.length ≤ 1099511627776 := by
   have hlt : i < l.length := by omega
   have : rd_T41 l (i : Int) = l[i] := by
    unfold rd_T41
    rw [Int.toNat_natCast, List.getD_eq_getElem?_getD, List.getElem?_eq_getElem hlt]
    rfl
   rw [this]
   exact hs _ (List.getElem_mem hlt)
  have h1 := ref_same_l1 l hl i (by omega) hx true ih _ 0 (Nat.zero_add _)
  refine Ev.step (f := fun k => rf07_Same.j1 k l l (i : Int) false) (fun k => ?_) (Ev.step (f := _) (fun k => ?_) h1)
  · have c1 : ((i : Int) < (l.length : Int)) = True := eq_true (by omega)
    have c2 : (0 ≤ (i : Int)) = True := eq_true (by omega)
    simp only [rf07_Same.l0, c1, c2, if_true, bne_self_eq_false]
  · simp only [rf07_Same.j1]
    rw [if_neg (by simp)]
    rfl
theorem ref_same (l : List S41) (hl : l.length ≤ 1099511627776) (hs : ∀ x ∈ l, x.f2.length ≤ 1099511627776) : Ev (fun k => rf07_Same.f k l l) true := by
 unfold rf07_Same.f
 exact Ev.pos rfl (ref_same_l0 l hl hs l.length 0 (Nat.zero_add _))
theorem back_awake_ev : Ev (fun k => lw_awake.f k) true := Ev.of (fun k => lw_awake.mono k) (show lw_awake.f 60 = some true by kernel_rfl)
theorem may_ev {l : List S41} {b : Bool} (h : ∀ k, l.length < k → tmpl_May.f k l = some b) : Ev (fun k => tmpl_May.f k l) b := ⟨l.length + 1, fun k hk => h k (by omega)⟩
theorem back_j1 (s : ByteArray) (hs : s.size ≤ 100) : Ev (fun k => lw_TmplBack.j1 k s true) true := by
 obtain ⟨ps, e, h1, h2, h3⟩ := prog_parse1 s (by omega)
 refine Ev.step (f := _) (fun k => by rw [lw_TmplBack.j1]) ?_
 refine h1.bind ?_
 by_cases hr : run step .top (bs s) = some .top
 · obtain ⟨he, hm⟩ := h2 hr
   obtain ⟨m1, m2⟩ := put_mP _ _ _ (by rw [bs_length]; exact Nat.le_refl _) hm
   have hlen : (putT (ps.map pM)).length = s.size := by rw [m2, bs_length]
   obtain ⟨b1, b2⟩ := may_ok (n := 100) m1 (by omega) (by omega)
   obtain ⟨b, c1, c2⟩ := prog_may ps b2 (by omega)
   have hb := c2.2 m1
   subst hb
   obtain ⟨t, t1, t2⟩ := prog_put ps b2 (by omega) (by omega) m1
   have hts : t = s := bs_inj (by rw [t2, m2])
   subst hts
   refine Ev.pos he (Ev.pos rfl ((may_ev c1).bind (Ev.pos rfl ?_)))
   rw [t1, Option.bind_some]
   refine Ev.pos rfl ?_
   have hf : far step .top (bs t) = (bs t).length := far_all hr
   show Ev (fun _ => some (((far step .top (bs t) : Nat) : Int) == (t.size : Int))) true
   rw [hf, bs_length, beq_self_eq_true]
   exact Ev.now _
 · obtain ⟨he, hp⟩ := h3 hr
   subst hp
   refine Ev.neg (by show ¬ e = 0; omega) (Ev.pos rfl (Ev.pos he (Ev.pos rfl ?_)))
   have := far_le (f := step) (bs s) .top
   rw [bs_length] at this
   show Ev (fun _ => some (decide (((far step .top (bs s) : Nat) : Int) ≤ (s.size : Int)))) true
   rw [decide_eq_true (by omega)]
   exact Ev.now _
theorem back_pure (l : List S41) (s : ByteArray) (hop : ∀ x ∈ l, 0 ≤ x.f1 ∧ x.f1 ≤ 255) : ∃ k, lw_TmplBack.f k l s = some true := by
 refine Ev.rounds (g := fun k => lw_TmplBack.f k l s) ?_
 unfold lw_TmplBack.f
 refine back_awake_ev.bind ?_
 have hout : Ev (fun k => lw_TmplBack.j0 k l s true true) true := Ev.step (f := fun _ => some true) (fun k => by simp only [lw_TmplBack.j0]; rw [if_pos trivial]) (Ev.now _)
 obtain ⟨b, hb, hbi⟩ := ref_few l
 refine hb.bind ?_
 by_cases hbt : b = true
 · refine Ev.pos hbt ?_
   obtain ⟨f1, f2⟩ := hbi hbt
   by_cases hs : (s.size : Int) > 100
   · rw [decide_eq_true hs]
     exact hout
   rw [decide_eq_false hs]
   have hok : ∀ x ∈ l, OKP x := fun x hx => few_ok (f2 x hx) (hop x hx).1 (hop x hx).2
   obtain ⟨m, m1, m2⟩ := prog_may l hok (by omega)
   refine Ev.step (f := _) (fun k => by rw [lw_TmplBack.j0, if_neg (by simp)]) ?_
   refine (may_ev m1).bind ?_
   have hj := back_j1 s (by omega)
   by_cases hm : m = true
   · refine Ev.pos hm ?_
     have hM := m2.1 hm
     have hlen := few_length l f2 hM
     obtain ⟨t, t1, t2⟩ := prog_put l hok (by omega) (by omega) hM
     rw [t1]
     refine (Ev.now t).bind ?_
     have hts : t.size = (putT (l.map pM)).length := by rw [← t2, bs_length]
     obtain ⟨ps, e, h1, h2, -⟩ := prog_parse1 t (by omega)
     have hmp := mP_put (l.map pM) t.size hM (by omega)
     rw [← t2] at hmp
     have hr : run step .top (bs t) = some .top := (mP_run t.size (bs t) (by rw [bs_length]; exact Nat.le_refl _)).1 ⟨_, hmp⟩
     obtain ⟨he, hps⟩ := h2 hr
     rw [hmp] at hps
     have hpl : ps = l := map_pM_inj (Option.some.inj hps).symm
     subst hpl
     refine h1.bind (Ev.pos he (Ev.pos ?_ ?_))
     · show ((far step .top (bs t) : Nat) : Int) = (t.size : Int)
       rw [far_all hr, bs_length]
     · exact (ref_same ps (by omega) fun x hx => by have := (f2 x hx).2.1; omega).bind (Ev.pos rfl hj)
   · exact Ev.neg hm hj
 · exact Ev.neg hbt hout
end Go.Proofs.YtkipkbggnfllkaaDoor.P
end
section
namespace Go.Proofs.YtkipkbggnfllkaaDoor
open Go.ChangeShapes Go.WideShapes Go.ChangeAt Go.RowKit
open Go.ChangeMaps (open_string shut_string)
set_option linter.unusedVariables false
set_option maxRecDepth 100000
theorem back_laidOut : laidOutB Tryd.prog = true := by kernel_rfl
theorem back_law (A : Option Addr) (c : Nat) (l : List P.S41) (s1 : ByteArray) (w : World) (hC : P.PartsIn w A c l) (hG : P.Gl w) : Calls Tryd.prog 6 #[.slice A l.length c, .string s1] w fun e w' => e = .returned (.bool true) ∧ Below w.heap.size w w' := by
 obtain ⟨k, hk⟩ := P.back_pure l s1 hC.2.2
 exact P.lw_TmplBack.calls k A c l s1 true w hG hC.2.1 hC.1 hk
theorem back_own : ownKnob Tryd.prog.godebug = none := by kernel_rfl
theorem back_lifted (os : Os) (started : os.Started) (H : Type) (enc : TypeId × Value → H) :
 ReturnsInHanded {} Tryd.checked os 6 .any (fun w args => (Rows.tmplBackSpec.pre enc Tryd.prog Tryd.f6 [] false w args ∧ laidMetH Tryd.prog Rows.tmplBackRow.laid w) ∧ sizedMet enc Tryd.prog Tryd.f6 (OpenSpec.ofChange Rows.tmplBackSpec) false w args)
  (Rows.tmplBackSpec.post enc Tryd.prog Tryd.f6 false true false false) := by
 refine returnsInHanded_of_change_and (C := Tryd.checked) (X := fun w _ => laidMetH Tryd.prog Rows.tmplBackRow.laid w) (fun _ _ _ hh h => h.of_heap hh) back_own started (by kernel_rfl) Tryd.func6
  (ChangeSpec.witness_shaped (enc := enc) (C := Tryd.checked) (os := os) (X := fun w _ => laidMetH Tryd.prog Rows.tmplBackRow.laid w) false (World.laidAll Tryd.prog os Rows.tmplBackRow.laid) #[.slice none 0 0, .string ByteArray.empty] 8 (World.laidAll_os _ _ _)
   (World.shaped_of_ZipB (by kernel_rfl) (by kernel_rfl)) (by kernel_rfl) (by kernel_rfl) (by kernel_rfl)
   (by rw [MakeChecks.laidMetH_plain _ _ _ (by kernel_rfl)]; exact laidMet_laidAll _ (by kernel_rfl) (by kernel_rfl))) ?_
 intro W base args ds gs before hval0 hW _ _ hX _
 have hval : ∀ (j : Nat) t v, Tryd.f6.params[j]? = some t → args[j]? = some v → Value.okWide Tryd.prog W .any base t v := hval0
 have hW' := hW
 obtain ⟨p, q, hA0, hV, rfl, _, _⟩ := hW
 have hA : DataW.TrodAll enc Tryd.prog W 0 (fun _ => true) true Tryd.f6.params.toList args.toList ds p := hA0
 rw [Tryd.params6] at hA hval
 obtain ⟨v0, v1, d0, d1, p0, p1, rfl, rfl, rfl, h0, h1⟩ := trodAll_two hA
 obtain ⟨rfl, rfl⟩ := trodVars_none hV
 obtain ⟨x1, rfl, rfl, rfl, y1⟩ := open_string Tryd.underlying9 (hval 1 9 v1 rfl rfl) h1
 obtain ⟨A0, n0, c0, rfl⟩ := okWide_slice Tryd.underlying23 (hval 0 23 v0 rfl rfl)
 have k0 := h0
 have lt0 : ∀ x ∈ p0, x.block < W.heap.size := by obtain ⟨m, hm⟩ := k0; exact DataW.trod_lt m _ _ _ hm
 obtain ⟨fuel, hf⟩ := h0
 obtain ⟨A, c, l, hl⟩ := P.parts_of hf
 obtain ⟨hcs, hin⟩ := hl
 simp [Value.cells] at hcs
 obtain ⟨rfl, rfl, rfl⟩ := hcs
 rw [MakeChecks.laidMetH_plain _ _ _ (by kernel_rfl)] at hX
 refine (back_law A0 c0 l x1 W hin (gl_of_laid hX)).mono fun e W' ⟨he, hb⟩ => ?_
 subst he
 exact ⟨_, rfl, _, _, _, [], _, [], hW', trodAll_mk1 (shut_bool Tryd.underlying4 _), trodAll_mk2 (Below.trod back_laidOut (by kernel_rfl) (of_decide_eq_true (by kernel_rfl)) k0 hb lt0) (shut_string Tryd.underlying9 y1), rfl, hb.frame _, fun h => by cases h⟩
theorem back_holds : Rows.TmplBackSaid :=
 OpenClaim.holds_of_wide 6 Tryd.f6 rfl rfl rfl rfl rfl rfl rfl ⟨rfl, rfl, rfl, rfl, rfl⟩ rfl rfl rfl rfl rfl (by kernel_rfl) Tryd.func6 (by kernel_rfl)
  (of_decide_eq_true (by kernel_rfl)) (by unfold Func.isWrapper; first | (rw [if_pos (by decide +kernel)]; kernel_rfl) | (rw [if_neg (by decide +kernel)]; exact ⟨rfl, rfl⟩))
  (fun os started H enc _ => back_lifted os started H enc)
theorem back_card : Rows.TmplBackCardSaid :=
 Claim7.holds_tied_plain_at .later [] [.data, .data, .data, .sentinel, .sentinel] true _ true
  back_holds (fun _ h => by cases h) (by kernel_rfl) (fun _ h => by cases h) tmplBack_row_tie rfl ⟨rfl, rfl⟩ (by kernel_rfl) rfl
  (fun f fn hf hfn => by
   have e1 : f = 6 := Option.some.inj (hf.symm.trans (by kernel_rfl))
   subst e1
   obtain rfl : fn = Tryd.f6 := (Option.some.inj (Tryd.func6.symm.trans hfn)).symm
   exact ⟨by kernel_rfl, fun j t ht => by
    rw [Tryd.params6] at ht
    have hm : t ∈ [23, 9] := by simpa using Array.mem_of_getElem? ht
    simp only [List.mem_cons, List.not_mem_nil, or_false] at hm
    rcases hm with rfl | rfl
    · exact (show Tryd.prog.wantsStandIn 23 = false by kernel_rfl)
    · exact (show Tryd.prog.wantsStandIn 9 = false by kernel_rfl)⟩)
  (by kernel_rfl)
end Go.Proofs.YtkipkbggnfllkaaDoor
end
