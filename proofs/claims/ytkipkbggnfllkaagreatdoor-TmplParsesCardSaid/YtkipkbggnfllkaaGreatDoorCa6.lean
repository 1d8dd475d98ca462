/- The law TmplParses of the package phalaropelaw07 holds of every text: the program's Parse and the reference's tell the same template, or the same place where the text stops being a template's begin. Condition: the laid variables of strconv hold what their makers laid (the card's own condition). -/
import Derived.Test.YtkipkbggnfllkaaGreatDoorCa5
import Derived.ChangeMaps5
section
namespace Go.Proofs.YtkipkbggnfllkaaGreatDoor.P
open Go.RowKit Go.Proofs.YtkipkbggnfllkaaGreatDoorW.PrintWords Go.Proofs.YtkipkbggnfllkaaGreatDoorW.PrintLast Go.Proofs.YtkipkbggnfllkaaGreatDoorW.PrintMore
set_option linter.unusedVariables false
set_option linter.unusedSimpArgs false
theorem expr_fuel' : ∀ (d e : Nat) (l : List Nat), l.length < d → l.length < e → exprN d l = exprN e l
  | 0, _, _, h, _ => by omega
  | _, 0, _, _, h => by omega
  | d + 1, e + 1, l, h1, h2 => by
    simp only [exprN]
    cases hc : cut l with
    | none => rfl
    | some p =>
      obtain ⟨a, c, r⟩ := p
      obtain ⟨hl, -, -⟩ := cut_some hc
      have : r.length < l.length := by rw [hl]; simp; omega
      simp only
      rw [expr_fuel' d e r (by omega) (by omega)]
theorem cut_append : ∀ {x : List Nat} (r : List Nat), NoSep x → cut (x ++ r) = (cut r).map fun t => (x ++ t.1, t.2.1, t.2.2)
  | [], r, _ => by
    rw [List.nil_append]
    cases cut r with
    | none => rfl
    | some t => rfl
  | b :: x, r, h => by
    have hb := h b (by simp)
    simp only [List.cons_append, cut]
    rw [if_neg (by omega), cut_append r h.tail]
    cases cut r with
    | none => rfl
    | some t => rfl
theorem uAt_high (b : Nat) (r : List Nat) (hb : ¬ b < 128) (h : (uAt (b :: r)).2 ≠ 0) : 128 ≤ (uAt (b :: r)).1 ∧ NoSep ((b :: r).take (uAt (b :: r)).2) := by
  match r, h with
  | [], h =>
    simp only [uAt] at h
    rw [if_neg hb] at h
    exact absurd rfl h
  | b1 :: r, h =>
    by_cases h2 : b / 32 = 6
    · rw [uAt2 h2] at h ⊢
      by_cases g : b1 / 64 = 2 ∧ 128 ≤ u2 b b1
      · rw [if_pos g]
        refine ⟨g.2, fun x hx => ?_⟩
        simp only [List.take_succ_cons, List.take_zero, List.mem_cons, List.not_mem_nil, or_false] at hx
        omega
      · rw [if_neg g] at h
        exact absurd rfl h
    match r, h with
    | [], h =>
      simp only [uAt] at h
      rw [if_neg hb, if_neg h2] at h
      exact absurd rfl h
    | b2 :: r, h =>
      by_cases h3 : b / 16 = 14
      · rw [uAt3 h3] at h ⊢
        by_cases g : b1 / 64 = 2 ∧ b2 / 64 = 2 ∧ 2048 ≤ u3 b b1 b2 ∧ MayR (u3 b b1 b2)
        · rw [if_pos g]
          refine ⟨by simp only; omega, fun x hx => ?_⟩
          have g1 := g.1
          have g2 := g.2.1
          simp only [List.take_succ_cons, List.take_zero, List.mem_cons, List.not_mem_nil, or_false] at hx
          omega
        · rw [if_neg g] at h
          exact absurd rfl h
      match r, h with
      | [], h =>
        simp only [uAt] at h
        rw [if_neg hb, if_neg h2, if_neg h3] at h
        exact absurd rfl h
      | b3 :: r, h =>
        by_cases h4 : b / 8 = 30
        · rw [uAt4 h4] at h ⊢
          by_cases g : b1 / 64 = 2 ∧ b2 / 64 = 2 ∧ b3 / 64 = 2 ∧ 65536 ≤ u4 b b1 b2 b3 ∧ MayR (u4 b b1 b2 b3)
          · rw [if_pos g]
            refine ⟨by simp only; omega, fun x hx => ?_⟩
            have g1 := g.1
            have g2 := g.2.1
            have g3 := g.2.2.1
            simp only [List.take_succ_cons, List.take_zero, List.mem_cons, List.not_mem_nil, or_false] at hx
            omega
          · rw [if_neg g] at h
            exact absurd rfl h
        · simp only [uAt] at h
          rw [if_neg hb, if_neg h2, if_neg h3, if_neg h4] at h
          exact absurd rfl h
theorem uAt_ascii {b : Nat} (h : b < 128) (r : List Nat) : uAt (b :: r) = (b, 1) := by
  simp only [uAt]
  rw [if_pos h]
theorem prog_any (s : ByteArray) : ∀ (k p : Nat), s.size - p ≤ k → p ≤ s.size → anyFrom s k p = match cut ((bs s).drop p) with
    | none => -1
    | some t => ((p + t.1.length : Nat) : Int)
  | 0, p, h, hp => by
    rw [List.drop_eq_nil_of_le (by rw [bs_length]; omega)]
    rfl
  | k + 1, p, h, hp => by
    rw [anyFrom]
    by_cases hlt : p < s.size
    · obtain ⟨b, hb, hbt, hd⟩ := bs_get s p hlt
      have hne : (bs s).drop p ≠ [] := by
        rw [hd]
        simp
      obtain ⟨d1, d2⟩ := dec_uAt _ (bs_drop_lt s p) hne
      rw [if_pos hlt, decode_bs]
      have hnext : ∀ w, 1 ≤ w → w ≤ ((bs s).drop p).length → NoSep (((bs s).drop p).take w) → anyFrom s k (p + w) = match cut ((bs s).drop p) with
          | none => -1
          | some t => ((p + t.1.length : Nat) : Int) := by
        intro w hw1 hw2 hw3
        rw [List.length_drop, bs_length] at hw2
        have ih := prog_any s k (p + w) (by omega) (by omega)
        have hc := cut_append (x := ((bs s).drop p).take w) (((bs s).drop p).drop w) hw3
        rw [List.take_append_drop, List.drop_drop] at hc
        have hl : (((bs s).drop p).take w).length = w := by rw [List.length_take, List.length_drop, bs_length]; omega
        rw [ih, hc]
        cases cut ((bs s).drop (p + w)) with
        | none => rfl
        | some t =>
          show ((p + w + t.1.length : Nat) : Int) = ((p + (((bs s).drop p).take w ++ t.1).length : Nat) : Int)
          rw [List.length_append, hl, Nat.add_assoc]
      by_cases ha : b < 128
      · have hu : uAt ((bs s).drop p) = (b, 1) := by rw [hd]; exact uAt_ascii ha _
        have he := (d1 (by rw [hu]; simp)).1
        rw [he, hu]
        simp only
        by_cases hs : b = 44 ∨ b = 125
        · rw [if_pos (by omega), hd]
          simp only [cut]
          rw [if_pos hs]
          rfl
        · rw [if_neg (by omega)]
          refine hnext 1 (Nat.le_refl _) (by rw [hd]; simp) fun x hx => ?_
          rw [hd] at hx
          simp only [List.take_succ_cons, List.take_zero, List.mem_singleton] at hx
          omega
      · by_cases h0 : (uAt ((bs s).drop p)).2 = 0
        · have he := (d2 h0).1
          rw [he, if_neg (by simp only; omega)]
          refine hnext 1 (Nat.le_refl _) (by rw [hd]; simp) fun x hx => ?_
          rw [hd] at hx
          simp only [List.take_succ_cons, List.take_zero, List.mem_singleton] at hx
          omega
        · have he := (d1 h0).1
          have hu := uAt_high b ((bs s).drop (p + 1)) ha (by rw [← hd]; exact h0)
          rw [← hd] at hu
          rw [he, if_neg (by have := hu.1; omega)]
          exact hnext _ (by omega) (uAt_le _) hu.2
    · rw [if_neg hlt, List.drop_eq_nil_of_le (by rw [bs_length]; omega)]
      rfl
theorem prog_reader (s : ByteArray) (hs : s.size ≤ 1099511627776) (a : Nat) (ha : a ≤ s.size) :
    (cut ((bs s).drop a) = none → reader_spec.f s (a : Int) = some (false, (⟨#[]⟩, 0, false), 0, ((a + far step .ns ((bs s).drop a) : Nat) : Int))) ∧
    (∀ x c t, cut ((bs s).drop a) = some (x, c, t) → (mVar x = none → reader_spec.f s (a : Int) = some (false, (⟨#[]⟩, 0, false), 0, ((a + far step .ns x : Nat) : Int))) ∧
      ∀ v, mVar x = some v → ∃ y : S43, vM y = v ∧ reader_spec.f s (a : Int) = some (true, (y.f0, y.f1, y.f2), (c : Int), ((a + x.length + 1 : Nat) : Int))) := by
  have hone : bs (s.extract a s.size) = (bs s).drop a := bs_from s a
  have hsz : (s.extract a s.size).size = s.size - a := bs_size_from s a
  have hany := prog_any (s.extract a s.size) (s.extract a s.size).size 0 (by omega) (by omega)
  rw [List.drop_zero, hone] at hany
  constructor
  · intro h
    rw [h] at hany
    have hsep := cut_none h
    obtain ⟨t1, t2⟩ := prog_take6 (s.extract a s.size) (by omega) (by rw [hone]; exact hsep)
    rw [hone] at t1 t2
    simp only [reader_spec.f, Int.toNat_natCast, hany]
    rw [if_neg (by omega)]
    cases hm : mVar ((bs s).drop a) with
    | none =>
      rw [t2 hm]
      simp only [Option.bind_some]
      rw [if_neg (by omega)]
      have : (a : Int) + ((far step .ns ((bs s).drop a) : Nat) : Int) = ((a + far step .ns ((bs s).drop a) : Nat) : Int) := by omega
      rw [this]
    | some v =>
      obtain ⟨y, -, hy⟩ := t1 v hm
      rw [hy]
      simp only [Option.bind_some]
      rw [if_neg (by omega)]
      obtain ⟨q, hq, -⟩ := (var_far hsep).2.2 ⟨v, hm⟩
      have hf := far_all hq
      rw [List.length_drop, bs_length] at hf
      have : (a : Int) + ((s.extract a s.size).size : Int) = ((a + far step .ns ((bs s).drop a) : Nat) : Int) := by omega
      rw [this]
  · intro x c t h
    rw [h] at hany
    obtain ⟨hl, hsep, hc⟩ := cut_some h
    simp only [Nat.zero_add] at hany
    have hlen : x.length < (s.extract a s.size).size := by
      have := congrArg List.length hl
      rw [List.length_drop, bs_length, List.length_append, List.length_cons] at this
      omega
    have hx : bs ((s.extract a s.size).extract 0 x.length) = x := by rw [bs_upto, hone, hl, List.take_left]
    have hxs : ((s.extract a s.size).extract 0 x.length).size = x.length := bs_size_upto _ _ (by omega)
    obtain ⟨t1, t2⟩ := prog_take6 ((s.extract a s.size).extract 0 x.length) (by omega) (by rw [hx]; exact hsep)
    rw [hx] at t1 t2
    have hbt : bt (s.extract a s.size) (x.length : Int) = (c : Int) := by
      obtain ⟨b, -, h1, h2⟩ := bs_get (s.extract a s.size) x.length hlen
      rw [hone, hl, List.drop_left] at h2
      rw [h1, (List.cons.inj h2).1]
    simp only [reader_spec.f, Int.toNat_natCast, hany]
    rw [if_pos (show (x.length : Int) ≥ 0 by omega)]
    refine ⟨fun hm => ?_, fun v hm => ?_⟩
    · rw [t2 hm]
      simp only [Option.bind_some]
      rw [if_neg (by omega)]
      have : (a : Int) + ((far step .ns x : Nat) : Int) = ((a + far step .ns x : Nat) : Int) := by omega
      rw [this]
    · obtain ⟨y, h1, hy⟩ := t1 v hm
      refine ⟨y, h1, ?_⟩
      rw [hy]
      simp only [Option.bind_some]
      rw [if_pos ⟨trivial, by omega⟩, hbt, hxs]
      have : (a : Int) + (x.length : Int) + 1 = ((a + x.length + 1 : Nat) : Int) := by omega
      rw [this]
theorem prog_expr (s : ByteArray) (hs : s.size ≤ 1099511627776) : ∀ (d a : Nat) (L : List S43), a ≤ s.size → s.size - a < d →
    (∀ vs t, exprN d ((bs s).drop a) = some (vs, t) → ∃ (sp : List S43) (a' : Nat), sp.map vM = vs ∧ exprFrom s d (a : Int) L = some (true, L ++ sp, (a' : Int)) ∧ a' ≤ s.size ∧ (bs s).drop a' = t ∧ a < a') ∧
    (exprN d ((bs s).drop a) = none → exprFrom s d (a : Int) L = some (false, [], ((a + far step .ns ((bs s).drop a) : Nat) : Int)))
  | 0, a, L, _, h => by omega
  | d + 1, a, L, ha, h => by
    obtain ⟨r1, r2⟩ := prog_reader s hs a ha
    simp only [exprN, exprFrom]
    cases hc : cut ((bs s).drop a) with
    | none =>
      rw [r1 hc]
      refine ⟨fun vs t g => (by cases g), fun _ => ?_⟩
      simp only [Option.bind_some]
      rw [if_neg (by simp)]
    | some p =>
      obtain ⟨x, c, t⟩ := p
      obtain ⟨hl, hsep, hc2⟩ := cut_some hc
      obtain ⟨r3, r4⟩ := r2 x c t hc
      obtain ⟨v1, v2⟩ := var_sep hsep c hc2 t
      have hlen : a + x.length + 1 ≤ s.size := by
        have := congrArg List.length hl
        rw [List.length_drop, bs_length, List.length_append, List.length_cons] at this
        omega
      have hdrop : (bs s).drop (a + x.length + 1) = t := by
        rw [Nat.add_assoc, ← List.drop_drop, hl, ← List.drop_drop, List.drop_left]
        rfl
      simp only
      cases hm : mVar x with
      | none =>
        rw [r3 hm]
        refine ⟨fun vs t g => (by cases g), fun _ => ?_⟩
        simp only [Option.bind_some]
        rw [if_neg (by simp), hl, (v2 hm).2]
      | some v =>
        obtain ⟨y, hy, hr⟩ := r4 v hm
        obtain ⟨w1, w2, -⟩ := v1 v hm
        rw [hr]
        simp only [Option.bind_some, if_true]
        by_cases h125 : c = 125
        · rw [if_pos h125, if_pos (by omega)]
          refine ⟨fun vs t' g => ?_, fun g => by cases g⟩
          cases g
          exact ⟨[y], a + x.length + 1, by rw [List.map_cons, hy]; rfl, rfl, hlen, hdrop, by omega⟩
        · rw [if_neg h125, if_neg (by omega)]
          obtain ⟨i1, i2⟩ := prog_expr s hs d (a + x.length + 1) (L ++ [y]) hlen (by omega)
          rw [hdrop] at i1 i2
          cases hx : exprN d t with
          | none =>
            refine ⟨fun vs t' g => (by cases g), fun _ => ?_⟩
            have := i2 hx
            rw [if_neg h125] at w2
            rw [hl, w2, show a + (x.length + 1 + far step .ns t) = a + x.length + 1 + far step .ns t by omega]
            exact this
          | some q =>
            obtain ⟨vs, t'⟩ := q
            obtain ⟨sp, a', k1, k2, k3, k4, k5⟩ := i1 vs t' hx
            refine ⟨fun vs' t2 g => ?_, fun g => by cases g⟩
            cases g
            refine ⟨y :: sp, a', by rw [List.map_cons, hy, k1], ?_, k3, k4, by omega⟩
            rw [List.append_assoc] at k2
            exact k2
theorem prog_oper {b : Nat} (h : b < 256) : tmpl_Operator.f (b : Int) = some (b == 0 || isOp b) := by
  have : ∀ b : Fin 256, tmpl_Operator.f ((b.1 : Nat) : Int) = some (b.1 == 0 || isOp b.1) := by decide +kernel
  exact this ⟨b, h⟩
theorem isOp_pos {b : Nat} (h : isOp b = true) : b ≠ 0 := by
  rintro rfl
  cases h
theorem prog_op (r : ByteArray) : opOf r = some (opN (bs r)).1 ∧ (opN (bs r)).2 = (bs r).drop (if (opN (bs r)).1 = 0 then 0 else 1) := by
  unfold opOf
  rcases bs_cases r with ⟨-, h2, h3⟩ | ⟨b, l, hb, h2, h3, h4, h5, h6, h7⟩
  · rw [if_pos h3, h2]
    exact ⟨rfl, rfl⟩
  · rw [if_neg h6, h3, h2, prog_oper hb]
    by_cases h : isOp b = true
    · have h0 := isOp_pos h
      have e : opN (b :: l) = ((b : Int), l) := by simp only [opN]; rw [if_pos h]
      have h1 : ¬ (b : Int) = 0 := by omega
      rw [h, Bool.or_true]
      simp only [e, h1, if_false, Option.map_some, if_true]
      exact ⟨trivial, rfl⟩
    · have e : opN (b :: l) = (0, b :: l) := by simp only [opN]; rw [if_neg h]
      rw [Bool.eq_false_iff.2 h, Bool.or_false]
      simp only [e, if_true]
      by_cases h0 : b = 0
      · rw [if_pos (by omega)]
        exact ⟨rfl, rfl⟩
      · rw [if_neg (by omega), beq_eq_false_iff_ne.2 h0]
        exact ⟨rfl, rfl⟩
theorem prog_parse_from (s : ByteArray) (hs : s.size ≤ 1099511627776) : ∀ (d a : Nat) (L : List S41) (e : Nat), a ≤ s.size → s.size - a < d → s.size - a ≤ e →
    (∀ t, mP e ((bs s).drop a) = some t → ∃ ps : List S41, ps.map pM = t ∧ Ev (fun k => parseFrom k s d (a : Int) L) (L ++ ps, (s.size : Int), 0)) ∧
    (mP e ((bs s).drop a) = none → Ev (fun k => parseFrom k s d (a : Int) L) ([], ((a + far step .top ((bs s).drop a) : Nat) : Int), 2))
  | 0, a, L, e, _, h, _ => by omega
  | d + 1, a, L, e, ha, h, he => by
    by_cases hlt : a < s.size
    · obtain ⟨b, hb, hbt, hd⟩ := bs_get s a hlt
      obtain ⟨e, rfl⟩ : ∃ x, e = x + 1 := ⟨e - 1, by omega⟩
      have hr : bs (s.extract a s.size) = b :: (bs s).drop (a + 1) := by rw [bs_from, hd]
      have hrs : (s.extract a s.size).size = s.size - a := bs_size_from s a
      have hbt2 : bt (s.extract a s.size) 0 = (b : Int) := by
        obtain ⟨x, -, x2, x3⟩ := bs_get (s.extract a s.size) 0 (by omega)
        rw [List.drop_zero, hr] at x3
        rw [(List.cons.inj x3).1]
        exact x2
      have hstep : ∀ R, Ev (fun k => (reader_part.f k s (a : Int)).bind fun t => if t.1 = true then (if (a : Int) < t.2.2 ∧ t.2.2 ≤ s.size then parseFrom k s d t.2.2 (L ++ [t.2.1]) else none) else some ([], t.2.2, 2)) R → Ev (fun k => parseFrom k s (d + 1) (a : Int) L) R := by
        intro R hR
        refine Ev.congr (fun k => ?_) hR
        simp only [parseFrom]
        rw [if_pos (by omega)]
      have hrl : ((bs s).drop (a + 1)).length = s.size - (a + 1) := by rw [List.length_drop, bs_length]
      rw [hd]
      simp only [mP]
      by_cases h123 : b = 123
      · rw [if_pos h123]
        subst h123
        obtain ⟨o1, o2⟩ := prog_op (s.extract (a + 1) s.size)
        have ho : bs (s.extract (a + 1) s.size) = (bs s).drop (a + 1) := bs_from s (a + 1)
        rw [ho] at o1 o2
        have hol := opN_length ((bs s).drop (a + 1))
        obtain ⟨m, hm, hmd, hms⟩ : ∃ m : Nat, (if (opN ((bs s).drop (a + 1))).1 = 0 then ((a : Int) + 1) else ((a : Int) + 1) + 1) = (m : Int) ∧ (bs s).drop m = (opN ((bs s).drop (a + 1))).2 ∧ (m = a + 1 ∨ (m = a + 2 ∧ (opN ((bs s).drop (a + 1))).2.length + 1 = ((bs s).drop (a + 1)).length)) := by
          by_cases g : (opN ((bs s).drop (a + 1))).1 = 0
          · rw [if_pos g]
            rw [if_pos g, List.drop_zero] at o2
            exact ⟨a + 1, by omega, o2.symm, .inl rfl⟩
          · rw [if_neg g]
            rw [if_neg g, List.drop_drop] at o2
            refine ⟨a + 2, by omega, o2.symm, .inr ⟨rfl, ?_⟩⟩
            have hne : (bs s).drop (a + 1) ≠ [] := by
              intro k
              rw [k] at g
              exact g rfl
            have := List.length_pos_iff.2 hne
            rw [o2, List.length_drop, bs_length]
            rw [hrl] at this ⊢
            omega
        have hmle : m ≤ s.size := by
          rcases hms with rfl | ⟨rfl, k⟩ <;> omega
        have hpart : ∀ k, reader_part.f k s (a : Int) = (exprFrom s (s.size + 2) (m : Int) []).map fun t => (t.1, ⟨⟨#[]⟩, (opN ((bs s).drop (a + 1))).1, t.2.1⟩, t.2.2) := by
          intro k
          unfold reader_part.f
          rw [Int.toNat_natCast, hbt2, if_pos (by rfl)]
          unfold reader_expression.f
          rw [show ((a : Int) + 1).toNat = a + 1 by omega, o1, Option.bind_some, hm]
          cases exprFrom s (s.size + 2) (m : Int) [] <;> rfl
        obtain ⟨x1, x2⟩ := prog_expr s hs (s.size + 2) m [] hmle (by omega)
        rw [hmd] at x1 x2
        have hfuel : exprN (s.size + 2) (opN ((bs s).drop (a + 1))).2 = exprN (((bs s).drop (a + 1)).length + 1) (opN ((bs s).drop (a + 1))).2 := expr_fuel' _ _ _ (by omega) (by omega)
        rw [hfuel] at x1 x2
        obtain ⟨et, -⟩ := expr_top (((bs s).drop (a + 1)).length + 1) (opN ((bs s).drop (a + 1))).2 (by omega)
        cases hx : exprN (((bs s).drop (a + 1)).length + 1) (opN ((bs s).drop (a + 1))).2 with
        | none =>
          refine ⟨fun t g => (by cases g), fun _ => hstep _ ?_⟩
          have hpos : m + far step .ns (opN ((bs s).drop (a + 1))).2 = a + far step .top (123 :: (bs s).drop (a + 1)) := by
            rw [far_some step_open_brace]
            by_cases hne : (bs s).drop (a + 1) = []
            · rw [hne]
              have e1 : (opN ([] : List Nat)).2 = [] := rfl
              rw [e1]
              rcases hms with rfl | ⟨rfl, k⟩
              · rfl
              · rw [hne] at k
                simp [e1] at k
            · rw [(opN_run _ hne).2]
              rcases hms with g | ⟨rfl, k⟩
              · have : (opN ((bs s).drop (a + 1))).2.length = ((bs s).drop (a + 1)).length := by rw [← hmd, g]
                omega
              · omega
          rw [← hpos]
          refine Ev.congr (f := fun _ => some ([], ((m + far step .ns (opN ((bs s).drop (a + 1))).2 : Nat) : Int), 2)) (fun k => ?_) (Ev.now _)
          rw [hpart, x2 hx]
          simp only [Option.map_some, Option.bind_some]
          rw [if_neg (by simp)]
        | some q =>
          obtain ⟨vs, t⟩ := q
          obtain ⟨sp, a', k1, k2, k3, k4, k5⟩ := x1 vs t hx
          obtain ⟨-, p, hp, hp0, hp1⟩ := et vs t hx
          have haa : a < a' := by rcases hms with rfl | ⟨rfl, -⟩ <;> omega
          have hpart2 : ∀ R, Ev (fun k => parseFrom k s d (a' : Int) (L ++ [⟨⟨#[]⟩, (opN ((bs s).drop (a + 1))).1, sp⟩])) R → Ev (fun k => parseFrom k s (d + 1) (a : Int) L) R := by
            intro R hR
            refine hstep _ (Ev.congr (fun k => ?_) hR)
            rw [hpart, k2]
            simp only [Option.map_some, Option.bind_some, List.nil_append, if_true]
            rw [if_pos ⟨by omega, by omega⟩]
          obtain ⟨i1, i2⟩ := prog_parse_from s hs d a' (L ++ [⟨⟨#[]⟩, (opN ((bs s).drop (a + 1))).1, sp⟩]) e k3 (by omega) (by omega)
          rw [k4] at i1 i2
          simp only
          cases hmp : mP e t with
          | none =>
            refine ⟨fun t g => (by cases g), fun _ => hpart2 _ ?_⟩
            have hpos : a' + far step .top t = a + far step .top (123 :: (bs s).drop (a + 1)) := by
              have hne : (bs s).drop (a + 1) ≠ [] := by
                intro g
                rw [g] at hp
                have := congrArg List.length hp
                rw [List.length_append] at this
                have h3 := List.length_pos_iff.2 hp0
                have e1 : (opN ([] : List Nat)).2 = [] := rfl
                rw [e1] at this
                simp only [List.length_nil] at this
                omega
              have e1 : far step .top (123 :: (bs s).drop (a + 1)) = (((bs s).drop (a + 1)).length - (opN ((bs s).drop (a + 1))).2.length) + (p.length + far step .top t) + 1 := by
                rw [far_some step_open_brace, (opN_run _ hne).2]
                conv => lhs; rw [hp, far_append p _ hp1]
                congr 2
                rw [← hp]
              have e2 := congrArg List.length hp
              rw [List.length_append] at e2
              have e3 := congrArg List.length k4
              rw [List.length_drop, bs_length] at e3
              rw [e1]
              rw [hrl] at hol ⊢
              omega
            rw [← hpos]
            exact i2 hmp
          | some qs =>
            obtain ⟨ps, j1, j2⟩ := i1 qs hmp
            refine ⟨fun t g => ?_, fun g => by cases g⟩
            cases g
            refine ⟨⟨⟨#[]⟩, (opN ((bs s).drop (a + 1))).1, sp⟩ :: ps, ?_, hpart2 _ ?_⟩
            · rw [List.map_cons, j1]
              simp only [pM, k1, bs_nil]
            · rw [List.append_assoc] at j2
              exact j2
      · rw [if_neg h123]
        have hpcs := prog_pieces (s.extract a s.size) (by omega) (((bs s).drop (a + 1)).length + 2) (by omega)
        rw [hr] at hpcs
        by_cases hz : piecesN (((bs s).drop (a + 1)).length + 2) (b :: (bs s).drop (a + 1)) = 0
        · rw [if_pos hz]
          rw [hz] at hpcs
          refine ⟨fun t g => (by cases g), fun _ => hstep _ ?_⟩
          have hp0 := (pieces_zero _ _).1 hz
          rw [(stop_far hp0 h123).1]
          have hst := prog_stop (s.extract a s.size) (by omega) (by rw [hr]; simp)
          rw [hr] at hst
          have hpart : Ev (fun k => reader_part.f k s (a : Int)) (false, z41, ((a + stopN (b :: (bs s).drop (a + 1)) : Nat) : Int)) := by
            unfold reader_part.f
            rw [Int.toNat_natCast, hbt2]
            refine Ev.neg (by omega) (hpcs.bind (Ev.pos (by omega) ?_))
            unfold reader_stop.f
            rw [Int.toNat_natCast]
            obtain ⟨K, hK⟩ := hst
            exact ⟨K, fun k hk => by simp only [hK k hk, Option.map_some]; congr 3⟩
          exact hpart.bind (Ev.neg (by simp) (Ev.now _))
        · rw [if_neg hz]
          obtain ⟨q1, q2⟩ := pieces_top (((bs s).drop (a + 1)).length + 2) (b :: (bs s).drop (a + 1))
          have hfar : far step .top (b :: (bs s).drop (a + 1)) = piecesN (((bs s).drop (a + 1)).length + 2) (b :: (bs s).drop (a + 1)) + far step .top ((b :: (bs s).drop (a + 1)).drop (piecesN (((bs s).drop (a + 1)).length + 2) (b :: (bs s).drop (a + 1)))) := by
            conv => lhs; rw [← List.take_append_drop (piecesN (((bs s).drop (a + 1)).length + 2) (b :: (bs s).drop (a + 1))) (b :: (bs s).drop (a + 1))]
            rw [far_append _ _ q2, List.length_take, Nat.min_eq_left q1]
          rw [hfar]
          generalize piecesN (((bs s).drop (a + 1)).length + 2) (b :: (bs s).drop (a + 1)) = m at *
          have hml : m ≤ s.size - a := by
            rw [List.length_cons, hrl] at q1
            omega
          have hdm : (b :: (bs s).drop (a + 1)).drop m = (bs s).drop (a + m) := by rw [← hd, List.drop_drop]
          have htm : bs ((s.extract a s.size).extract 0 m) = (b :: (bs s).drop (a + 1)).take m := by rw [bs_upto, hr]
          rw [hdm]
          have hpart : Ev (fun k => reader_part.f k s (a : Int)) (true, ⟨(s.extract a s.size).extract 0 m, 0, []⟩, ((a + m : Nat) : Int)) := by
            unfold reader_part.f
            rw [Int.toNat_natCast, hbt2]
            refine Ev.neg (by omega) (hpcs.bind (Ev.neg (by omega) (Ev.pos ⟨by omega, by omega⟩ ?_)))
            rw [Int.toNat_natCast, show (a : Int) + (m : Int) = ((a + m : Nat) : Int) by omega]
            exact Ev.now _
          have hpart2 : ∀ R, Ev (fun k => parseFrom k s d ((a + m : Nat) : Int) (L ++ [⟨(s.extract a s.size).extract 0 m, 0, []⟩])) R → Ev (fun k => parseFrom k s (d + 1) (a : Int) L) R := by
            intro R hR
            exact hstep _ (hpart.bind (Ev.pos rfl (Ev.pos ⟨show (a : Int) < ((a + m : Nat) : Int) by omega, show ((a + m : Nat) : Int) ≤ (s.size : Int) by omega⟩ hR)))
          obtain ⟨i1, i2⟩ := prog_parse_from s hs d (a + m) (L ++ [⟨(s.extract a s.size).extract 0 m, 0, []⟩]) e (by omega) (by omega) (by omega)
          cases hmp : mP e ((bs s).drop (a + m)) with
          | none =>
            refine ⟨fun t g => (by cases g), fun _ => hpart2 _ ?_⟩
            rw [← Nat.add_assoc]
            exact i2 hmp
          | some qs =>
            obtain ⟨ps, j1, j2⟩ := i1 qs hmp
            refine ⟨fun t g => ?_, fun g => by cases g⟩
            cases g
            refine ⟨⟨(s.extract a s.size).extract 0 m, 0, []⟩ :: ps, ?_, hpart2 _ ?_⟩
            · rw [List.map_cons, j1]
              simp only [pM, htm, List.map_nil]
            · rw [List.append_assoc] at j2
              exact j2
    · have e0 : (bs s).drop a = [] := List.drop_eq_nil_of_le (by rw [bs_length]; omega)
      rw [e0]
      have : mP e [] = some [] := by cases e <;> rfl
      rw [this]
      refine ⟨fun t g => ?_, fun g => by cases g⟩
      cases g
      refine ⟨[], rfl, Ev.congr (f := fun _ => some (L, (s.size : Int), 0)) (fun k => ?_) (by rw [List.append_nil]; exact Ev.now _)⟩
      simp only [parseFrom]
      rw [if_neg (by omega)]
theorem prog_parse (s : ByteArray) (hs : s.size ≤ 1099511627776) :
    (run step .top (bs s) = some .top → ∃ ps, mP s.size (bs s) = some (ps.map pM) ∧ Ev (fun k => tmpl_Parse.f k s) (ps, (s.size : Int), 0)) ∧
    (run step .top (bs s) ≠ some .top → Ev (fun k => tmpl_Parse.f k s) (([] : List S41), ((far step .top (bs s) : Nat) : Int), 2)) := by
  obtain ⟨h1, h2⟩ := prog_parse_from s hs (s.size + 1) 0 [] s.size (by omega) (by omega) (by omega)
  rw [List.drop_zero] at h1 h2
  have h3 := mP_run s.size (bs s) (by rw [bs_length]; exact Nat.le_refl _)
  have hp : ∀ R, Ev (fun k => parseFrom k s (s.size + 1) ((0 : Nat) : Int) []) R → Ev (fun k => tmpl_Parse.f k s) R := fun R hR => Ev.congr (fun k => by simp only [tmpl_Parse.f]; rw [if_pos hs]; rfl) hR
  constructor
  · intro h
    obtain ⟨t, ht⟩ := h3.2 h
    obtain ⟨ps, g1, g2⟩ := h1 t ht
    exact ⟨ps, by rw [ht, g1], hp _ g2⟩
  · intro h
    have hm : mP s.size (bs s) = none := by
      cases hm : mP s.size (bs s) with
      | none => rfl
      | some t => exact absurd (h3.1 ⟨t, hm⟩) h
    have := h2 hm
    rw [Nat.zero_add] at this
    exact hp _ this
end Go.Proofs.YtkipkbggnfllkaaGreatDoor.P
end
section
namespace Go.Proofs.YtkipkbggnfllkaaGreatDoor.P
open Go.RowKit Go.Proofs.YtkipkbggnfllkaaGreatDoorW.PrintWords Go.Proofs.YtkipkbggnfllkaaGreatDoorW.PrintLast Go.Proofs.YtkipkbggnfllkaaGreatDoorW.PrintMore
set_option linter.unusedVariables false
theorem ref_same_l1 (l : List S41) (hl : l.length ≤ 1099511627776) (i : Nat) (hi : i < l.length) (hs : (rd_T41 l (i : Int)).f2.length ≤ 1099511627776) (R : Bool) (h : Ev (fun k => rf07_Same.l0 k l l ((i + 1 : Nat) : Int)) R) :
 ∀ (d j : Nat), j + d = (rd_T41 l (i : Int)).f2.length → Ev (fun k => rf07_Same.l1 k l l (i : Int) (j : Int)) R
 | 0, j, hj => by
  have ew : wrap64 ((i : Int) + 1) = ((i + 1 : Nat) : Int) := by rw [w64 (by omega) (by omega)]; omega
  refine Ev.step (f := _) (fun k => ?_) h
  have c1 : (0 ≤ (i : Int)) = True := eq_true (by omega)
  have c2 : ((i : Int) < (l.length : Int)) = True := eq_true (by omega)
  have c3 : ((j : Int) < ((rd_T41 l (i : Int)).f2.length : Int)) = False := eq_false (by omega)
  simp only [rf07_Same.l1, c1, c2, c3, if_true, if_false, ew]
 | d + 1, j, hj => by
  have ih := ref_same_l1 l hl i hi hs R h d (j + 1) (by omega)
  have ew : wrap64 ((j : Int) + 1) = ((j + 1 : Nat) : Int) := by rw [w64 (by omega) (by omega)]; omega
  refine Ev.step (f := _) (fun k => ?_) ih
  have c1 : (0 ≤ (i : Int)) = True := eq_true (by omega)
  have c2 : ((i : Int) < (l.length : Int)) = True := eq_true (by omega)
  have c3 : ((j : Int) < ((rd_T41 l (i : Int)).f2.length : Int)) = True := eq_true (by omega)
  have c4 : (0 ≤ (j : Int)) = True := eq_true (by omega)
  simp only [rf07_Same.l1, c1, c2, c3, c4, if_true, if_false, ew, beq_self_eq_true, Bool.not_true, Bool.or_self, Bool.false_eq_true]
theorem ref_same_l0 (l : List S41) (hl : l.length ≤ 1099511627776) (hs : ∀ x ∈ l, x.f2.length ≤ 1099511627776) : ∀ (d i : Nat), i + d = l.length → Ev (fun k => rf07_Same.l0 k l l (i : Int)) true
 | 0, i, hi => Ev.step (f := fun _ => some true) (fun k => by simp only [rf07_Same.l0]; rw [if_neg (by omega)]) (Ev.now _)
 | d + 1, i, hi => by
  have ih := ref_same_l0 l hl hs d (i + 1) (by omega)
  have hx : (rd_T41 l (i : Int)).f2.length ≤ 1099511627776 := by
   have hlt : i < l.length := by omega
   have : rd_T41 l (i : Int) = l[i] := by
    unfold rd_T41
    rw [Int.toNat_natCast, List.getD_eq_getElem?_getD, List.getElem?_eq_getElem hlt]
    rfl
   rw [this]
   exact hs _ (List.getElem_mem hlt)
  have h1 := ref_same_l1 l hl i (by omega) hx true ih _ 0 (Nat.zero_add _)
  refine Ev.step (f := fun k => rf07_Same.j1 k l l (i : Int) false) (fun k => ?_) (Ev.step (f := _) (fun k => ?_) h1)
  · have c1 : ((i : Int) < (l.length : Int)) = True := eq_true (by omega)
    have c2 : (0 ≤ (i : Int)) = True := eq_true (by omega)
    simp only [rf07_Same.l0, c1, c2, if_true, bne_self_eq_false]
  · simp only [rf07_Same.j1]
    rw [if_neg (by simp)]
    rfl
theorem ref_same (l : List S41) (hl : l.length ≤ 1099511627776) (hs : ∀ x ∈ l, x.f2.length ≤ 1099511627776) : Ev (fun k => rf07_Same.f k l l) true := by
 unfold rf07_Same.f
 exact Ev.pos rfl (ref_same_l0 l hl hs l.length 0 (Nat.zero_add _))
theorem exprN_length : ∀ (d : Nat) (l : List Nat) (vs : List MVar) (t : List Nat), exprN d l = some (vs, t) → vs.length + t.length ≤ l.length
 | 0, _, _, _, h => by cases h
 | d + 1, l, vs, t, h => by
  simp only [exprN] at h
  cases hc : cut l with
  | none =>
   rw [hc] at h
   cases h
  | some p =>
   obtain ⟨a, c, r⟩ := p
   obtain ⟨hl, -, -⟩ := cut_some hc
   rw [hc] at h
   simp only at h
   have hlen : l.length = a.length + (r.length + 1) := by rw [hl, List.length_append, List.length_cons]
   cases hm : mVar a with
   | none =>
    rw [hm] at h
    cases h
   | some v =>
    rw [hm] at h
    simp only at h
    by_cases h1 : c = 125
    · rw [if_pos h1] at h
      cases h
      simp only [List.length_cons, List.length_nil]
      omega
    · rw [if_neg h1] at h
      cases hx : exprN d r with
      | none =>
       rw [hx] at h
       cases h
      | some q =>
       obtain ⟨ws, u⟩ := q
       rw [hx] at h
       cases h
       have := exprN_length d r _ _ hx
       simp only [List.length_cons]
       omega
theorem mP_length : ∀ (d : Nat) (l : List Nat) (ps : List MPart), mP d l = some ps → ps.length ≤ l.length ∧ ∀ x ∈ ps, x.specs.length ≤ l.length
 | d, [], ps, h => by
  have : mP d [] = some [] := by cases d <;> rfl
  rw [this] at h
  cases h
  exact ⟨Nat.le_refl _, fun x hx => by cases hx⟩
 | 0, _ :: _, _, h => by cases h
 | d + 1, b :: r, ps, h => by
  simp only [mP] at h
  by_cases hb : b = 123
  · rw [if_pos hb] at h
    cases hx : exprN (r.length + 1) (opN r).2 with
    | none =>
     rw [hx] at h
     cases h
    | some q =>
     obtain ⟨vs, t⟩ := q
     rw [hx] at h
     simp only at h
     have h1 := exprN_length _ _ _ _ hx
     have h2 := opN_length r
     cases hm : mP d t with
     | none =>
      rw [hm] at h
      cases h
     | some qs =>
      rw [hm] at h
      cases h
      obtain ⟨i1, i2⟩ := mP_length d t qs hm
      refine ⟨by simp only [List.length_cons]; omega, fun x hx => ?_⟩
      rcases List.mem_cons.1 hx with rfl | hx
      · simp only [List.length_cons]
        omega
      · have := i2 x hx
        simp only [List.length_cons]
        omega
  · rw [if_neg hb] at h
    by_cases hz : piecesN (r.length + 2) (b :: r) = 0
    · rw [if_pos hz] at h
      cases h
    · rw [if_neg hz] at h
      obtain ⟨q1, -⟩ := pieces_top (r.length + 2) (b :: r)
      cases hm : mP d ((b :: r).drop (piecesN (r.length + 2) (b :: r))) with
      | none =>
       rw [hm] at h
       cases h
      | some qs =>
       rw [hm] at h
       cases h
       obtain ⟨i1, i2⟩ := mP_length d _ qs hm
       rw [List.length_drop] at i1 i2
       refine ⟨by simp only [List.length_cons] at *; omega, fun x hx => ?_⟩
       rcases List.mem_cons.1 hx with rfl | hx
       · simp
       · have := i2 x hx
         omega
theorem awake_ev : Ev (fun k => lw_awake.f k) true := Ev.of (fun k => lw_awake.mono k) (show lw_awake.f 60 = some true by kernel_rfl)
theorem parses_pure (s : ByteArray) : ∃ k, lw_TmplParses.f k s = some true := by
 refine Ev.rounds (g := fun k => lw_TmplParses.f k s) ?_
 unfold lw_TmplParses.f
 refine awake_ev.bind ?_
 by_cases hs : (s.size : Int) > 100
 · exact Ev.pos hs (Ev.now _)
 · refine Ev.neg hs ?_
   obtain ⟨p1, p2⟩ := prog_parse s (by omega)
   obtain ⟨r1, r2⟩ := ref_parse s (by omega)
   by_cases h : run step .top (bs s) = some .top
   · obtain ⟨ps, g1, g2⟩ := p1 h
     obtain ⟨qs, g3, g4⟩ := r1 h
     have e : ps = qs := by
      rw [g1] at g3
      exact map_pM_inj (Option.some.inj g3)
     subst e
     obtain ⟨l1, l2⟩ := mP_length _ _ _ g1
     rw [bs_length] at l1 l2
     rw [List.length_map] at l1
     refine g2.bind (g4.bind (Ev.pos rfl ((ref_same ps (by omega) fun x hx => ?_).bind (Ev.pos rfl (Ev.pos rfl (Ev.now _))))))
     have := l2 (pM x) (List.mem_map_of_mem hx)
     simp only [pM, List.length_map] at this
     omega
   · refine (p2 h).bind ((r2 h).bind (Ev.pos rfl ((ref_same [] (by simp) (fun x hx => by cases hx)).bind (Ev.pos rfl (Ev.pos rfl (Ev.now _))))))
end Go.Proofs.YtkipkbggnfllkaaGreatDoor.P
end
section
namespace Go.Proofs.YtkipkbggnfllkaaGreatDoor
open Go.ChangeShapes Go.WideShapes Go.ChangeAt Go.RowKit
open Go.ChangeMaps (open_string shut_string)
set_option linter.unusedVariables false
set_option maxRecDepth 100000
theorem parses_law (s : ByteArray) (w : World) (hG : P.Gl w) : Calls Tryz.prog 3 #[.string s] w fun e w' => e = .returned (.bool true) ∧ Below w.heap.size w w' := by
 obtain ⟨k, hk⟩ := P.parses_pure s
 exact P.lw_TmplParses.calls k s true w hG hk
theorem parses_own : ownKnob Tryz.prog.godebug = none := by kernel_rfl
theorem parses_lifted (os : Os) (started : os.Started) (H : Type) (enc : TypeId × Value → H) :
 ReturnsInHanded {} Tryz.checked os 3 .any (fun w args => (Rows.tmplParsesSpec.pre enc Tryz.prog Tryz.f3 [] false w args ∧ laidMetH Tryz.prog Rows.tmplParsesRow.laid w) ∧ sizedMet enc Tryz.prog Tryz.f3 (OpenSpec.ofChange Rows.tmplParsesSpec) false w args)
  (Rows.tmplParsesSpec.post enc Tryz.prog Tryz.f3 false true false false) := by
 refine returnsInHanded_of_change_and (C := Tryz.checked) (X := fun w _ => laidMetH Tryz.prog Rows.tmplParsesRow.laid w) (fun _ _ _ hh h => h.of_heap hh) parses_own started (by kernel_rfl) Tryz.func3
  (ChangeSpec.witness_shaped (enc := enc) (C := Tryz.checked) (os := os) (X := fun w _ => laidMetH Tryz.prog Rows.tmplParsesRow.laid w) false (World.laidAll Tryz.prog os Rows.tmplParsesRow.laid) #[.string ByteArray.empty] 8 (World.laidAll_os _ _ _)
   (World.shaped_of_ZipB (by kernel_rfl) (by kernel_rfl)) (by kernel_rfl) (by kernel_rfl) (by kernel_rfl)
   (by rw [MakeChecks.laidMetH_plain _ _ _ (by kernel_rfl)]; exact laidMet_laidAll _ (by kernel_rfl) (by kernel_rfl))) ?_
 intro W base args ds gs before hval0 hW _ _ hX _
 have hval : ∀ (j : Nat) t v, Tryz.f3.params[j]? = some t → args[j]? = some v → Value.okWide Tryz.prog W .any base t v := hval0
 have hW' := hW
 obtain ⟨p, q, hA0, hV, rfl, _, _⟩ := hW
 have hA : DataW.TrodAll enc Tryz.prog W 0 (fun _ => true) true Tryz.f3.params.toList args.toList ds p := hA0
 rw [Tryz.params3] at hA hval
 obtain ⟨v0, d0, rfl, rfl, h0⟩ := trodAll_one hA
 obtain ⟨rfl, rfl⟩ := trodVars_none hV
 obtain ⟨x, rfl, rfl, rfl, y0⟩ := open_string Tryz.underlying9 (hval 0 9 v0 rfl rfl) h0
 simp only [List.append_nil] at hW'
 rw [MakeChecks.laidMetH_plain _ _ _ (by kernel_rfl)] at hX
 refine (parses_law x W (gl_of_laid hX)).mono fun e W' ⟨he, hb⟩ => ?_
 subst he
 exact ⟨_, rfl, _, _, _, [], [], [], hW', trodAll_mk1 (shut_bool Tryz.underlying4 _), trodAll_mk1 (shut_string Tryz.underlying9 y0), rfl, hb.frame _, fun h => by cases h⟩
theorem parses_holds : Rows.TmplParsesSaid :=
 OpenClaim.holds_of_wide 3 Tryz.f3 rfl rfl rfl rfl rfl rfl rfl ⟨rfl, rfl, rfl, rfl, rfl⟩ rfl rfl rfl rfl rfl (by kernel_rfl) Tryz.func3 (by kernel_rfl)
  (of_decide_eq_true (by kernel_rfl)) (by unfold Func.isWrapper; first | (rw [if_pos (by decide +kernel)]; kernel_rfl) | (rw [if_neg (by decide +kernel)]; exact ⟨rfl, rfl⟩))
  (fun os started H enc _ => parses_lifted os started H enc)
theorem parses_card : Rows.TmplParsesCardSaid :=
 Claim7.holds_tied_plain_at .later [] [.data, .data, .data, .sentinel, .sentinel] true _ true
  parses_holds (fun _ h => by cases h) (by kernel_rfl) (fun _ h => by cases h) tmplParses_row_tie rfl ⟨rfl, rfl⟩ (by kernel_rfl) rfl
  (fun f fn hf hfn => by
   have e1 : f = 3 := Option.some.inj (hf.symm.trans (by kernel_rfl))
   subst e1
   obtain rfl : fn = Tryz.f3 := (Option.some.inj (Tryz.func3.symm.trans hfn)).symm
   exact ⟨by kernel_rfl, fun j t ht => by
    rw [Tryz.params3] at ht
    have hm : t ∈ [9] := by simpa using Array.mem_of_getElem? ht
    obtain rfl := List.mem_singleton.1 hm
    exact (show Tryz.prog.wantsStandIn 9 = false by kernel_rfl)⟩)
  (by kernel_rfl)
end Go.Proofs.YtkipkbggnfllkaaGreatDoor
end
