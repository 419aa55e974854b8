/- The pure law of LogTwice. -/
import Derived.Test.YtlapiebnmbbemaaAFSpinneylaw20LogTwice
namespace Go.Proofs.Ytlapiebnmbbemaa.A
open Go.RowKit Go.Proofs.YtlapiebnmbbemaaW.PrintWords Go.Proofs.YtlapiebnmbbemaaW.PrintLast Go.Proofs.YtlapiebnmbbemaaW.PrintMore
set_option linter.unusedVariables false

/-! ### the order of places -/
theorem cmpL_self : ∀ a : List Int, cmpL a a = 0
  | [] => rfl
  | x :: xs => by simp only [cmpL, Int.lt_irrefl, if_false, GT.gt]; exact cmpL_self xs
theorem cmpL_eq : ∀ a b : List Int, cmpL a b = 0 → a = b
  | [], [], _ => rfl
  | [], _ :: _, h => by simp [cmpL] at h
  | _ :: _, [], h => by simp [cmpL] at h
  | x :: xs, y :: ys, h => by
    simp only [cmpL] at h
    split at h
    · simp at h
    · split at h
      · simp at h
      · rw [show x = y by omega, cmpL_eq xs ys h]
theorem cmpL_trans : ∀ a b c : List Int, cmpL a b < 0 → cmpL b c < 0 → cmpL a c < 0
  | [], [], _, h, _ => by simp [cmpL] at h
  | _, [], [], _, h => by simp [cmpL] at h
  | [], _ :: _, [], _, h => by simp [cmpL] at h
  | [], _ :: _, _ :: _, _, _ => by simp [cmpL]
  | _ :: _, [], _, h, _ => by simp [cmpL] at h
  | _ :: _, _ :: _, [], _, h => by simp [cmpL] at h
  | x :: xs, y :: ys, z :: zs, h1, h2 => by
    simp only [cmpL] at h1 h2 ⊢
    by_cases hxy : x < y
    · by_cases hyz : y < z
      · rw [if_pos (by omega)]; omega
      · rw [if_neg hyz] at h2
        by_cases hzy : y > z
        · rw [if_pos hzy] at h2; omega
        · rw [if_pos (by omega)]; omega
    · rw [if_neg hxy] at h1
      by_cases hyx : x > y
      · rw [if_pos hyx] at h1; omega
      · rw [if_neg hyx] at h1
        by_cases hyz : y < z
        · rw [if_pos (by omega)]; omega
        · rw [if_neg hyz] at h2
          by_cases hzy : y > z
          · rw [if_pos hzy] at h2; omega
          · rw [if_neg hzy] at h2
            rw [if_neg (by omega), if_neg (by omega)]
            exact cmpL_trans xs ys zs h1 h2
/-- A log in order. -/
def ordL : List S29 → Bool
  | [] => true
  | [_] => true
  | x :: y :: r => decide (cmpL x.f0 y.f0 < 0) && ordL (y :: r)

theorem wrap_succ (i : Nat) (h : i < 9223372036854775807) : wrap64 ((i : Int) + 1) = ((i + 1 : Nat) : Int) := by unfold wrap64; omega
theorem rd_entry (l : List S29) (i : Nat) (h : i < l.length) : rd_T29 l (i : Int) = l[i] := by simp [rd_T29, h]
theorem rd_label (l : List (List Int)) (i : Nat) (h : i < l.length) : rd_L3 l (i : Int) = l[i] := by simp [rd_L3, h]
/-- Whether a log is too great. -/
def greatE (x : S29) : Bool := decide (x.f0.length > 100) || decide (x.f1.f1.length > 0)
def bigL (l : List S29) (m : List (List Int)) : Bool := decide (l.length > 200) || decide (m.length > 200) || l.any greatE || m.any (fun a => decide (a.length > 100))
theorem big_l1 (l : List S29) (m : List (List Int)) (hm : m.length ≤ 200) : ∀ (d i : Nat), m.length - i = d → i ≤ m.length → Ev (fun k => spinneylaw20_big.l1 k m (m.length : Int) (i : Int)) ((m.drop i).any (fun a => decide (a.length > 100))) := by
  intro d
  induction d with
  | zero =>
    intro i h1 h2
    refine Ev.step (fun k => by simp only [spinneylaw20_big.l1]; rfl) (Ev.neg (by omega) ?_)
    rw [List.drop_of_length_le (by omega)]
    exact Ev.now _
  | succ d ih =>
    intro i h1 h2
    have hi : i < m.length := by omega
    refine Ev.step (fun k => by simp only [spinneylaw20_big.l1]; rfl) (Ev.pos (by omega) (Ev.pos (by omega) (Ev.pos (by omega) ?_)))
    rw [rd_label m i hi, List.drop_eq_getElem_cons hi, List.any_cons]
    by_cases hg : m[i].length > 100
    · rw [decide_eq_true hg]
      exact Ev.pos (by omega) (Ev.now _)
    · rw [decide_eq_false hg, Bool.false_or, wrap_succ i (by omega)]
      exact Ev.neg (by omega) (ih (i + 1) (by omega) (by omega))
theorem big_l0 (l : List S29) (m : List (List Int)) (hl : l.length ≤ 200) (hm : m.length ≤ 200) : ∀ (d i : Nat), l.length - i = d → i ≤ l.length → Ev (fun k => spinneylaw20_big.l0 k m l (l.length : Int) (i : Int)) ((l.drop i).any greatE || m.any (fun a => decide (a.length > 100))) := by
  intro d
  induction d with
  | zero =>
    intro i h1 h2
    refine Ev.step (fun k => by simp only [spinneylaw20_big.l0]; rfl) (Ev.neg (by omega) ?_)
    rw [List.drop_of_length_le (by omega)]
    exact big_l1 l m hm _ 0 rfl (by omega)
  | succ d ih =>
    intro i h1 h2
    have hi : i < l.length := by omega
    refine Ev.step (fun k => by simp only [spinneylaw20_big.l0]; rfl) (Ev.pos (by omega) (Ev.pos (by omega) (Ev.pos (by omega) ?_)))
    rw [rd_entry l i hi, List.drop_eq_getElem_cons hi, List.any_cons]
    by_cases hg : l[i].f0.length > 100
    · rw [show greatE l[i] = true by simp [greatE, hg]]
      exact Ev.pos (by omega) (Ev.now _)
    · refine Ev.neg (by omega) ?_
      by_cases hg2 : l[i].f1.f1.length > 0
      · rw [show greatE l[i] = true by simp only [greatE, decide_eq_true hg2, Bool.or_true]]
        exact Ev.pos (by omega) (Ev.now _)
      · rw [show greatE l[i] = false by simp only [greatE, decide_eq_false hg, decide_eq_false hg2, Bool.or_false], Bool.false_or, wrap_succ i (by omega)]
        exact Ev.neg (by omega) (ih (i + 1) (by omega) (by omega))
theorem big_ev (l : List S29) (m : List (List Int)) : Ev (fun k => spinneylaw20_big.f k l m) (bigL l m) := by
  unfold bigL
  by_cases h1 : l.length > 200
  · refine Ev.pos (by omega) ?_
    rw [decide_eq_true h1]
    exact Ev.step (fun k => by simp only [spinneylaw20_big.j0]; rfl) (Ev.pos (rfl : true = true) (Ev.now _))
  · refine Ev.neg (by omega) ?_
    rw [decide_eq_false h1]
    by_cases h2 : m.length > 200
    · rw [decide_eq_true h2, decide_eq_true (show (m.length : Int) > 200 by omega)]
      exact Ev.step (fun k => by simp only [spinneylaw20_big.j0]; rfl) (Ev.pos (rfl : true = true) (Ev.now _))
    · rw [decide_eq_false h2, decide_eq_false (show ¬ (m.length : Int) > 200 by omega)]
      exact Ev.step (fun k => by simp only [spinneylaw20_big.j0]; rfl) (Ev.neg (by simp) (big_l0 l m (by omega) (by omega) _ 0 rfl (by omega)))

theorem ord_ev (l : List S29) (hl : l.length ≤ 200) : ∀ (d i : Nat), l.length - i = d → i ≤ l.length → 1 ≤ i → Ev (fun k => spinneyref20_Ordered.l0 k l (i : Int)) (ordL (l.drop (i - 1))) := by
  intro d
  induction d with
  | zero =>
    intro i h1 h2 h3
    refine Ev.step (fun k => by simp only [spinneyref20_Ordered.l0]; rfl) (Ev.neg (by omega) ?_)
    rw [List.drop_eq_getElem_cons (show i - 1 < l.length by omega), List.drop_of_length_le (by omega)]
    exact Ev.now _
  | succ d ih =>
    intro i h1 h2 h3
    have hi : i < l.length := by omega
    have hp : i - 1 < l.length := by omega
    have hw : wrap64 ((i : Int) - 1) = ((i - 1 : Nat) : Int) := by unfold wrap64; omega
    refine Ev.step (fun k => by simp only [spinneyref20_Ordered.l0]; rfl) (Ev.pos (by omega) ?_)
    rw [hw]
    refine Ev.pos (by omega) (Ev.pos (by omega) (Ev.pos (by omega) ?_))
    rw [rd_entry l i hi, rd_entry l (i - 1) hp]
    refine Ev.bind (Ev.now _) ?_
    rw [List.drop_eq_getElem_cons hp, show i - 1 + 1 = i by omega, List.drop_eq_getElem_cons hi]
    simp only [ordL]
    by_cases hc : cmpL l[i - 1].f0 l[i].f0 ≥ 0
    · rw [decide_eq_false (show ¬ cmpL l[i - 1].f0 l[i].f0 < 0 by omega)]
      exact Ev.pos hc (Ev.now _)
    · rw [decide_eq_true (show cmpL l[i - 1].f0 l[i].f0 < 0 by omega), Bool.true_and, wrap_succ i (by omega)]
      have hn := ih (i + 1) (by omega) (by omega) (by omega)
      rw [show i + 1 - 1 = i by omega, List.drop_eq_getElem_cons hi] at hn
      exact Ev.neg hc hn
theorem ordered_ev (l : List S29) (hl : l.length ≤ 200) : Ev (fun k => spinneyref20_Ordered.f k l) (ordL l) := by
  by_cases h : l.length = 0
  · obtain rfl := List.length_eq_zero_iff.1 h
    exact Ev.step (fun k => by simp only [spinneyref20_Ordered.f, spinneyref20_Ordered.l0]; rfl) (Ev.neg (by simp) (Ev.now _))
  · exact ord_ev l hl _ 1 rfl (by omega) (Nat.le_refl _)
theorem same_self (l : List S29) (hl : l.length ≤ 200) : ∀ (d i : Nat), l.length - i = d → i ≤ l.length → Ev (fun k => spinneyref20_Same.l0 k l l (l.length : Int) (i : Int)) true := by
  intro d
  induction d with
  | zero =>
    intro i h1 h2
    exact Ev.step (fun k => by simp only [spinneyref20_Same.l0]; rfl) (Ev.neg (by omega) (Ev.now _))
  | succ d ih =>
    intro i h1 h2
    have hi : i < l.length := by omega
    refine Ev.step (fun k => by simp only [spinneyref20_Same.l0]; rfl) (Ev.pos (by omega) (Ev.pos (by omega) (Ev.pos (by omega) (Ev.pos (by omega) ?_))))
    rw [rd_entry l i hi]
    refine Ev.bind (Ev.now _) ?_
    refine Ev.pos (cmpL_self _) ?_
    have he : spinneyref14_SameEvent.f l[i].f1.f0 l[i].f1.f1 l[i].f1.f2 l[i].f1.f0 l[i].f1.f1 l[i].f1.f2 = some true := by
      simp only [spinneyref14_SameEvent.f, if_true, spinneyref03_SameAll.f, spinneyref03_SameW.f, sameT_refl, Option.bind_some]
    rw [he]
    refine Ev.bind (Ev.now _) (Ev.pos (rfl : true = true) ?_)
    rw [wrap_succ i (by omega)]
    exact ih (i + 1) (by omega) (by omega)
theorem same_ev_self (l : List S29) (hl : l.length ≤ 200) : Ev (fun k => spinneyref20_Same.f k l l) true := Ev.pos rfl (same_self l hl _ 0 rfl (by omega))

/-- How many entries stand at a place. -/
def cntL (e : List Int) (l : List S29) : Nat := (l.filter (fun x => decide (cmpL x.f0 e = 0))).length
theorem cntL_cons (e : List Int) (x : S29) (l : List S29) : cntL e (x :: l) = (if cmpL x.f0 e = 0 then 1 else 0) + cntL e l := by
  unfold cntL
  by_cases h : cmpL x.f0 e = 0
  · rw [if_pos h, List.filter_cons_of_pos (by simpa using h), List.length_cons]; omega
  · rw [if_neg h, List.filter_cons_of_neg (by simpa using h)]; omega
theorem twice_loop (x0 : List S29) (by_ : List Int) (dep : Int) (a m : List S29) (e0 : List Int) (e1 : Int) (e2 : List S47) (e3 : Int) (h0 : x0.length ≤ 200) (hm : m.length = x0.length + 1) (ha : a.length ≤ (m.filter (fun x => !prunedL x.f0 by_ dep)).length) :
    ∀ (d i n : Nat), m.length - i = d → i ≤ m.length → n ≤ i → n + cntL e0 (m.drop i) = 1 → Ev (fun k => spinneylaw20_LogTwice.l0 k x0 by_ dep true a m (n : Int) m (m.length : Int) (i : Int) e0 e1 e2 e3) true := by
  intro d
  induction d with
  | zero =>
    intro i n h1 h2 h3 h4
    refine Ev.step (fun k => by simp only [spinneylaw20_LogTwice.l0]; rfl) (Ev.neg (by omega) (Ev.pos (rfl : true = true) ?_))
    rw [List.drop_of_length_le (by omega)] at h4
    have hn : n = 1 := by simpa [cntL] using h4
    refine Ev.pos (by omega) (Ev.pos (by rw [hm]; unfold wrap64; omega) ?_)
    have hd : log_Drop.f m by_ dep = some (m.filter (fun x => !prunedL x.f0 by_ dep)) := if_pos (by omega)
    rw [hd]
    refine Ev.bind (Ev.now _) ?_
    rw [decide_eq_true (show ((m.filter (fun x => !prunedL x.f0 by_ dep)).length : Int) ≥ (a.length : Int) by omega)]
    exact Ev.now _
  | succ d ih =>
    intro i n h1 h2 h3 h4
    have hi : i < m.length := by omega
    refine Ev.step (fun k => by simp only [spinneylaw20_LogTwice.l0]; rfl) (Ev.pos (by omega) (Ev.pos (by omega) (Ev.pos (by omega) ?_)))
    rw [rd_entry m i hi]
    refine Ev.bind (Ev.now _) ?_
    rw [List.drop_eq_getElem_cons hi, cntL_cons] at h4
    rw [wrap_succ i (by omega)]
    by_cases hc : cmpL m[i].f0 e0 = 0
    · rw [if_pos hc] at h4
      rw [wrap_succ n (by omega)]
      exact Ev.pos hc (ih (i + 1) (n + 1) (by omega) (by omega) (by omega) (by omega))
    · rw [if_neg hc] at h4
      exact Ev.neg hc (ih (i + 1) n (by omega) (by omega) (by omega) (by omega))

theorem cntL_append (e : List Int) (l m : List S29) : cntL e (l ++ m) = cntL e l + cntL e m := by
  unfold cntL
  rw [List.filter_append, List.length_append]
theorem cntL_zero (e : List Int) (l : List S29) (h : ∀ x ∈ l, cmpL x.f0 e ≠ 0) : cntL e l = 0 := by
  unfold cntL
  rw [List.filter_eq_nil_iff.2 (fun x hx => by simpa using h x hx)]
  rfl
theorem ordL_tail : ∀ (x : S29) (l : List S29), ordL (x :: l) = true → ordL l = true
  | _, [], _ => rfl
  | _, _ :: _, h => by simp only [ordL, Bool.and_eq_true] at h; exact h.2
theorem ordL_head : ∀ (l : List S29) (x : S29), ordL (x :: l) = true → ∀ y ∈ l, cmpL x.f0 y.f0 < 0
  | [], _, _, _, hy => by simp at hy
  | z :: l, x, h, y, hy => by
    simp only [ordL, Bool.and_eq_true, decide_eq_true_eq] at h
    rcases List.mem_cons.1 hy with rfl | hy
    · exact h.1
    · exact cmpL_trans _ _ _ h.1 (ordL_head l z h.2 y hy)
theorem ordL_at : ∀ (l : List S29) (i j : Nat) (hi : i < l.length) (hj : j < l.length), ordL l = true → i < j → cmpL l[i].f0 l[j].f0 < 0
  | [], _, _, h, _, _, _ => by simp at h
  | x :: l, 0, j + 1, _, hj, h, _ => ordL_head l x h _ (List.getElem_mem (by simpa using hj))
  | x :: l, i + 1, j + 1, hi, hj, h, hlt => ordL_at l i j (by simpa using hi) (by simpa using hj) (ordL_tail x l h) (by omega)
  | x :: l, i, 0, _, _, _, h => by omega
theorem cmpL_gt : ∀ a b : List Int, cmpL a b > 0 → cmpL b a < 0
  | [], [], h => by simp [cmpL] at h
  | [], _ :: _, h => by simp [cmpL] at h
  | _ :: _, [], _ => by simp [cmpL]
  | x :: xs, y :: ys, h => by
    simp only [cmpL] at h ⊢
    by_cases hxy : x < y
    · rw [if_pos hxy] at h; omega
    · rw [if_neg hxy] at h
      by_cases hyx : x > y
      · rw [if_pos (by omega)]; omega
      · rw [if_neg hyx] at h
        rw [if_neg (by omega), if_neg (by omega)]
        exact cmpL_gt xs ys h
theorem cmpL_lt : ∀ a b : List Int, cmpL a b < 0 → cmpL b a > 0
  | [], [], h => by simp [cmpL] at h
  | [], _ :: _, _ => by simp [cmpL]
  | _ :: _, [], h => by simp [cmpL] at h
  | x :: xs, y :: ys, h => by
    simp only [cmpL] at h ⊢
    by_cases hxy : x < y
    · rw [if_neg (by omega), if_pos (by omega)]; omega
    · rw [if_neg hxy] at h
      by_cases hyx : x > y
      · rw [if_pos hyx] at h; omega
      · rw [if_neg hyx] at h
        rw [if_neg (by omega), if_neg (by omega)]
        exact cmpL_lt xs ys h
/-- What was put in is there, once. -/
theorem put_count (l : List S29) (e : S29) (ho : ordL l = true) (hn : ¬ (putAt l e.f0 < l.length ∧ cmpL (l.getD (putAt l e.f0) z29).f0 e.f0 = 0)) : cntL e.f0 (l.take (putAt l e.f0) ++ e :: l.drop (putAt l e.f0)) = 1 := by
  obtain ⟨_, hle, hlo, hhi⟩ := searchF_spec (fun h => decide (cmpL (l.getD h z29).f0 e.f0 ≥ 0)) l.length 0 l.length (by omega) (by omega)
  have hle' : putAt l e.f0 ≤ l.length := hle
  obtain ⟨i, hi⟩ : ∃ i, putAt l e.f0 = i := ⟨_, rfl⟩
  have hlo' : 0 < putAt l e.f0 → decide (cmpL (l.getD (putAt l e.f0 - 1) z29).f0 e.f0 ≥ 0) = false := hlo
  have hhi' : putAt l e.f0 < l.length → decide (cmpL (l.getD (putAt l e.f0) z29).f0 e.f0 ≥ 0) = true := hhi
  clear hlo hhi hle
  rw [hi] at hn hle' hlo' hhi' ⊢
  rw [cntL_append, cntL_cons, if_pos (cmpL_self _), cntL_zero _ _ (fun x hx => ?_), cntL_zero _ _ (fun x hx => ?_)]
  · obtain ⟨j, hj, rfl⟩ := List.mem_iff_getElem.1 hx
    rw [List.length_drop] at hj
    rw [List.getElem_drop]
    have hil : i < l.length := by omega
    have h1 := hhi' hil
    rw [decide_eq_true_eq, List.getD_eq_getElem?_getD, List.getElem?_eq_getElem hil] at h1
    have h2 : cmpL l[i].f0 e.f0 ≠ 0 := fun h => hn ⟨hil, by rw [List.getD_eq_getElem?_getD, List.getElem?_eq_getElem hil]; exact h⟩
    have h3 : cmpL l[i].f0 e.f0 > 0 := by simp only [Option.getD_some] at h1; omega
    by_cases hj0 : j = 0
    · subst hj0; simpa using h2
    · have h4 := ordL_at l i (i + j) hil (by omega) ho (by omega)
      have h5 := cmpL_lt _ _ (cmpL_trans _ _ _ (cmpL_gt _ _ h3) h4)
      omega
  · obtain ⟨j, hj, rfl⟩ := List.mem_iff_getElem.1 hx
    rw [List.length_take] at hj
    rw [List.getElem_take]
    have hil : i - 1 < l.length := by omega
    have h1 := hlo' (by omega)
    rw [decide_eq_false_iff_not, List.getD_eq_getElem?_getD, List.getElem?_eq_getElem hil] at h1
    have h3 : cmpL l[i - 1].f0 e.f0 < 0 := by simp only [Option.getD_some] at h1; omega
    by_cases hj0 : j = i - 1
    · subst hj0; omega
    · have h4 := ordL_at l j (i - 1) (by omega) hil ho (by omega)
      have h5 := cmpL_trans _ _ _ h4 h3
      omega

theorem bigL_short {l : List S29} {m : List (List Int)} (h : bigL l m = false) : l.length ≤ 200 := by
  simp only [bigL, Bool.or_eq_false_iff, decide_eq_false_iff_not] at h
  omega
theorem twice_ev (l0 : List S29) (l1_0 : List Int) (a1_1 : Int) (l1_2 : List S47) (a1_3 : Int) (l2 : List Int) (a3 : Int) : Ev (fun k => spinneylaw20_LogTwice.f k l0 l1_0 a1_1 l1_2 a1_3 l2 a3) true := by
  refine Ev.bind (Ev.now true) ?_
  refine Ev.bind (big_ev l0 [l1_0, l2]) ?_
  cases hb : bigL l0 [l1_0, l2] with
  | true => exact Ev.pos rfl (Ev.step (fun k => by simp only [spinneylaw20_LogTwice.j0]; rfl) (Ev.pos (rfl : true = true) (Ev.now _)))
  | false =>
    have h0 := bigL_short hb
    refine Ev.neg (by simp) (Ev.bind (ordered_ev l0 h0) ?_)
    cases ho : ordL l0 with
    | false =>
      refine Ev.step (fun k => by simp only [spinneylaw20_LogTwice.j0]; rfl) ?_
      exact Ev.pos (by trivial) (Ev.now _)
    | true =>
      refine Ev.step (fun k => by simp only [spinneylaw20_LogTwice.j0]; rfl) (Ev.neg (by simp) ?_)
      obtain ⟨A, hA⟩ : ∃ A, l0.filter (fun x => !prunedL x.f0 l2 a3) = A := ⟨_, rfl⟩
      have hlA : A.length ≤ l0.length := by rw [← hA]; exact List.length_filter_le _ _
      have e1 : log_Drop.f l0 l2 a3 = some A := by rw [← hA]; exact if_pos (by omega)
      have e2 : log_Drop.f A l2 a3 = some A := by
        unfold log_Drop.f
        rw [if_pos (by omega), ← hA, List.filter_filter]
        simp only [Bool.and_self]
      rw [e1]
      refine Ev.bind (Ev.now _) ?_
      rw [e2]
      refine Ev.bind (Ev.now _) ?_
      refine Ev.bind (same_ev_self A (by omega)) (Ev.pos (rfl : true = true) ?_)
      by_cases hp : putAt l0 l1_0 < l0.length ∧ cmpL (l0.getD (putAt l0 l1_0) z29).f0 l1_0 = 0
      · have e3 : log_Put.f l0 l1_0 a1_1 l1_2 a1_3 = some ([], 1) := by unfold log_Put.f; rw [if_pos (by omega), if_pos hp]
        rw [e3]
        refine Ev.bind (Ev.now _) (Ev.neg (by simp) ?_)
        exact Ev.pos (by trivial) (Ev.now _)
      · have e3 : log_Put.f l0 l1_0 a1_1 l1_2 a1_3 = some (l0.take (putAt l0 l1_0) ++ ⟨l1_0, ⟨a1_1, l1_2, a1_3⟩⟩ :: l0.drop (putAt l0 l1_0), 0) := by unfold log_Put.f; rw [if_pos (by omega), if_neg hp]
        rw [e3]
        refine Ev.bind (Ev.now _) (Ev.pos rfl ?_)
        have hle := putAt_le l0 l1_0
        have hcnt := put_count l0 ⟨l1_0, ⟨a1_1, l1_2, a1_3⟩⟩ ho hp
        refine twice_loop l0 l2 a3 A _ l1_0 a1_1 l1_2 a1_3 h0 ?_ ?_ _ 0 0 rfl (Nat.zero_le _) (Nat.le_refl _) ?_
        · simp only [List.length_append, List.length_take, List.length_cons, List.length_drop]; omega
        · rw [← hA, List.filter_append, List.length_append]
          conv => lhs; rw [← List.take_append_drop (putAt l0 l1_0) l0, List.filter_append, List.length_append]
          rw [List.filter_cons]
          split
          · rw [List.length_cons]; omega
          · omega
        · rw [List.drop_zero, Nat.zero_add]; exact hcnt
theorem LogTwice (l0 : List S29) (l1_0 : List Int) (a1_1 : Int) (l1_2 : List S47) (a1_3 : Int) (l2 : List Int) (a3 : Int) : ∃ k, spinneylaw20_LogTwice.f k l0 l1_0 a1_1 l1_2 a1_3 l2 a3 = some true :=
  (twice_ev l0 l1_0 a1_1 l1_2 a1_3 l2 a3).rounds
end Go.Proofs.Ytlapiebnmbbemaa.A
