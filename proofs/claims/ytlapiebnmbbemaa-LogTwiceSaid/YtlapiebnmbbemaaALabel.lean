/- Places (layer 19): what the printed functions of label and of its reference come to, xs plain functions on lists of numbers. -/
import Derived.Test.YtlapiebnmbbemaaAFLabelCompare
import Derived.Test.YtlapiebnmbbemaaAFLabelPruned
import Derived.Test.YtlapiebnmbbemaaAFSpinneyref19Pruned
import Derived.Test.YtlapiebnmbbemaaAFSpinneyref19Compare
namespace Go.Proofs.Ytlapiebnmbbemaa.A
open Go.RowKit Go.Proofs.YtlapiebnmbbemaaW.PrintWords Go.Proofs.YtlapiebnmbbemaaW.PrintLast Go.Proofs.YtlapiebnmbbemaaW.PrintMore

theorem Ev.pos {α : Type} {c : Prop} [Decidable c] {f g : Nat → Option α} {r : α} (h : c) (k : Ev f r) : Ev (fun n => if c then f n else g n) r := Ev.congr (fun _ => if_pos h) k
theorem Ev.neg {α : Type} {c : Prop} [Decidable c] {f g : Nat → Option α} {r : α} (h : ¬ c) (k : Ev g r) : Ev (fun n => if c then f n else g n) r := Ev.congr (fun _ => if_neg h) k
theorem Ev.eq {α : Type} {f : Nat → Option α} {r r' : α} (k : Ev f r) (h : r = r') : Ev f r' := h ▸ k
/-- The order of places. -/
def cmpL : List Int → List Int → Int
  | [], [] => 0
  | [], _ :: _ => -1
  | _ :: _, [] => 1
  | a :: xs, b :: ys => if a < b then -1 else if a > b then 1 else cmpL xs ys
def leftL : List Int → List Int → Bool
  | [], _ => false
  | _ :: _, [] => false
  | a :: xs, b :: ys => if a = b then leftL xs ys else decide (a < b)
def underL : List Int → List Int → Bool
  | _, [] => true
  | [], _ :: _ => false
  | a :: xs, b :: ys => if a = b then underL xs ys else false
def prunedL (a by_ : List Int) (depth : Int) : Bool := underL a (by_.take (mn (mx depth 0) (by_.length : Int)).toNat) && leftL by_ a
def partsL : List Int → List Int → Nat
  | a :: xs, b :: ys => if a = b then partsL xs ys + 1 else 0
  | _, _ => 0

theorem partsL_le (a : List Int) : ∀ b : List Int, partsL a b ≤ a.length ∧ partsL a b ≤ b.length := by
  induction a with
  | nil => intro b; simp [partsL]
  | cons x xs ih =>
    intro b
    cases b with
    | nil => simp [partsL]
    | cons y ys =>
      simp only [partsL]
      split
      · have := ih ys; simp; omega
      · simp
theorem partsL_at (a : List Int) : ∀ (b : List Int) (n : Nat), n ≤ a.length → n ≤ b.length → (∀ j, j < n → a.getD j 0 = b.getD j 0) → (n < a.length → n < b.length → a.getD n 0 ≠ b.getD n 0) → partsL a b = n := by
  induction a with
  | nil => intro b n h _ _ _; simp at h; simp [partsL, h]
  | cons x xs ih =>
    intro b n h1 h2 h3 h4
    cases b with
    | nil => simp at h2; simp [partsL, h2]
    | cons y ys =>
      cases n with
      | zero =>
        have := h4 (by simp) (by simp)
        simp at this
        simp [partsL, this]
      | succ n =>
        have h5 := h3 0 (by omega)
        simp at h5
        simp only [partsL, h5, if_true]
        rw [ih ys n (by simpa using h1) (by simpa using h2) (fun j hj => by have := h3 (j + 1) (by omega); simpa using this) (fun h6 h7 => by have := h4 (by simpa using h6) (by simpa using h7); simpa using this)]
theorem partsL_same (a : List Int) : ∀ b : List Int, partsL a b < a.length → partsL a b < b.length → a.getD (partsL a b) 0 ≠ b.getD (partsL a b) 0 := by
  induction a with
  | nil => intro b h; simp at h
  | cons x xs ih =>
    intro b h1 h2
    cases b with
    | nil => simp at h2
    | cons y ys =>
      simp only [partsL] at h1 h2 ⊢
      split at h1
      · rename_i e
        simp only [e, if_true] at h2 ⊢
        simpa using ih ys (by simpa using h1) (by simpa using h2)
      · rename_i e
        simp [e]
theorem rd_nat (xs : List Int) (n : Nat) : rd xs (n : Int) = xs.getD n 0 := by simp [rd]
theorem parts_ev (a b : List Int) (ha : a.length ≤ 9223372036854775807) (hb : b.length ≤ 9223372036854775807) : Ev (fun k => label_parts.f k a b) (partsL a b : Int) := by
  have hm : mn (a.length : Int) (b.length : Int) = ((min a.length b.length : Nat) : Int) := by unfold mn; split <;> omega
  have key : ∀ (d n : Nat), min a.length b.length - n = d → n ≤ min a.length b.length → (∀ j, j < n → a.getD j 0 = b.getD j 0) → Ev (fun k => label_parts.l0 k a b (mn (a.length : Int) (b.length : Int)) (n : Int)) (partsL a b : Int) := by
    intro d
    induction d with
    | zero =>
      intro n h1 h2 h3
      refine Ev.step (fun k => by simp only [label_parts.l0]; rfl) ?_
      refine Ev.neg (by rw [hm]; omega) ?_
      rw [hm, partsL_at a b n (by omega) (by omega) h3 (fun _ _ => by omega)]
      exact Ev.eq (Ev.now _) (by omega)
    | succ d ih =>
      intro n h1 h2 h3
      refine Ev.step (fun k => by simp only [label_parts.l0]; rfl) ?_
      refine Ev.pos (by rw [hm]; omega) (Ev.pos (by omega) (Ev.pos (by omega) (Ev.pos (by omega) ?_)))
      rw [rd_nat, rd_nat]
      by_cases e : a.getD n 0 = b.getD n 0
      · refine Ev.pos e ?_
        rw [show wrap64 ((n : Int) + 1) = ((n + 1 : Nat) : Int) from by unfold wrap64; omega]
        exact ih (n + 1) (by omega) (by omega) (fun j hj => by
          rcases Nat.lt_or_ge j n with h | h
          · exact h3 j h
          · obtain rfl : j = n := by omega
            exact e)
      · refine Ev.neg e ?_
        rw [partsL_at a b n (by omega) (by omega) h3 (fun _ _ => e)]
        exact Ev.now _
  exact key _ 0 rfl (by omega) (fun j hj => by omega)
theorem cmp_int (x y : Int) : cmp_Compare_int.f x y = some (if x < y then -1 else if x > y then 1 else 0) := by
  simp only [cmp_Compare_int.f, cmp_isNaN_int.f, bne_self_eq_false, Option.bind_some, Bool.false_eq_true, if_false]
  by_cases h1 : x < y
  · rw [if_pos h1, if_pos h1]
  · rw [if_neg h1, if_neg h1]
    by_cases h2 : x > y
    · rw [if_pos h2, if_pos h2]
    · rw [if_neg h2, if_neg h2]
theorem cmpL_parts (a : List Int) : ∀ b : List Int, cmpL a b = if partsL a b < a.length ∧ partsL a b < b.length then (if a.getD (partsL a b) 0 < b.getD (partsL a b) 0 then -1 else if a.getD (partsL a b) 0 > b.getD (partsL a b) 0 then 1 else 0) else (if (a.length : Int) < b.length then -1 else if (a.length : Int) > b.length then 1 else 0) := by
  induction a with
  | nil => intro b; cases b <;> simp [cmpL, partsL]
  | cons x xs ih =>
    intro b
    cases b with
    | nil => simp [cmpL, partsL]; omega
    | cons y ys =>
      simp only [cmpL, partsL]
      by_cases e : x = y
      · subst e
        simp only [Int.lt_irrefl, if_false, gt_iff_lt, ih ys, if_true, List.length_cons, Nat.add_lt_add_iff_right, List.getD_cons_succ]
        split
        · rfl
        · congr 1
          · simp
          · congr 1; simp
      · simp only [e, if_false, List.length_cons, Nat.zero_lt_succ, and_self, if_true, List.getD_cons_zero]
        rcases Int.lt_trichotomy x y with h | h | h
        · simp [h]
        · exact absurd h e
        · rw [if_neg (by omega), if_pos h, if_neg (by omega), if_pos h]
theorem compare_ev (a b : List Int) (ha : a.length ≤ 9223372036854775807) (hb : b.length ≤ 9223372036854775807) : Ev (fun k => label_Compare.f k a b) (cmpL a b) := by
  have hl := partsL_le a b
  refine Ev.bind (parts_ev a b ha hb) ?_
  have hT : partsL a b < a.length → partsL a b < b.length → Ev (fun k => label_Compare.j0 k a b (partsL a b : Int) true) (if a.getD (partsL a b) 0 < b.getD (partsL a b) 0 then -1 else if a.getD (partsL a b) 0 > b.getD (partsL a b) 0 then 1 else 0) := by
    intro h1 h2
    refine Ev.step (fun k => by simp only [label_Compare.j0]; rfl) (Ev.pos (rfl : true = true) (Ev.pos (by omega) (Ev.pos (by omega) (Ev.pos (by omega) ?_))))
    rw [rd_nat, rd_nat, cmp_int]
    exact Ev.now _
  have hF : Ev (fun k => label_Compare.j0 k a b (partsL a b : Int) false) (if (a.length : Int) < b.length then -1 else if (a.length : Int) > b.length then 1 else 0) := by
    refine Ev.step (fun k => by simp only [label_Compare.j0]; rfl) (Ev.neg (by simp) ?_)
    rw [cmp_int]
    exact Ev.now _
  rw [cmpL_parts]
  by_cases h1 : partsL a b < a.length
  · refine Ev.pos (by omega) ?_
    by_cases h2 : partsL a b < b.length
    · rw [decide_eq_true (show (partsL a b : Int) < (b.length : Int) by omega), if_pos ⟨h1, h2⟩]
      exact hT h1 h2
    · rw [decide_eq_false (show ¬ (partsL a b : Int) < (b.length : Int) by omega), if_neg (fun h => h2 h.2)]
      exact hF
  · refine Ev.neg (by omega) ?_
    rw [if_neg (fun h => h1 h.1)]
    exact hF
theorem left_ev (a b : List Int) (ha : a.length ≤ 9223372036854775807) (hb : b.length ≤ 9223372036854775807) : Ev (fun k => label_Left.f k a b) (leftL a b) := by
  have hl := partsL_le a b
  refine Ev.bind (parts_ev a b ha hb) ?_
  have hp : ∀ a b : List Int, leftL a b = if partsL a b < a.length then (if partsL a b < b.length then decide (a.getD (partsL a b) 0 < b.getD (partsL a b) 0) else false) else false := by
    intro a
    induction a with
    | nil => intro b; simp [leftL, partsL]
    | cons x xs ih =>
      intro b
      cases b with
      | nil => simp [leftL, partsL]
      | cons y ys =>
        simp only [leftL, partsL]
        by_cases e : x = y
        · simp only [e, if_true, ih ys, List.length_cons, Nat.add_lt_add_iff_right, List.getD_cons_succ]
        · simp [e]
  rw [hp]
  by_cases h1 : partsL a b < a.length
  · by_cases h2 : partsL a b < b.length
    · rw [if_pos h1, if_pos h2]
      refine Ev.congr (fun k => ?_) (Ev.now _)
      rw [if_pos (by omega), if_pos (by omega), if_pos (by omega), rd_nat, rd_nat]
    · rw [if_pos h1, if_neg h2]
      refine Ev.congr (fun k => ?_) (Ev.now _)
      rw [if_pos (by omega), if_neg (by omega)]
  · rw [if_neg h1]
    refine Ev.congr (fun k => ?_) (Ev.now _)
    rw [if_neg (by omega)]
theorem underL_parts (a : List Int) : ∀ (b : List Int) (m : Nat), m ≤ b.length → underL a (b.take m) = decide (m ≤ partsL a b) := by
  induction a with
  | nil => intro b m h; cases b <;> cases m <;> simp_all [underL, partsL]
  | cons x xs ih =>
    intro b m h
    cases b with
    | nil => cases m <;> simp_all [underL, partsL]
    | cons y ys =>
      cases m with
      | zero => simp [underL]
      | succ m =>
        simp only [List.take_succ_cons, underL, partsL]
        by_cases e : x = y
        · simp only [e, if_true, ih ys m (by simpa using h), Nat.add_le_add_iff_right]
        · simp [e]
theorem pruned_ev (a b : List Int) (d : Int) (ha : a.length ≤ 9223372036854775807) (hb : b.length ≤ 9223372036854775807) : Ev (fun k => label_Pruned.f k a b d) (prunedL a b d) := by
  have hl := partsL_le a b
  refine Ev.bind (left_ev b a hb ha) ?_
  unfold prunedL
  rw [underL_parts a b _ (by unfold mn mx; split <;> split <;> omega)]
  cases leftL b a with
  | false => simp; exact Ev.now _
  | true =>
    simp only [if_true, Bool.and_true]
    refine Ev.bind (parts_ev a b ha hb) ?_
    refine Ev.congr (fun k => ?_) (Ev.now _)
    congr 2
    apply propext
    unfold mn mx
    repeat' split
    all_goals omega

theorem rcompare_ev (a : List Int) : ∀ b : List Int, Ev (fun k => spinneyref19_Compare.f k a b) (cmpL a b) := by
  induction a with
  | nil =>
    intro b
    refine Ev.step (fun k => by simp only [spinneyref19_Compare.f]; rfl) (Ev.pos (by simp) ?_)
    refine Ev.step (fun k => by simp only [spinneyref19_Compare.j0]; rfl) ?_
    cases b with
    | nil => exact Ev.pos (by simp) (Ev.now _)
    | cons y ys => exact Ev.neg (by first | (simp; done) | (simp; omega)) (Ev.pos (by simp) (Ev.now _))
  | cons x xs ih =>
    intro b
    refine Ev.step (fun k => by simp only [spinneyref19_Compare.f]; rfl) (Ev.neg (by first | (simp; done) | (simp; omega)) ?_)
    refine Ev.step (fun k => by simp only [spinneyref19_Compare.j0]; rfl) (Ev.neg (by simp) (Ev.neg (by first | (simp; done) | (simp; omega)) ?_))
    cases b with
    | nil => exact Ev.pos (by simp) (Ev.now _)
    | cons y ys =>
      refine Ev.neg (by first | (simp; done) | (simp; omega)) (Ev.pos (by first | (simp; done) | (simp; omega)) (Ev.pos (by first | (simp; done) | (simp; omega)) ?_))
      simp only [rd, Int.toNat_zero, List.getD_cons_zero, cmpL, List.drop_succ_cons, List.drop_zero]
      by_cases h1 : x < y
      · rw [if_pos h1]; exact Ev.pos h1 (Ev.now _)
      · rw [if_neg h1]; refine Ev.neg h1 ?_
        by_cases h2 : x > y
        · rw [if_pos h2]; exact Ev.pos h2 (Ev.now _)
        · rw [if_neg h2]; exact Ev.neg h2 (Ev.pos (by first | (simp; done) | (simp; omega)) (Ev.pos (by first | (simp; done) | (simp; omega)) (Ev.bind (ih ys) (Ev.now _))))
theorem rleft_ev (a : List Int) : ∀ b : List Int, Ev (fun k => spinneyref19_Left.f k a b) (leftL a b) := by
  induction a with
  | nil =>
    intro b
    refine Ev.step (fun k => by simp only [spinneyref19_Left.f]; rfl) (Ev.pos (by simp) ?_)
    exact Ev.step (fun k => by simp only [spinneyref19_Left.j0]; rfl) (Ev.pos (rfl : true = true) (Ev.now _))
  | cons x xs ih =>
    intro b
    refine Ev.step (fun k => by simp only [spinneyref19_Left.f]; rfl) (Ev.neg (by first | (simp; done) | (simp; omega)) ?_)
    refine Ev.step (fun k => by simp only [spinneyref19_Left.j0]; rfl) ?_
    cases b with
    | nil => exact Ev.pos (by simp) (Ev.now _)
    | cons y ys =>
      refine Ev.neg (by first | (simp; done) | (simp; omega)) (Ev.pos (by first | (simp; done) | (simp; omega)) (Ev.pos (by first | (simp; done) | (simp; omega)) ?_))
      simp only [rd, Int.toNat_zero, List.getD_cons_zero, leftL, List.drop_succ_cons, List.drop_zero]
      by_cases h1 : x = y
      · rw [if_pos h1]; exact Ev.pos h1 (Ev.pos (by first | (simp; done) | (simp; omega)) (Ev.pos (by first | (simp; done) | (simp; omega)) (Ev.bind (ih ys) (Ev.now _))))
      · rw [if_neg h1]; exact Ev.neg h1 (Ev.now _)
theorem runder_ev (a : List Int) : ∀ b : List Int, Ev (fun k => spinneyref19_Under.f k a b) (underL a b) := by
  induction a with
  | nil =>
    intro b
    refine Ev.step (fun k => by simp only [spinneyref19_Under.f]; rfl) ?_
    cases b with
    | nil => exact Ev.pos (by simp) (Ev.now _)
    | cons y ys => exact Ev.neg (by first | (simp; done) | (simp; omega)) (Ev.neg (by simp) (Ev.now _))
  | cons x xs ih =>
    intro b
    refine Ev.step (fun k => by simp only [spinneyref19_Under.f]; rfl) ?_
    cases b with
    | nil => exact Ev.pos (by simp) (Ev.now _)
    | cons y ys =>
      refine Ev.neg (by first | (simp; done) | (simp; omega)) (Ev.pos (by first | (simp; done) | (simp; omega)) (Ev.pos (by first | (simp; done) | (simp; omega)) (Ev.pos (by first | (simp; done) | (simp; omega)) ?_)))
      simp only [rd, Int.toNat_zero, List.getD_cons_zero, underL, List.drop_succ_cons, List.drop_zero]
      by_cases h1 : x = y
      · rw [if_pos h1]; exact Ev.pos h1 (Ev.pos (by first | (simp; done) | (simp; omega)) (Ev.pos (by first | (simp; done) | (simp; omega)) (Ev.bind (ih ys) (Ev.now _))))
      · rw [if_neg h1]; exact Ev.neg h1 (Ev.now _)
theorem rpruned_ev (a b : List Int) (d : Int) : Ev (fun k => spinneyref19_Pruned.f k a b d) (prunedL a b d) := by
  unfold spinneyref19_Pruned.f prunedL
  refine Ev.pos (by unfold mn mx; split <;> split <;> omega) (Ev.pos (by unfold mn mx; split <;> split <;> omega) ?_)
  refine Ev.bind (runder_ev _ _) ?_
  cases underL a (b.take (mn (mx d 0) (b.length : Int)).toNat) with
  | false => simp; exact Ev.now _
  | true => simp; exact rleft_ev b a

/-! The contracts in which the callers take these functions. -/
def label_CompareW.f (l0 l1 : List Int) : Option Int := some (cmpL l0 l1)
theorem label_CompareW.calls (A0 : Option Addr) (c0 : Nat) (l0 : List Int) (A1 : Option Addr) (c1 : Nat) (l1 : List Int) (r : Int) (w : World) (hr0 : Kd.C (Kd.int .i64) w A0 l0.length l0) (hc0 : l0.length ≤ c0) (hr1 : Kd.C (Kd.int .i64) w A1 l1.length l1) (hc1 : l1.length ≤ c1) (h : label_CompareW.f l0 l1 = some r) :
    Calls Try.prog 37 #[.slice A0 l0.length c0, .slice A1 l1.length c1] w fun e w' => e = .returned (.int .i64 r) ∧ Below w.heap.size w w' := by
  obtain ⟨k, hk⟩ := (compare_ev l0 l1 hr0.2.1 hr1.2.1).rounds
  exact label_Compare.calls k A0 c0 l0 A1 c1 l1 r w hr0 hc0 hr1 hc1 (hk.trans h)
def label_PrunedW.f (l0 l1 : List Int) (a2 : Int) : Option Bool := some (prunedL l0 l1 a2)
theorem label_PrunedW.calls (A0 : Option Addr) (c0 : Nat) (l0 : List Int) (A1 : Option Addr) (c1 : Nat) (l1 : List Int) (a2 : Int) (r : Bool) (w : World) (hr0 : Kd.C (Kd.int .i64) w A0 l0.length l0) (hc0 : l0.length ≤ c0) (hr1 : Kd.C (Kd.int .i64) w A1 l1.length l1) (hc1 : l1.length ≤ c1) (h : label_PrunedW.f l0 l1 a2 = some r) :
    Calls Try.prog 33 #[.slice A0 l0.length c0, .slice A1 l1.length c1, .int .i64 a2] w fun e w' => e = .returned (.bool r) ∧ Below w.heap.size w w' := by
  obtain ⟨k, hk⟩ := (pruned_ev l0 l1 a2 hr0.2.1 hr1.2.1).rounds
  exact label_Pruned.calls k A0 c0 l0 A1 c1 l1 a2 r w hr0 hc0 hr1 hc1 (hk.trans h)
def spinneyref19_CompareW.f (l0 l1 : List Int) : Option Int := some (cmpL l0 l1)
theorem spinneyref19_CompareW.calls (A0 : Option Addr) (c0 : Nat) (l0 : List Int) (A1 : Option Addr) (c1 : Nat) (l1 : List Int) (r : Int) (w : World) (hr0 : Kd.C (Kd.int .i64) w A0 l0.length l0) (hc0 : l0.length ≤ c0) (hr1 : Kd.C (Kd.int .i64) w A1 l1.length l1) (hc1 : l1.length ≤ c1) (h : spinneyref19_CompareW.f l0 l1 = some r) :
    Calls Try.prog 13 #[.slice A0 l0.length c0, .slice A1 l1.length c1] w fun e w' => e = .returned (.int .i64 r) ∧ Below w.heap.size w w' := by
  obtain ⟨k, hk⟩ := (rcompare_ev l0 l1).rounds
  exact spinneyref19_Compare.calls k A0 c0 l0 A1 c1 l1 r w hr0 hc0 hr1 hc1 (hk.trans h)
def spinneyref19_PrunedW.f (l0 l1 : List Int) (a2 : Int) : Option Bool := some (prunedL l0 l1 a2)
theorem spinneyref19_PrunedW.calls (A0 : Option Addr) (c0 : Nat) (l0 : List Int) (A1 : Option Addr) (c1 : Nat) (l1 : List Int) (a2 : Int) (r : Bool) (w : World) (hr0 : Kd.C (Kd.int .i64) w A0 l0.length l0) (hc0 : l0.length ≤ c0) (hr1 : Kd.C (Kd.int .i64) w A1 l1.length l1) (hc1 : l1.length ≤ c1) (h : spinneyref19_PrunedW.f l0 l1 a2 = some r) :
    Calls Try.prog 39 #[.slice A0 l0.length c0, .slice A1 l1.length c1, .int .i64 a2] w fun e w' => e = .returned (.bool r) ∧ Below w.heap.size w w' := by
  obtain ⟨k, hk⟩ := (rpruned_ev l0 l1 a2).rounds
  exact spinneyref19_Pruned.calls k A0 c0 l0 A1 c1 l1 a2 r w hr0 hc0 hr1 hc1 (hk.trans h)
end Go.Proofs.Ytlapiebnmbbemaa.A
