/- Parts of the proof of LogDropsSaid: what the functions that it reaches come to. -/
import Derived.Test.YtlapiebnmbbemaaCLogDrops0
section
-- Written by my drive.py over the kit's print program. Not trusted: Lean checks it.
namespace Go.Proofs.Ytlapiebnmbbemaa.A
open Go.RowKit Go.Proofs.YtlapiebnmbbemaaW.PrintWords Go.Proofs.YtlapiebnmbbemaaW.PrintLast Go.Proofs.YtlapiebnmbbemaaW.PrintMore
attribute [local go_sem] max2_int min2_int max_two min_two max_three min_three max_four min_four   -- for this text's walks alone
set_option linter.unusedVariables false
set_option linter.unusedSimpArgs false

/-! ### spinneyref19_Left: function 63 -/
mutual
def spinneyref19_Left.j0 : Nat → List Int → List Int → Bool → Option (Bool)
  | 0, _, _, _ => none
  | k + 1, x0, x1, x12 => if x12 = true then (some false) else (if 0 < (x0.length : Int) then (if 0 < (x1.length : Int) then (if (rd x0 0) = (rd x1 0) then (if 1 ≤ (x0.length : Int) then (if 1 ≤ (x1.length : Int) then ((spinneyref19_Left.f k (x0.drop 1) (x1.drop 1)).bind fun t105 => (some t105)) else (none)) else (none)) else (some (decide ((rd x0 0) < (rd x1 0))))) else (none)) else (none))
def spinneyref19_Left.f : Nat → List Int → List Int → Option (Bool)
  | 0, _, _ => none
  | k + 1, l0, l1 => if (l0.length : Int) = 0 then (spinneyref19_Left.j0 k l0 l1 true) else (spinneyref19_Left.j0 k l0 l1 ((l1.length : Int) == 0))
end
theorem spinneyref19_Left.mono_l : ∀ k, (∀ y0 y1, LeO (spinneyref19_Left.f k y0 y1) (spinneyref19_Left.f (k + 1) y0 y1)) ∧ (∀ y0 y1 y2, LeO (spinneyref19_Left.j0 k y0 y1 y2) (spinneyref19_Left.j0 (k + 1) y0 y1 y2))
  | 0 => ⟨fun _ _ r h => by simp [spinneyref19_Left.f] at h, fun _ _ _ r h => by simp [spinneyref19_Left.j0] at h⟩
  | k + 1 => by
    obtain ⟨ih0, ih1⟩ := spinneyref19_Left.mono_l k
    refine ⟨?_, ?_⟩
    · intro y0 y1
      unfold spinneyref19_Left.f
      repeat' first
      | (with_reducible exact ih0 _ _)
      | (with_reducible exact ih1 _ _ _)
      | (with_reducible exact LeO.refl _)
      | (with_reducible exact LeO.none _)
      | (with_reducible refine LeO.ite ?_ ?_)
      | (with_reducible refine LeO.bind ?_ (fun _ => ?_))
      | exact ih0 _ _
      | exact ih1 _ _ _
      | exact LeO.none _
      | refine LeO.ite ?_ ?_
      | refine LeO.bind ?_ (fun _ => ?_)
    · intro y0 y1 y2
      unfold spinneyref19_Left.j0
      repeat' first
      | (with_reducible exact ih0 _ _)
      | (with_reducible exact ih1 _ _ _)
      | (with_reducible exact LeO.refl _)
      | (with_reducible exact LeO.none _)
      | (with_reducible refine LeO.ite ?_ ?_)
      | (with_reducible refine LeO.bind ?_ (fun _ => ?_))
      | exact ih0 _ _
      | exact ih1 _ _ _
      | exact LeO.none _
      | refine LeO.ite ?_ ?_
      | refine LeO.bind ?_ (fun _ => ?_)
theorem spinneyref19_Left.mono : ∀ a0 a1 k, LeO (spinneyref19_Left.f k a0 a1) (spinneyref19_Left.f (k + 1) a0 a1) := by
  intro a0 a1 k
  obtain ⟨ih0, ih1⟩ := spinneyref19_Left.mono_l k
  exact ih0 a0 a1
def spinneyref19_Left.T4 : Bool × List (List Nat × List Nat) := (true, [([], []), ([0], [0]), ([1], [1]), ([], []), ([3], [3]), ([4], [4]), ([2, 5], [2, 5]), ([6, 0, 1, 2, 3, 4, 5, 6], [6])])
def spinneyref19_Left.B4 : List Nat := [0, 1, 3, 0, 8, 24, 63, 127]
theorem spinneyref19_Left.tab4 : rtab .any (opsOf Try.f63 4) = spinneyref19_Left.T4 := by kernel_rfl
theorem spinneyref19_Left.bits4 : waitsOk spinneyref19_Left.T4.2 spinneyref19_Left.B4 = true := by kernel_rfl
set_option maxHeartbeats 8000000 in
set_option maxRecDepth 100000 in
theorem spinneyref19_Left.calls (k : Nat) : ∀ (A0 : Option Addr) (c0 : Nat) (l0 : List Int) (A1 : Option Addr) (c1 : Nat) (l1 : List Int) (r : Bool) (w : World) (hr0 : Kd.C (Kd.int .i64) w A0 l0.length l0) (hc0 : l0.length ≤ c0) (hr1 : Kd.C (Kd.int .i64) w A1 l1.length l1) (hc1 : l1.length ≤ c1) (h : spinneyref19_Left.f k l0 l1 = some r),
    Calls Try.prog 63 #[.slice A0 l0.length c0, .slice A1 l1.length c1] w fun e w' => e = .returned (.bool r) ∧ Below w.heap.size w w' := by
  induction k using Nat.strongRecOn with
  | _ k ih =>
  intro A0 c0 l0 A1 c1 l1 r w hr0 hc0 hr1 hc1 h
  cases k with
  | zero => exact absurd h (by simp [spinneyref19_Left.f])
  | succ k =>
  simp only [spinneyref19_Left.f] at h
  have HR0 := Aside0.mk hr0
  have HC0 := Aside0.mk hc0
  clear hr0 hc0
  have HR1 := Aside0.mk hr1
  have HC1 := Aside0.mk hc1
  clear hr1 hc1
  have HB := Aside0.mk (Below.refl w.heap.size w)
  have H : (if (l0.length : Int) = 0 then (spinneyref19_Left.j0 k l0 l1 true) else (spinneyref19_Left.j0 k l0 l1 ((l1.length : Int) == 0))) = some r := h
  clear h
  have HC3 := Aside0.mk H
  clear H
  go_enter Try.func63, Try.ntmps63
  go_upto_region 1 with (fail)
  go_cut [12] (fun v12 wc => ∃ (kq : Nat) (x12_2 : Bool), v12 = .bool x12_2 ∧ Aside0 (spinneyref19_Left.j0 kq l0 l1 x12_2 = some r) ∧ Aside0 (kq ≤ k) ∧ Aside0 (Below w.heap.size w wc))
  case first =>
    have H := HC3.out
    clear HC3
    by_cases c4 : (l0.length : Int) = 0
    · rw [if_pos c4] at H
      have c4b0 : ((l0.length : Int) == 0) = true := beq_iff_eq.mpr c4
      have c4b1 : ((l0.length : Int) != 0) = false := bne_eq_false_iff_eq.mpr c4
      clear c4
      (first | rw [c4b0] | (simp only [i64_w, i32_w]; rw [c4b0]) | skip)
      have H' := Aside0.mk H
      clear H
      go_wp2
      go_meet
      case rel => exact ⟨_, (true), (by first | rfl | (simp; done) | (simp [*]; done)), H', ⟨by first | omega | exact Nat.le_refl _⟩, ⟨by repeat (first | (with_reducible first | exact HB.out | apply below_alloc | apply pw_below_drewN | apply below_drew1) | exact HB.out)⟩⟩
    · rw [if_neg c4] at H
      have c4b0 : ((l0.length : Int) == 0) = false := beq_eq_false_iff_ne.mpr c4
      have c4b1 : ((l0.length : Int) != 0) = true := bne_iff_ne.mpr c4
      have c4b2 : ¬ (l0 = []) := fun h_ => c4 (by rw [h_]; rfl)
      (first | rw [c4b0] | (simp only [i64_w, i32_w]; rw [c4b0]) | skip)
      have H' := Aside0.mk H
      clear H
      go_wp2
      go_meet
      case rel => exact ⟨_, (((l1.length : Int) == 0)), (by first | rfl | (simp; done) | (simp [*]; done)), H', ⟨by first | omega | exact Nat.le_refl _⟩, ⟨by repeat (first | (with_reducible first | exact HB.out | apply below_alloc | apply pw_below_drewN | apply below_drew1) | exact HB.out)⟩⟩
  case rest =>
    clear HC3
    try clear c1
    try clear p2
    try clear c4
    try clear c4b0
    try clear c4b1
    try clear c4b2
    obtain ⟨kq, x12_2, rfl, HA, HJ2, HB⟩ := hcut
    cases kq with
    | zero => exact absurd HA.out (by simp [spinneyref19_Left.j0])
    | succ kj2 =>
      have H := HA.out
      clear HA
      simp only [spinneyref19_Left.j0] at H
      by_cases c5 : x12_2 = true
      · subst c5
        have H1 : (some false) = some r := by rw [if_pos rfl] at H; exact H
        clear H
        have H := H1
        clear H1
        obtain rfl := Option.some.inj H
        go_wp2
        go_ret
        exact ⟨by first | rfl | (simp [errW_none, errW_some] <;> rfl) | (simp [*, errW_none, errW_some] <;> rfl), by repeat (first | (with_reducible first | exact HB.out | apply below_alloc | apply pw_below_drewN | apply below_drew1) | exact HB.out)⟩
      · replace c5 := Bool.eq_false_iff.mpr c5
        subst c5
        have H1 : (if 0 < (l0.length : Int) then (if 0 < (l1.length : Int) then (if (rd l0 0) = (rd l1 0) then (if 1 ≤ (l0.length : Int) then (if 1 ≤ (l1.length : Int) then ((spinneyref19_Left.f kj2 (l0.drop 1) (l1.drop 1)).bind fun t105 => (some t105)) else (none)) else (none)) else (some (decide ((rd l0 0) < (rd l1 0))))) else (none)) else (none)) = some r := by rw [if_neg (show ¬ (false = true) by decide)] at H; exact H
        clear H
        have H := H1
        clear H1
        by_cases c6 : 0 < (l0.length : Int)
        · rw [if_pos c6] at H
          have c6b0 : decide (0 < (l0.length : Int)) = true := decide_eq_true c6
          have c6b1 : decide (0 < l0.length) = true := decide_eq_true (by omega)
          clear c6
          by_cases c7 : 0 < (l1.length : Int)
          · rw [if_pos c7] at H
            have c7b0 : decide (0 < (l1.length : Int)) = true := decide_eq_true c7
            have c7b1 : decide (0 < l1.length) = true := decide_eq_true (by omega)
            clear c7
            by_cases c8 : (rd l0 0) = (rd l1 0)
            · rw [if_pos c8] at H
              have c8b0 : ((rd l0 0) == (rd l1 0)) = true := beq_iff_eq.mpr c8
              have c8b1 : ((rd l0 0) != (rd l1 0)) = false := bne_eq_false_iff_eq.mpr c8
              clear c8
              by_cases c9 : 1 ≤ (l0.length : Int)
              · rw [if_pos c9] at H
                have c9b0 := eq_true c9
                have c9b1 : decide (1 ≤ (l0.length : Int)) = true := decide_eq_true c9
                clear c9
                by_cases c10 : 1 ≤ (l1.length : Int)
                · rw [if_pos c10] at H
                  have c10b0 := eq_true c10
                  have c10b1 : decide (1 ≤ (l1.length : Int)) = true := decide_eq_true c10
                  clear c10
                  replace H := Option.bind_eq_some_iff.mp H
                  obtain ⟨t105, A110, H⟩ := H
                  replace H : (some t105) = some r := H
                  have A11 := Aside0.mk A110
                  clear A110
                  obtain rfl := Option.some.inj H
                  try go_wp2
                  have n0_ := Aside0.mk (below_drew1 HB.out)
                  clear HB
                  have HB := n0_
                  clear n0_
                  have p101 : 0 ≤ (0 : Int) := (by omega)
                  have q101 : 0 < (l0.length : Int) := of_decide_eq_true (by first | (with_reducible assumption) | assumption)
                  obtain ⟨ad101, e101, hx101_0⟩ := Kd.at_int HR0.out 0 p101 q101
                  have hw101_0 := hx101_0
                  (try rw [show ((0 : Int)).toNat = 0 from rfl] at hw101_0)
                  (try rw [show 0 * 1 = 0 from rfl] at hw101_0)
                  (try rw [Addr.add_zero'] at hw101_0)
                  cases e101
                  have qi101 : (0 < l0.length) = True := eq_true (by omega)
                  (try rw [show ((0 : Int)).toNat = 0 from rfl] at hx101_0)
                  (try rw [Addr.add_zero'] at hx101_0)
                  replace hx101_0 := (HB.out.cell (World.block_lt_of_cell? w _ hx101_0)).trans hx101_0
                  replace p101 := eq_true p101
                  replace q101 := eq_true q101
                  have p102 : 0 ≤ (0 : Int) := (by omega)
                  have q102 : 0 < (l1.length : Int) := of_decide_eq_true (by first | (with_reducible assumption) | assumption)
                  obtain ⟨ad102, e102, hx102_0⟩ := Kd.at_int HR1.out 0 p102 q102
                  have hw102_0 := hx102_0
                  (try rw [show ((0 : Int)).toNat = 0 from rfl] at hw102_0)
                  (try rw [show 0 * 1 = 0 from rfl] at hw102_0)
                  (try rw [Addr.add_zero'] at hw102_0)
                  cases e102
                  have qi102 : (0 < l1.length) = True := eq_true (by omega)
                  (try rw [show ((0 : Int)).toNat = 0 from rfl] at hx102_0)
                  (try rw [Addr.add_zero'] at hx102_0)
                  replace hx102_0 := (HB.out.cell (World.block_lt_of_cell? w _ hx102_0)).trans hx102_0
                  replace p102 := eq_true p102
                  replace q102 := eq_true q102
                  refine start_ (n := 7) (S := fun w' => w'.cell? ad101 = some (.int .i64 (rd l0 0)) ∧ w'.cell? ad102 = some (.int .i64 (rd l1 0))) (ds := []) #[false, false, false, false, false, false, false] (by kernel_rfl) rfl rfl ⟨((HB.out.cell (World.block_lt_of_cell? w _ hw101_0)).trans hw101_0), ((HB.out.cell (World.block_lt_of_cell? w _ hw102_0)).trans hw102_0)⟩ (fun hHeld => ?_)
                  generalize wc.drew = w12 at HB hx101_0 hx102_0 hHeld ⊢
                  refine pure_ (i := 0) (N := some 13) (v := ?_) (a' := ?_) #[true, false, false, false, false, false, false] rfl rfl (by kernel_rfl) (fun _ _ _ h => h) (Or.inl ⟨by rfl, ?_⟩) ?_ ?_
                  rotate_left
                  · intro w'
                    go_simp
                    with_reducible rfl
                  rotate_left
                  · simp only [Act.put, List.setIfInBounds_toArray, List.set_cons_zero, List.set_cons_succ, i64_w, i32_w]
                    rfl
                  refine pure_ (i := 1) (N := some 14) (v := ?_) (a' := ?_) #[true, true, false, false, false, false, false] rfl rfl (by kernel_rfl) (fun _ _ _ h => h) (Or.inl ⟨by rfl, ?_⟩) ?_ ?_
                  rotate_left
                  · intro w'
                    go_simp
                    with_reducible rfl
                  rotate_left
                  · simp only [Act.put, List.setIfInBounds_toArray, List.set_cons_zero, List.set_cons_succ, i64_w, i32_w]
                    rfl
                  refine pure_ (i := 3) (N := some 16) (v := ?_) (a' := ?_) #[true, true, false, true, false, false, false] rfl rfl (by kernel_rfl) (fun _ _ _ h => h) (Or.inl ⟨by rfl, ?_⟩) ?_ ?_
                  rotate_left
                  · intro w'
                    go_simp
                    with_reducible rfl
                  rotate_left
                  · simp only [Act.put, List.setIfInBounds_toArray, List.set_cons_zero, List.set_cons_succ, i64_w, i32_w]
                    rfl
                  refine pure_ (i := 4) (N := some 17) (v := ?_) (a' := ?_) #[true, true, false, true, true, false, false] rfl rfl (by kernel_rfl) (fun _ _ _ h => h) (Or.inl ⟨by rfl, ?_⟩) ?_ ?_
                  rotate_left
                  · intro w'
                    go_simp
                    with_reducible rfl
                  rotate_left
                  · simp only [Act.put, List.setIfInBounds_toArray, List.set_cons_zero, List.set_cons_succ, i64_w, i32_w]
                    rfl
                  refine take_ (i := 2) (N := some 15) (v := ?_) (a' := ?_) #[true, true, true, true, true, false, false] rfl rfl (by kernel_rfl) (fun _ _ _ h => h) (Or.inl ⟨by rfl, ?_⟩) hHeld ?_ ?_
                  rotate_left
                  · rintro w' ⟨s0, s1⟩
                    go_simp
                    with_reducible rfl
                  rotate_left
                  · simp only [Act.put, List.setIfInBounds_toArray, List.set_cons_zero, List.set_cons_succ, i64_w, i32_w]
                    rfl
                  refine take_ (i := 5) (N := some 18) (v := ?_) (a' := ?_) #[true, true, true, true, true, true, false] rfl rfl (by kernel_rfl) (fun _ _ _ h => h) (Or.inl ⟨by rfl, ?_⟩) hHeld ?_ ?_
                  rotate_left
                  · rintro w' ⟨s0, s1⟩
                    go_simp
                    with_reducible rfl
                  rotate_left
                  · simp only [Act.put, List.setIfInBounds_toArray, List.set_cons_zero, List.set_cons_succ, i64_w, i32_w]
                    rfl
                  refine pure_ (i := 6) (N := some 19) (v := ?_) (a' := ?_) #[true, true, true, true, true, true, true] rfl rfl (by kernel_rfl) (fun _ _ _ h => h) (Or.inl ⟨by rfl, ?_⟩) ?_ ?_
                  rotate_left
                  · intro w'
                    go_simp
                    with_reducible rfl
                  rotate_left
                  · simp only [Act.put, List.setIfInBounds_toArray, List.set_cons_zero, List.set_cons_succ, i64_w, i32_w]
                    rfl
                  refine done_ (by kernel_rfl) ?_
                  try go_wp2
                  have n0_ := Aside0.mk (below_drew1 HB.out)
                  clear HB
                  have HB := n0_
                  clear n0_
                  obtain ⟨i014, hi014, _, hsz14, _⟩ := info_parts info3
                  obtain ⟨A14, hcut14, hA14, hC14⟩ := print_drop_of (P := Try.prog) (Value.int .i64) 0 23 3 .i64 Try.underlying23 hi014 hsz14 (some ad101) c0 l0 1 (by omega) (of_decide_eq_true (by first | (with_reducible assumption) | assumption)) HC0.out
                  have HR103 := Aside0.mk (Kd.C_of_reads (h1 := fun _ => rfl) (hA14 _ (Kd.reads_of_C HR0.out)))
                  have HC103 := Aside0.mk hC14
                  clear hA14 hC14 hi014 hsz14
                  obtain ⟨i015, hi015, _, hsz15, _⟩ := info_parts info3
                  obtain ⟨A15, hcut15, hA15, hC15⟩ := print_drop_of (P := Try.prog) (Value.int .i64) 0 23 3 .i64 Try.underlying23 hi015 hsz15 (some ad102) c1 l1 1 (by omega) (of_decide_eq_true (by first | (with_reducible assumption) | assumption)) HC1.out
                  have HR104 := Aside0.mk (Kd.C_of_reads (h1 := fun _ => rfl) (hA15 _ (Kd.reads_of_C HR1.out)))
                  have HC104 := Aside0.mk hC15
                  clear hA15 hC15 hi015 hsz15
                  refine start_ (n := 6) (S := fun w' => True) (ds := []) #[false, false, false, false, false, false] (by kernel_rfl) rfl rfl trivial (fun hHeld => ?_)
                  generalize w12.drew = w13 at HB HR103 HR104 hHeld ⊢
                  refine pure_ (i := 0) (N := some 27) (v := ?_) (a' := ?_) #[true, false, false, false, false, false] rfl rfl (by kernel_rfl) (fun _ _ _ h => h) (Or.inl ⟨by rfl, ?_⟩) ?_ ?_
                  rotate_left
                  · intro w'
                    go_simp
                    with_reducible rfl
                  rotate_left
                  · simp only [Act.put, List.setIfInBounds_toArray, List.set_cons_zero, List.set_cons_succ, i64_w, i32_w]
                    rfl
                  refine pure_ (i := 1) (N := some 28) (v := ?_) (a' := ?_) #[true, true, false, false, false, false] rfl rfl (by kernel_rfl) (fun _ _ _ h => h) (Or.inl ⟨by rfl, ?_⟩) ?_ ?_
                  rotate_left
                  · intro w'
                    go_simp
                    with_reducible rfl
                  rotate_left
                  · simp only [Act.put, List.setIfInBounds_toArray, List.set_cons_zero, List.set_cons_succ, i64_w, i32_w]
                    rfl
                  refine pure_ (i := 2) (N := some 29) (v := ?_) (a' := ?_) #[true, true, true, false, false, false] rfl rfl (by kernel_rfl) (fun _ _ _ h => h) (Or.inl ⟨by rfl, ?_⟩) ?_ ?_
                  rotate_left
                  · intro w'
                    go_simp
                    with_reducible rfl
                  rotate_left
                  · simp only [Act.put, List.setIfInBounds_toArray, List.set_cons_zero, List.set_cons_succ, i64_w, i32_w]
                    rfl
                  refine pure_ (i := 3) (N := some 30) (v := ?_) (a' := ?_) #[true, true, true, true, false, false] rfl rfl (by kernel_rfl) (fun _ _ _ h => h) (Or.inl ⟨by rfl, ?_⟩) ?_ ?_
                  rotate_left
                  · intro w'
                    go_simp
                    with_reducible rfl
                  rotate_left
                  · simp only [Act.put, List.setIfInBounds_toArray, List.set_cons_zero, List.set_cons_succ, i64_w, i32_w]
                    rfl
                  refine one_ (i := 4) (N := some 31) #[true, true, true, true, true, false] rfl rfl (by kernel_rfl) (by decide) (fun K hK => ?_)
                  refine goes_ Try.func63 (by kernel_rfl) rfl #[.slice A14 (l0.drop 1).length (c0 - 1), .slice A15 (l1.drop 1).length (c1 - 1)] (by rfl) rfl rfl (by (try simp only [List.map_toArray, List.map_cons, List.map_nil]); first | done | (rw [show (l0.drop 1).length = (l0.length - 1) from List.length_drop] <;> rfl) | (rw [show (l1.drop 1).length = (l1.length - 1) from List.length_drop] <;> rfl) | rfl | (simp only [List.length_drop, List.length_take]; rfl)) ?_
                  with_reducible refine (ih kj2 (by have := HJ2.out; omega) _ _ (l0.drop 1) _ _ (l1.drop 1) t105 _ ?side1 ?side2 ?side3 ?side4 A11.out).mono ?_
                  (case side1 => repeat (first | exact (Kd.C_below HR103.out HB.out) | (with_reducible refine Kd.C_alloc ?_ _) | (with_reducible refine Kd.C_drewN ?_ _) | (with_reducible refine Kd.C_drew ?_)))
                  (case side2 => exact HC103.out)
                  (case side3 => repeat (first | exact (Kd.C_below HR104.out HB.out) | (with_reducible refine Kd.C_alloc ?_ _) | (with_reducible refine Kd.C_drewN ?_ _) | (with_reducible refine Kd.C_drew ?_)))
                  (case side4 => exact HC104.out)
                  rintro e w16 ⟨rfl, hb⟩
                  refine ⟨_, rfl, ?_⟩
                  have n0_ := Aside0.mk (below_step (by repeat (first | (with_reducible first | exact HB.out | apply below_alloc | apply pw_below_drewN | apply below_drew1) | exact HB.out)) hb)
                  clear HB
                  have HB := n0_
                  clear n0_
                  (try clear hb)
                  (try clear hb2)
                  (try clear hk)
                  (try clear hi)
                  refine hK.out _ _ trivial (fun hHeld => ?_)
                  clear hK K
                  refine norm_ (a' := ?_) ?_ ?_
                  rotate_left
                  · show Act.put _ (some 31) _ = _
                    simp only [Act.put, List.setIfInBounds_toArray, List.set_cons_zero, List.set_cons_succ, i64_w, i32_w]
                    rfl
                  refine pure_ (i := 5) (N := some 4) (v := ?_) (a' := ?_) #[true, true, true, true, true, true] rfl rfl (by kernel_rfl) (fun _ _ _ h => h) (Or.inl ⟨by rfl, ?_⟩) ?_ ?_
                  rotate_left
                  · intro w'
                    go_simp
                    with_reducible rfl
                  rotate_left
                  · simp only [Act.put, List.setIfInBounds_toArray, List.set_cons_zero, List.set_cons_succ, i64_w, i32_w]
                    rfl
                  refine done_ (by kernel_rfl) ?_
                  try go_wp2
                  go_ret
                  exact ⟨by first | rfl | (simp [errW_none, errW_some] <;> rfl) | (simp [*, errW_none, errW_some] <;> rfl), by repeat (first | (with_reducible first | exact HB.out | apply below_alloc | apply pw_below_drewN | apply below_drew1) | exact HB.out)⟩
                · rw [if_neg c10] at H
                  exact absurd H (by simp)
              · rw [if_neg c9] at H
                exact absurd H (by simp)
            · rw [if_neg c8] at H
              have c8b0 : ((rd l0 0) == (rd l1 0)) = false := beq_eq_false_iff_ne.mpr c8
              have c8b1 : ((rd l0 0) != (rd l1 0)) = true := bne_iff_ne.mpr c8
              obtain rfl := Option.some.inj H
              try go_wp2
              have n0_ := Aside0.mk (below_drew1 HB.out)
              clear HB
              have HB := n0_
              clear n0_
              have p101 : 0 ≤ (0 : Int) := (by omega)
              have q101 : 0 < (l0.length : Int) := of_decide_eq_true (by first | (with_reducible assumption) | assumption)
              obtain ⟨ad101, e101, hx101_0⟩ := Kd.at_int HR0.out 0 p101 q101
              have hw101_0 := hx101_0
              (try rw [show ((0 : Int)).toNat = 0 from rfl] at hw101_0)
              (try rw [show 0 * 1 = 0 from rfl] at hw101_0)
              (try rw [Addr.add_zero'] at hw101_0)
              cases e101
              have qi101 : (0 < l0.length) = True := eq_true (by omega)
              (try rw [show ((0 : Int)).toNat = 0 from rfl] at hx101_0)
              (try rw [Addr.add_zero'] at hx101_0)
              replace hx101_0 := (HB.out.cell (World.block_lt_of_cell? w _ hx101_0)).trans hx101_0
              replace p101 := eq_true p101
              replace q101 := eq_true q101
              have p102 : 0 ≤ (0 : Int) := (by omega)
              have q102 : 0 < (l1.length : Int) := of_decide_eq_true (by first | (with_reducible assumption) | assumption)
              obtain ⟨ad102, e102, hx102_0⟩ := Kd.at_int HR1.out 0 p102 q102
              have hw102_0 := hx102_0
              (try rw [show ((0 : Int)).toNat = 0 from rfl] at hw102_0)
              (try rw [show 0 * 1 = 0 from rfl] at hw102_0)
              (try rw [Addr.add_zero'] at hw102_0)
              cases e102
              have qi102 : (0 < l1.length) = True := eq_true (by omega)
              (try rw [show ((0 : Int)).toNat = 0 from rfl] at hx102_0)
              (try rw [Addr.add_zero'] at hx102_0)
              replace hx102_0 := (HB.out.cell (World.block_lt_of_cell? w _ hx102_0)).trans hx102_0
              replace p102 := eq_true p102
              replace q102 := eq_true q102
              refine start_ (n := 7) (S := fun w' => w'.cell? ad101 = some (.int .i64 (rd l0 0)) ∧ w'.cell? ad102 = some (.int .i64 (rd l1 0))) (ds := []) #[false, false, false, false, false, false, false] (by kernel_rfl) rfl rfl ⟨((HB.out.cell (World.block_lt_of_cell? w _ hw101_0)).trans hw101_0), ((HB.out.cell (World.block_lt_of_cell? w _ hw102_0)).trans hw102_0)⟩ (fun hHeld => ?_)
              generalize wc.drew = w17 at HB hx101_0 hx102_0 hHeld ⊢
              refine pure_ (i := 0) (N := some 13) (v := ?_) (a' := ?_) #[true, false, false, false, false, false, false] rfl rfl (by kernel_rfl) (fun _ _ _ h => h) (Or.inl ⟨by rfl, ?_⟩) ?_ ?_
              rotate_left
              · intro w'
                go_simp
                with_reducible rfl
              rotate_left
              · simp only [Act.put, List.setIfInBounds_toArray, List.set_cons_zero, List.set_cons_succ, i64_w, i32_w]
                rfl
              refine pure_ (i := 1) (N := some 14) (v := ?_) (a' := ?_) #[true, true, false, false, false, false, false] rfl rfl (by kernel_rfl) (fun _ _ _ h => h) (Or.inl ⟨by rfl, ?_⟩) ?_ ?_
              rotate_left
              · intro w'
                go_simp
                with_reducible rfl
              rotate_left
              · simp only [Act.put, List.setIfInBounds_toArray, List.set_cons_zero, List.set_cons_succ, i64_w, i32_w]
                rfl
              refine pure_ (i := 3) (N := some 16) (v := ?_) (a' := ?_) #[true, true, false, true, false, false, false] rfl rfl (by kernel_rfl) (fun _ _ _ h => h) (Or.inl ⟨by rfl, ?_⟩) ?_ ?_
              rotate_left
              · intro w'
                go_simp
                with_reducible rfl
              rotate_left
              · simp only [Act.put, List.setIfInBounds_toArray, List.set_cons_zero, List.set_cons_succ, i64_w, i32_w]
                rfl
              refine pure_ (i := 4) (N := some 17) (v := ?_) (a' := ?_) #[true, true, false, true, true, false, false] rfl rfl (by kernel_rfl) (fun _ _ _ h => h) (Or.inl ⟨by rfl, ?_⟩) ?_ ?_
              rotate_left
              · intro w'
                go_simp
                with_reducible rfl
              rotate_left
              · simp only [Act.put, List.setIfInBounds_toArray, List.set_cons_zero, List.set_cons_succ, i64_w, i32_w]
                rfl
              refine take_ (i := 2) (N := some 15) (v := ?_) (a' := ?_) #[true, true, true, true, true, false, false] rfl rfl (by kernel_rfl) (fun _ _ _ h => h) (Or.inl ⟨by rfl, ?_⟩) hHeld ?_ ?_
              rotate_left
              · rintro w' ⟨s0, s1⟩
                go_simp
                with_reducible rfl
              rotate_left
              · simp only [Act.put, List.setIfInBounds_toArray, List.set_cons_zero, List.set_cons_succ, i64_w, i32_w]
                rfl
              refine take_ (i := 5) (N := some 18) (v := ?_) (a' := ?_) #[true, true, true, true, true, true, false] rfl rfl (by kernel_rfl) (fun _ _ _ h => h) (Or.inl ⟨by rfl, ?_⟩) hHeld ?_ ?_
              rotate_left
              · rintro w' ⟨s0, s1⟩
                go_simp
                with_reducible rfl
              rotate_left
              · simp only [Act.put, List.setIfInBounds_toArray, List.set_cons_zero, List.set_cons_succ, i64_w, i32_w]
                rfl
              refine pure_ (i := 6) (N := some 19) (v := ?_) (a' := ?_) #[true, true, true, true, true, true, true] rfl rfl (by kernel_rfl) (fun _ _ _ h => h) (Or.inl ⟨by rfl, ?_⟩) ?_ ?_
              rotate_left
              · intro w'
                go_simp
                with_reducible rfl
              rotate_left
              · simp only [Act.put, List.setIfInBounds_toArray, List.set_cons_zero, List.set_cons_succ, i64_w, i32_w]
                rfl
              refine done_ (by kernel_rfl) ?_
              try go_wp2
              have n0_ := Aside0.mk (below_drew1 HB.out)
              clear HB
              have HB := n0_
              clear n0_
              have p106 : 0 ≤ (0 : Int) := (by omega)
              have q106 : 0 < (l0.length : Int) := of_decide_eq_true (by first | (with_reducible assumption) | assumption)
              obtain ⟨ad106, e106, hx106_0⟩ := Kd.at_int HR0.out 0 p106 q106
              have hw106_0 := hx106_0
              (try rw [show ((0 : Int)).toNat = 0 from rfl] at hw106_0)
              (try rw [show 0 * 1 = 0 from rfl] at hw106_0)
              (try rw [Addr.add_zero'] at hw106_0)
              obtain rfl : ad101 = ad106 := (by injection e106)
              have qi106 : (0 < l0.length) = True := eq_true (by omega)
              (try rw [show ((0 : Int)).toNat = 0 from rfl] at hx106_0)
              (try rw [Addr.add_zero'] at hx106_0)
              replace hx106_0 := (HB.out.cell (World.block_lt_of_cell? w _ hx106_0)).trans hx106_0
              replace p106 := eq_true p106
              replace q106 := eq_true q106
              have p107 : 0 ≤ (0 : Int) := (by omega)
              have q107 : 0 < (l1.length : Int) := of_decide_eq_true (by first | (with_reducible assumption) | assumption)
              obtain ⟨ad107, e107, hx107_0⟩ := Kd.at_int HR1.out 0 p107 q107
              have hw107_0 := hx107_0
              (try rw [show ((0 : Int)).toNat = 0 from rfl] at hw107_0)
              (try rw [show 0 * 1 = 0 from rfl] at hw107_0)
              (try rw [Addr.add_zero'] at hw107_0)
              obtain rfl : ad102 = ad107 := (by injection e107)
              have qi107 : (0 < l1.length) = True := eq_true (by omega)
              (try rw [show ((0 : Int)).toNat = 0 from rfl] at hx107_0)
              (try rw [Addr.add_zero'] at hx107_0)
              replace hx107_0 := (HB.out.cell (World.block_lt_of_cell? w _ hx107_0)).trans hx107_0
              replace p107 := eq_true p107
              replace q107 := eq_true q107
              refine start_ (n := 8) (S := fun w' => w'.cell? ad101 = some (.int .i64 (rd l0 0)) ∧ w'.cell? ad102 = some (.int .i64 (rd l1 0))) (ds := []) #[false, false, false, false, false, false, false, false] (by kernel_rfl) rfl rfl ⟨((HB.out.cell (World.block_lt_of_cell? w _ hw106_0)).trans hw106_0), ((HB.out.cell (World.block_lt_of_cell? w _ hw107_0)).trans hw107_0)⟩ (fun hHeld => ?_); refine with_tabW spinneyref19_Left.tab4 spinneyref19_Left.bits4 (fun HT_ HW_ => ?_)
              generalize w17.drew = w18 at HB hx106_0 hx107_0 hHeld ⊢
              refine pure_ (i := 0) (N := some 20) (v := ?_) (a' := ?_) #[true, false, false, false, false, false, false, false] rfl rfl (any_of HT_.out (by kernel_rfl)) (fun _ _ _ h => h) (Or.inl ⟨by rfl, ?_⟩) ?_ ?_
              rotate_left
              · intro w'
                go_simp
                with_reducible rfl
              rotate_left
              · simp only [Act.put, List.setIfInBounds_toArray, List.set_cons_zero, List.set_cons_succ, i64_w, i32_w]
                rfl
              refine pure_ (i := 1) (N := some 21) (v := ?_) (a' := ?_) #[true, true, false, false, false, false, false, false] rfl rfl (any_of HT_.out (by kernel_rfl)) (fun _ _ _ h => h) (Or.inl ⟨by rfl, ?_⟩) ?_ ?_
              rotate_left
              · intro w'
                go_simp
                with_reducible rfl
              rotate_left
              · simp only [Act.put, List.setIfInBounds_toArray, List.set_cons_zero, List.set_cons_succ, i64_w, i32_w]
                rfl
              refine pure_ (i := 3) (N := some 23) (v := ?_) (a' := ?_) #[true, true, false, true, false, false, false, false] rfl rfl (any_of HT_.out (by kernel_rfl)) (fun _ _ _ h => h) (Or.inl ⟨by rfl, ?_⟩) ?_ ?_
              rotate_left
              · intro w'
                go_simp
                with_reducible rfl
              rotate_left
              · simp only [Act.put, List.setIfInBounds_toArray, List.set_cons_zero, List.set_cons_succ, i64_w, i32_w]
                rfl
              refine pure_ (i := 4) (N := some 24) (v := ?_) (a' := ?_) #[true, true, false, true, true, false, false, false] rfl rfl (any_of HT_.out (by kernel_rfl)) (fun _ _ _ h => h) (Or.inl ⟨by rfl, ?_⟩) ?_ ?_
              rotate_left
              · intro w'
                go_simp
                with_reducible rfl
              rotate_left
              · simp only [Act.put, List.setIfInBounds_toArray, List.set_cons_zero, List.set_cons_succ, i64_w, i32_w]
                rfl
              refine take_ (i := 2) (N := some 22) (v := ?_) (a' := ?_) #[true, true, true, true, true, false, false, false] rfl rfl (take_ofW HT_.out HW_.out (by kernel_rfl)) (fun _ _ _ h => h) (Or.inl ⟨by rfl, ?_⟩) hHeld ?_ ?_
              rotate_left
              · rintro w' ⟨s0, s1⟩
                go_simp
                with_reducible rfl
              rotate_left
              · simp only [Act.put, List.setIfInBounds_toArray, List.set_cons_zero, List.set_cons_succ, i64_w, i32_w]
                rfl
              refine take_ (i := 5) (N := some 25) (v := ?_) (a' := ?_) #[true, true, true, true, true, true, false, false] rfl rfl (take_ofW HT_.out HW_.out (by kernel_rfl)) (fun _ _ _ h => h) (Or.inl ⟨by rfl, ?_⟩) hHeld ?_ ?_
              rotate_left
              · rintro w' ⟨s0, s1⟩
                go_simp
                with_reducible rfl
              rotate_left
              · simp only [Act.put, List.setIfInBounds_toArray, List.set_cons_zero, List.set_cons_succ, i64_w, i32_w]
                rfl
              refine pure_ (i := 6) (N := some 26) (v := ?_) (a' := ?_) #[true, true, true, true, true, true, true, false] rfl rfl (any_of HT_.out (by kernel_rfl)) (fun _ _ _ h => h) (Or.inl ⟨by rfl, ?_⟩) ?_ ?_
              rotate_left
              · intro w'
                go_simp
                with_reducible rfl
              rotate_left
              · simp only [Act.put, List.setIfInBounds_toArray, List.set_cons_zero, List.set_cons_succ, i64_w, i32_w]
                rfl
              refine pure_ (i := 7) (N := some 4) (v := ?_) (a' := ?_) #[true, true, true, true, true, true, true, true] rfl rfl (any_of HT_.out (by kernel_rfl)) (fun _ _ _ h => h) (Or.inl ⟨by rfl, ?_⟩) ?_ ?_
              rotate_left
              · intro w'
                go_simp
                with_reducible rfl
              rotate_left
              · simp only [Act.put, List.setIfInBounds_toArray, List.set_cons_zero, List.set_cons_succ, i64_w, i32_w]
                rfl
              refine done_ (done_of HT_.out (by kernel_rfl)) ?_
              try go_wp2
              go_ret
              exact ⟨by first | rfl | (simp [errW_none, errW_some] <;> rfl) | (simp [*, errW_none, errW_some] <;> rfl), by repeat (first | (with_reducible first | exact HB.out | apply below_alloc | apply pw_below_drewN | apply below_drew1) | exact HB.out)⟩
          · rw [if_neg c7] at H
            exact absurd H (by simp)
        · rw [if_neg c6] at H
          exact absurd H (by simp)

end Go.Proofs.Ytlapiebnmbbemaa.A
end
section
-- Written by my drive.py over the kit's print program. Not trusted: Lean checks it.
namespace Go.Proofs.Ytlapiebnmbbemaa.A
open Go.RowKit Go.Proofs.YtlapiebnmbbemaaW.PrintWords Go.Proofs.YtlapiebnmbbemaaW.PrintLast Go.Proofs.YtlapiebnmbbemaaW.PrintMore
attribute [local go_sem] max2_int min2_int max_two min_two max_three min_three max_four min_four   -- for this text's walks alone
set_option linter.unusedVariables false
set_option linter.unusedSimpArgs false

/-! ### spinneyref19_Under: function 62 -/
def spinneyref19_Under.f : Nat → List Int → List Int → Option (Bool)
  | 0, _, _ => none
  | k + 1, l0, l1 => if (l1.length : Int) = 0 then (some true) else (if (l0.length : Int) > 0 then (if 0 < (l0.length : Int) then (if 0 < (l1.length : Int) then (if (rd l0 0) = (rd l1 0) then (if 1 ≤ (l0.length : Int) then (if 1 ≤ (l1.length : Int) then ((spinneyref19_Under.f k (l0.drop 1) (l1.drop 1)).bind fun t105 => (some t105)) else (none)) else (none)) else (some false)) else (none)) else (none)) else (some false))
theorem spinneyref19_Under.mono_l : ∀ k, (∀ y0 y1, LeO (spinneyref19_Under.f k y0 y1) (spinneyref19_Under.f (k + 1) y0 y1))
  | 0 => fun _ _ r h => by simp [spinneyref19_Under.f] at h
  | k + 1 => by
    have ih0 := spinneyref19_Under.mono_l k
    · intro y0 y1
      unfold spinneyref19_Under.f
      repeat' first
      | (with_reducible exact ih0 _ _)
      | (with_reducible exact LeO.refl _)
      | (with_reducible exact LeO.none _)
      | (with_reducible refine LeO.ite ?_ ?_)
      | (with_reducible refine LeO.bind ?_ (fun _ => ?_))
      | exact ih0 _ _
      | exact LeO.none _
      | refine LeO.ite ?_ ?_
      | refine LeO.bind ?_ (fun _ => ?_)
theorem spinneyref19_Under.mono : ∀ a0 a1 k, LeO (spinneyref19_Under.f k a0 a1) (spinneyref19_Under.f (k + 1) a0 a1) := by
  intro a0 a1 k
  have ih0 := spinneyref19_Under.mono_l k
  exact ih0 a0 a1
def spinneyref19_Under.T3 : Bool × List (List Nat × List Nat) := (true, [([], []), ([0], [0]), ([1], [1]), ([2], [2]), ([3], [3]), ([4, 3], [3, 4]), ([5, 3], [3, 5]), ([3], [3]), ([7, 3], [3, 7]), ([8, 3], [3, 8]), ([6, 9, 3], [3, 6, 9]), ([3, 10], [3, 10]), ([11, 3], [11]), ([12], [12]), ([13, 12], [12, 13]), ([12], [12]), ([15, 12], [12, 15]), ([14, 16, 12, 12], [12, 14, 16]), ([12, 17], [12, 17]), ([18, 17, 0, 1, 2, 3, 4, 5, 6, 7, 8, 9, 10, 11, 12, 13, 14, 15, 16, 17, 18], [18])])
def spinneyref19_Under.B3 : List Nat := [0, 1, 3, 7, 15, 31, 63, 15, 143, 399, 1023, 2047, 4095, 8191, 16383, 8191, 40959, 131071, 262143, 524287]
theorem spinneyref19_Under.tab3 : rtab .any (opsOf Try.f62 3) = spinneyref19_Under.T3 := by kernel_rfl
theorem spinneyref19_Under.bits3 : waitsOk spinneyref19_Under.T3.2 spinneyref19_Under.B3 = true := by kernel_rfl
set_option maxHeartbeats 8000000 in
set_option maxRecDepth 100000 in
theorem spinneyref19_Under.calls (k : Nat) : ∀ (A0 : Option Addr) (c0 : Nat) (l0 : List Int) (A1 : Option Addr) (c1 : Nat) (l1 : List Int) (r : Bool) (w : World) (hr0 : Kd.C (Kd.int .i64) w A0 l0.length l0) (hc0 : l0.length ≤ c0) (hr1 : Kd.C (Kd.int .i64) w A1 l1.length l1) (hc1 : l1.length ≤ c1) (h : spinneyref19_Under.f k l0 l1 = some r),
    Calls Try.prog 62 #[.slice A0 l0.length c0, .slice A1 l1.length c1] w fun e w' => e = .returned (.bool r) ∧ Below w.heap.size w w' := by
  induction k using Nat.strongRecOn with
  | _ k ih =>
  intro A0 c0 l0 A1 c1 l1 r w hr0 hc0 hr1 hc1 h
  cases k with
  | zero => exact absurd h (by simp [spinneyref19_Under.f])
  | succ k =>
  simp only [spinneyref19_Under.f] at h
  have HR0 := Aside0.mk hr0
  have HC0 := Aside0.mk hc0
  clear hr0 hc0
  have HR1 := Aside0.mk hr1
  have HC1 := Aside0.mk hc1
  clear hr1 hc1
  have HB := Aside0.mk (Below.refl w.heap.size w)
  have H : (if (l1.length : Int) = 0 then (some true) else (if (l0.length : Int) > 0 then (if 0 < (l0.length : Int) then (if 0 < (l1.length : Int) then (if (rd l0 0) = (rd l1 0) then (if 1 ≤ (l0.length : Int) then (if 1 ≤ (l1.length : Int) then ((spinneyref19_Under.f k (l0.drop 1) (l1.drop 1)).bind fun t105 => (some t105)) else (none)) else (none)) else (some false)) else (none)) else (none)) else (some false))) = some r := h
  clear h
  by_cases c3 : (l1.length : Int) = 0
  · rw [if_pos c3] at H
    have c3b0 : ((l1.length : Int) == 0) = true := beq_iff_eq.mpr c3
    have c3b1 : ((l1.length : Int) != 0) = false := bne_eq_false_iff_eq.mpr c3
    clear c3
    obtain rfl := Option.some.inj H
    go_enter Try.func62, Try.ntmps62
    go_wp2
    go_ret
    exact ⟨by first | rfl | (simp [errW_none, errW_some] <;> rfl) | (simp [*, errW_none, errW_some] <;> rfl), by repeat (first | (with_reducible first | exact HB.out | apply below_alloc | apply pw_below_drewN | apply below_drew1) | exact HB.out)⟩
  · rw [if_neg c3] at H
    have c3b0 : ((l1.length : Int) == 0) = false := beq_eq_false_iff_ne.mpr c3
    have c3b1 : ((l1.length : Int) != 0) = true := bne_iff_ne.mpr c3
    have c3b2 : ¬ (l1 = []) := fun h_ => c3 (by rw [h_]; rfl)
    by_cases c4 : (l0.length : Int) > 0
    · rw [if_pos c4] at H
      have c4b0 : decide (0 < (l0.length : Int)) = true := decide_eq_true c4
      have c4b1 : decide (0 < l0.length) = true := decide_eq_true (by omega)
      clear c4
      by_cases c5 : 0 < (l0.length : Int)
      · rw [if_pos c5] at H
        have c5b0 : decide (0 < (l0.length : Int)) = true := decide_eq_true c5
        have c5b1 : decide (0 < l0.length) = true := decide_eq_true (by omega)
        clear c5
        by_cases c6 : 0 < (l1.length : Int)
        · rw [if_pos c6] at H
          have c6b0 : decide (0 < (l1.length : Int)) = true := decide_eq_true c6
          have c6b1 : decide (0 < l1.length) = true := decide_eq_true (by omega)
          clear c6
          by_cases c7 : (rd l0 0) = (rd l1 0)
          · rw [if_pos c7] at H
            have c7b0 : ((rd l0 0) == (rd l1 0)) = true := beq_iff_eq.mpr c7
            have c7b1 : ((rd l0 0) != (rd l1 0)) = false := bne_eq_false_iff_eq.mpr c7
            clear c7
            by_cases c8 : 1 ≤ (l0.length : Int)
            · rw [if_pos c8] at H
              have c8b0 := eq_true c8
              have c8b1 : decide (1 ≤ (l0.length : Int)) = true := decide_eq_true c8
              clear c8
              by_cases c9 : 1 ≤ (l1.length : Int)
              · rw [if_pos c9] at H
                have c9b0 := eq_true c9
                have c9b1 : decide (1 ≤ (l1.length : Int)) = true := decide_eq_true c9
                clear c9
                replace H := Option.bind_eq_some_iff.mp H
                obtain ⟨t105, A100, H⟩ := H
                replace H : (some t105) = some r := H
                have A10 := Aside0.mk A100
                clear A100
                obtain rfl := Option.some.inj H
                go_enter Try.func62, Try.ntmps62
                try go_wp2
                have n0_ := Aside0.mk (below_drew1 HB.out)
                clear HB
                have HB := n0_
                clear n0_
                have p101 : 0 ≤ (0 : Int) := (by omega)
                have q101 : 0 < (l0.length : Int) := of_decide_eq_true (by first | (with_reducible assumption) | assumption)
                obtain ⟨ad101, e101, hx101_0⟩ := Kd.at_int HR0.out 0 p101 q101
                have hw101_0 := hx101_0
                (try rw [show ((0 : Int)).toNat = 0 from rfl] at hw101_0)
                (try rw [show 0 * 1 = 0 from rfl] at hw101_0)
                (try rw [Addr.add_zero'] at hw101_0)
                cases e101
                have qi101 : (0 < l0.length) = True := eq_true (by omega)
                (try rw [show ((0 : Int)).toNat = 0 from rfl] at hx101_0)
                (try rw [Addr.add_zero'] at hx101_0)
                replace hx101_0 := (HB.out.cell (World.block_lt_of_cell? w _ hx101_0)).trans hx101_0
                replace p101 := eq_true p101
                replace q101 := eq_true q101
                have p102 : 0 ≤ (0 : Int) := (by omega)
                have q102 : 0 < (l1.length : Int) := of_decide_eq_true (by first | (with_reducible assumption) | assumption)
                obtain ⟨ad102, e102, hx102_0⟩ := Kd.at_int HR1.out 0 p102 q102
                have hw102_0 := hx102_0
                (try rw [show ((0 : Int)).toNat = 0 from rfl] at hw102_0)
                (try rw [show 0 * 1 = 0 from rfl] at hw102_0)
                (try rw [Addr.add_zero'] at hw102_0)
                cases e102
                have qi102 : (0 < l1.length) = True := eq_true (by omega)
                (try rw [show ((0 : Int)).toNat = 0 from rfl] at hx102_0)
                (try rw [Addr.add_zero'] at hx102_0)
                replace hx102_0 := (HB.out.cell (World.block_lt_of_cell? w _ hx102_0)).trans hx102_0
                replace p102 := eq_true p102
                replace q102 := eq_true q102
                obtain ⟨i012, hi012, _, hsz12, _⟩ := info_parts info3
                obtain ⟨A12, hcut12, hA12, hC12⟩ := print_drop_of (P := Try.prog) (Value.int .i64) 0 23 3 .i64 Try.underlying23 hi012 hsz12 (some ad101) c0 l0 1 (by omega) (of_decide_eq_true (by first | (with_reducible assumption) | assumption)) HC0.out
                have HR103 := Aside0.mk (Kd.C_of_reads (h1 := fun _ => rfl) (hA12 _ (Kd.reads_of_C HR0.out)))
                have HC103 := Aside0.mk hC12
                clear hA12 hC12 hi012 hsz12
                obtain ⟨i013, hi013, _, hsz13, _⟩ := info_parts info3
                obtain ⟨A13, hcut13, hA13, hC13⟩ := print_drop_of (P := Try.prog) (Value.int .i64) 0 23 3 .i64 Try.underlying23 hi013 hsz13 (some ad102) c1 l1 1 (by omega) (of_decide_eq_true (by first | (with_reducible assumption) | assumption)) HC1.out
                have HR104 := Aside0.mk (Kd.C_of_reads (h1 := fun _ => rfl) (hA13 _ (Kd.reads_of_C HR1.out)))
                have HC104 := Aside0.mk hC13
                clear hA13 hC13 hi013 hsz13
                refine start_ (n := 20) (S := fun w' => w'.cell? ad101 = some (.int .i64 (rd l0 0)) ∧ w'.cell? ad102 = some (.int .i64 (rd l1 0))) (ds := []) #[false, false, false, false, false, false, false, false, false, false, false, false, false, false, false, false, false, false, false, false] (by kernel_rfl) rfl rfl ⟨((HB.out.cell (World.block_lt_of_cell? w _ hw101_0)).trans hw101_0), ((HB.out.cell (World.block_lt_of_cell? w _ hw102_0)).trans hw102_0)⟩ (fun hHeld => ?_); refine with_tabW spinneyref19_Under.tab3 spinneyref19_Under.bits3 (fun HT_ HW_ => ?_)
                generalize w.drew = w11 at HB HR103 HR104 hx101_0 hx102_0 hHeld ⊢
                refine pure_ (i := 0) (N := some 8) (v := ?_) (a' := ?_) #[true, false, false, false, false, false, false, false, false, false, false, false, false, false, false, false, false, false, false, false] rfl rfl (any_of HT_.out (by kernel_rfl)) (fun _ _ _ h => h) (Or.inl ⟨by rfl, ?_⟩) ?_ ?_
                rotate_left
                · intro w'
                  go_simp
                  with_reducible rfl
                rotate_left
                · simp only [Act.put, List.setIfInBounds_toArray, List.set_cons_zero, List.set_cons_succ, i64_w, i32_w]
                  rfl
                refine pure_ (i := 1) (N := some 9) (v := ?_) (a' := ?_) #[true, true, false, false, false, false, false, false, false, false, false, false, false, false, false, false, false, false, false, false] rfl rfl (any_of HT_.out (by kernel_rfl)) (fun _ _ _ h => h) (Or.inl ⟨by rfl, ?_⟩) ?_ ?_
                rotate_left
                · intro w'
                  go_simp
                  with_reducible rfl
                rotate_left
                · simp only [Act.put, List.setIfInBounds_toArray, List.set_cons_zero, List.set_cons_succ, i64_w, i32_w]
                  rfl
                refine pure_ (i := 2) (N := some 10) (v := ?_) (a' := ?_) #[true, true, true, false, false, false, false, false, false, false, false, false, false, false, false, false, false, false, false, false] rfl rfl (any_of HT_.out (by kernel_rfl)) (fun _ _ _ h => h) (Or.inl ⟨by rfl, ?_⟩) ?_ ?_
                rotate_left
                · intro w'
                  go_simp
                  with_reducible rfl
                rotate_left
                · simp only [Act.put, List.setIfInBounds_toArray, List.set_cons_zero, List.set_cons_succ, i64_w, i32_w]
                  rfl
                refine pure_ (i := 3) (N := some 11) (v := ?_) (a' := ?_) #[true, true, true, true, false, false, false, false, false, false, false, false, false, false, false, false, false, false, false, false] rfl rfl (any_of HT_.out (by kernel_rfl)) (fun _ _ _ h => h) (Or.inl ⟨by rfl, ?_⟩) ?_ ?_
                rotate_left
                · intro w'
                  go_simp
                  with_reducible rfl
                rotate_left
                · simp only [Act.put, List.setIfInBounds_toArray, List.set_cons_zero, List.set_cons_succ, i64_w, i32_w]
                  rfl
                refine pure_ (i := 4) (N := some 12) (v := ?_) (a' := ?_) #[true, true, true, true, true, false, false, false, false, false, false, false, false, false, false, false, false, false, false, false] rfl rfl (any_of HT_.out (by kernel_rfl)) (fun _ _ _ h => h) (Or.inl ⟨by rfl, ?_⟩) ?_ ?_
                rotate_left
                · intro w'
                  go_simp
                  with_reducible rfl
                rotate_left
                · simp only [Act.put, List.setIfInBounds_toArray, List.set_cons_zero, List.set_cons_succ, i64_w, i32_w]
                  rfl
                refine pure_ (i := 5) (N := some 13) (v := ?_) (a' := ?_) #[true, true, true, true, true, true, false, false, false, false, false, false, false, false, false, false, false, false, false, false] rfl rfl (any_of HT_.out (by kernel_rfl)) (fun _ _ _ h => h) (Or.inl ⟨by rfl, ?_⟩) ?_ ?_
                rotate_left
                · intro w'
                  go_simp
                  with_reducible rfl
                rotate_left
                · simp only [Act.put, List.setIfInBounds_toArray, List.set_cons_zero, List.set_cons_succ, i64_w, i32_w]
                  rfl
                refine pure_ (i := 7) (N := some 15) (v := ?_) (a' := ?_) #[true, true, true, true, true, true, false, true, false, false, false, false, false, false, false, false, false, false, false, false] rfl rfl (any_of HT_.out (by kernel_rfl)) (fun _ _ _ h => h) (Or.inl ⟨by rfl, ?_⟩) ?_ ?_
                rotate_left
                · intro w'
                  go_simp
                  with_reducible rfl
                rotate_left
                · simp only [Act.put, List.setIfInBounds_toArray, List.set_cons_zero, List.set_cons_succ, i64_w, i32_w]
                  rfl
                refine pure_ (i := 8) (N := some 16) (v := ?_) (a' := ?_) #[true, true, true, true, true, true, false, true, true, false, false, false, false, false, false, false, false, false, false, false] rfl rfl (any_of HT_.out (by kernel_rfl)) (fun _ _ _ h => h) (Or.inl ⟨by rfl, ?_⟩) ?_ ?_
                rotate_left
                · intro w'
                  go_simp
                  with_reducible rfl
                rotate_left
                · simp only [Act.put, List.setIfInBounds_toArray, List.set_cons_zero, List.set_cons_succ, i64_w, i32_w]
                  rfl
                refine take_ (i := 6) (N := some 14) (v := ?_) (a' := ?_) #[true, true, true, true, true, true, true, true, true, false, false, false, false, false, false, false, false, false, false, false] rfl rfl (take_ofW HT_.out HW_.out (by kernel_rfl)) (fun _ _ _ h => h) (Or.inl ⟨by rfl, ?_⟩) hHeld ?_ ?_
                rotate_left
                · rintro w' ⟨s0, s1⟩
                  go_simp
                  with_reducible rfl
                rotate_left
                · simp only [Act.put, List.setIfInBounds_toArray, List.set_cons_zero, List.set_cons_succ, i64_w, i32_w]
                  rfl
                refine take_ (i := 9) (N := some 17) (v := ?_) (a' := ?_) #[true, true, true, true, true, true, true, true, true, true, false, false, false, false, false, false, false, false, false, false] rfl rfl (take_ofW HT_.out HW_.out (by kernel_rfl)) (fun _ _ _ h => h) (Or.inl ⟨by rfl, ?_⟩) hHeld ?_ ?_
                rotate_left
                · rintro w' ⟨s0, s1⟩
                  go_simp
                  with_reducible rfl
                rotate_left
                · simp only [Act.put, List.setIfInBounds_toArray, List.set_cons_zero, List.set_cons_succ, i64_w, i32_w]
                  rfl
                refine pure_ (i := 10) (N := some 18) (v := ?_) (a' := ?_) #[true, true, true, true, true, true, true, true, true, true, true, false, false, false, false, false, false, false, false, false] rfl rfl (any_of HT_.out (by kernel_rfl)) (fun _ _ _ h => h) (Or.inl ⟨by rfl, ?_⟩) ?_ ?_
                rotate_left
                · intro w'
                  go_simp
                  with_reducible rfl
                rotate_left
                · simp only [Act.put, List.setIfInBounds_toArray, List.set_cons_zero, List.set_cons_succ, i64_w, i32_w]
                  rfl
                refine pure_ (i := 11) (N := some 19) (v := ?_) (a' := ?_) #[true, true, true, true, true, true, true, true, true, true, true, true, false, false, false, false, false, false, false, false] rfl rfl (any_of HT_.out (by kernel_rfl)) (fun _ _ _ h => h) (Or.inl ⟨by rfl, ?_⟩) ?_ ?_
                rotate_left
                · intro w'
                  go_simp
                  with_reducible rfl
                rotate_left
                · simp only [Act.put, List.setIfInBounds_toArray, List.set_cons_zero, List.set_cons_succ, i64_w, i32_w]
                  rfl
                refine pure_ (i := 12) (N := some 20) (v := ?_) (a' := ?_) #[true, true, true, true, true, true, true, true, true, true, true, true, true, false, false, false, false, false, false, false] rfl rfl (any_of HT_.out (by kernel_rfl)) (fun _ _ _ h => h) (Or.inl ⟨by rfl, ?_⟩) ?_ ?_
                rotate_left
                · intro w'
                  go_simp
                  with_reducible rfl
                rotate_left
                · simp only [Act.put, List.setIfInBounds_toArray, List.set_cons_zero, List.set_cons_succ, i64_w, i32_w]
                  rfl
                refine pure_ (i := 13) (N := some 21) (v := ?_) (a' := ?_) #[true, true, true, true, true, true, true, true, true, true, true, true, true, true, false, false, false, false, false, false] rfl rfl (any_of HT_.out (by kernel_rfl)) (fun _ _ _ h => h) (Or.inl ⟨by rfl, ?_⟩) ?_ ?_
                rotate_left
                · intro w'
                  go_simp
                  with_reducible rfl
                rotate_left
                · simp only [Act.put, List.setIfInBounds_toArray, List.set_cons_zero, List.set_cons_succ, i64_w, i32_w]
                  rfl
                refine pure_ (i := 14) (N := some 22) (v := ?_) (a' := ?_) #[true, true, true, true, true, true, true, true, true, true, true, true, true, true, true, false, false, false, false, false] rfl rfl (any_of HT_.out (by kernel_rfl)) (fun _ _ _ h => h) (Or.inl ⟨by rfl, ?_⟩) ?_ ?_
                rotate_left
                · intro w'
                  go_simp
                  with_reducible rfl
                rotate_left
                · simp only [Act.put, List.setIfInBounds_toArray, List.set_cons_zero, List.set_cons_succ, i64_w, i32_w]
                  rfl
                refine pure_ (i := 15) (N := some 23) (v := ?_) (a' := ?_) #[true, true, true, true, true, true, true, true, true, true, true, true, true, true, true, true, false, false, false, false] rfl rfl (any_of HT_.out (by kernel_rfl)) (fun _ _ _ h => h) (Or.inl ⟨by rfl, ?_⟩) ?_ ?_
                rotate_left
                · intro w'
                  go_simp
                  with_reducible rfl
                rotate_left
                · simp only [Act.put, List.setIfInBounds_toArray, List.set_cons_zero, List.set_cons_succ, i64_w, i32_w]
                  rfl
                refine pure_ (i := 16) (N := some 24) (v := ?_) (a' := ?_) #[true, true, true, true, true, true, true, true, true, true, true, true, true, true, true, true, true, false, false, false] rfl rfl (any_of HT_.out (by kernel_rfl)) (fun _ _ _ h => h) (Or.inl ⟨by rfl, ?_⟩) ?_ ?_
                rotate_left
                · intro w'
                  go_simp
                  with_reducible rfl
                rotate_left
                · simp only [Act.put, List.setIfInBounds_toArray, List.set_cons_zero, List.set_cons_succ, i64_w, i32_w]
                  rfl
                refine one_ (i := 17) (N := some 25) #[true, true, true, true, true, true, true, true, true, true, true, true, true, true, true, true, true, true, false, false] rfl rfl (one_of HT_.out (by kernel_rfl)) (by decide) (fun K hK => ?_)
                refine goes_ Try.func62 (by kernel_rfl) rfl #[.slice A12 (l0.drop 1).length (c0 - 1), .slice A13 (l1.drop 1).length (c1 - 1)] (by rfl) rfl rfl (by (try simp only [List.map_toArray, List.map_cons, List.map_nil]); first | done | (rw [show (l0.drop 1).length = (l0.length - 1) from List.length_drop] <;> rfl) | (rw [show (l1.drop 1).length = (l1.length - 1) from List.length_drop] <;> rfl) | rfl | (simp only [List.length_drop, List.length_take]; rfl)) ?_
                with_reducible refine (ih k (by omega) _ _ (l0.drop 1) _ _ (l1.drop 1) t105 _ ?side1 ?side2 ?side3 ?side4 A10.out).mono ?_
                (case side1 => repeat (first | exact (Kd.C_below HR103.out HB.out) | (with_reducible refine Kd.C_alloc ?_ _) | (with_reducible refine Kd.C_drewN ?_ _) | (with_reducible refine Kd.C_drew ?_)))
                (case side2 => exact HC103.out)
                (case side3 => repeat (first | exact (Kd.C_below HR104.out HB.out) | (with_reducible refine Kd.C_alloc ?_ _) | (with_reducible refine Kd.C_drewN ?_ _) | (with_reducible refine Kd.C_drew ?_)))
                (case side4 => exact HC104.out)
                rintro e w14 ⟨rfl, hb⟩
                refine ⟨_, rfl, ?_⟩
                have n0_ := Aside0.mk (below_step (by repeat (first | (with_reducible first | exact HB.out | apply below_alloc | apply pw_below_drewN | apply below_drew1) | exact HB.out)) hb)
                clear HB
                have HB := n0_
                clear n0_
                (try clear hb)
                (try clear hb2)
                (try clear hk)
                (try clear hi)
                refine hK.out _ _ ⟨((HB.out.cell (World.block_lt_of_cell? w _ hw101_0)).trans hw101_0), ((HB.out.cell (World.block_lt_of_cell? w _ hw102_0)).trans hw102_0)⟩ (fun hHeld => ?_)
                clear hK K
                refine norm_ (a' := ?_) ?_ ?_
                rotate_left
                · show Act.put _ (some 25) _ = _
                  simp only [Act.put, List.setIfInBounds_toArray, List.set_cons_zero, List.set_cons_succ, i64_w, i32_w]
                  rfl
                refine pure_ (i := 18) (N := some 26) (v := ?_) (a' := ?_) #[true, true, true, true, true, true, true, true, true, true, true, true, true, true, true, true, true, true, true, false] rfl rfl (any_of HT_.out (by kernel_rfl)) (fun _ _ _ h => h) (Or.inl ⟨by rfl, ?_⟩) ?_ ?_
                rotate_left
                · intro w'
                  go_simp
                  with_reducible rfl
                rotate_left
                · simp only [Act.put, List.setIfInBounds_toArray, List.set_cons_zero, List.set_cons_succ, i64_w, i32_w]
                  rfl
                refine pure_ (i := 19) (N := some 4) (v := ?_) (a' := ?_) #[true, true, true, true, true, true, true, true, true, true, true, true, true, true, true, true, true, true, true, true] rfl rfl (any_of HT_.out (by kernel_rfl)) (fun _ _ _ h => h) (Or.inl ⟨by rfl, ?_⟩) ?_ ?_
                rotate_left
                · intro w'
                  go_simp
                  with_reducible rfl
                rotate_left
                · simp only [Act.put, List.setIfInBounds_toArray, List.set_cons_zero, List.set_cons_succ, i64_w, i32_w]
                  rfl
                refine done_ (done_of HT_.out (by kernel_rfl)) ?_
                try go_wp2
                go_ret
                exact ⟨by first | rfl | (simp [errW_none, errW_some] <;> rfl) | (simp [*, errW_none, errW_some] <;> rfl), by repeat (first | (with_reducible first | exact HB.out | apply below_alloc | apply pw_below_drewN | apply below_drew1) | exact HB.out)⟩
              · rw [if_neg c9] at H
                exact absurd H (by simp)
            · rw [if_neg c8] at H
              exact absurd H (by simp)
          · rw [if_neg c7] at H
            have c7b0 : ((rd l0 0) == (rd l1 0)) = false := beq_eq_false_iff_ne.mpr c7
            have c7b1 : ((rd l0 0) != (rd l1 0)) = true := bne_iff_ne.mpr c7
            obtain rfl := Option.some.inj H
            go_enter Try.func62, Try.ntmps62
            try go_wp2
            have n0_ := Aside0.mk (below_drew1 HB.out)
            clear HB
            have HB := n0_
            clear n0_
            have p101 : 0 ≤ (0 : Int) := (by omega)
            have q101 : 0 < (l0.length : Int) := of_decide_eq_true (by first | (with_reducible assumption) | assumption)
            obtain ⟨ad101, e101, hx101_0⟩ := Kd.at_int HR0.out 0 p101 q101
            have hw101_0 := hx101_0
            (try rw [show ((0 : Int)).toNat = 0 from rfl] at hw101_0)
            (try rw [show 0 * 1 = 0 from rfl] at hw101_0)
            (try rw [Addr.add_zero'] at hw101_0)
            cases e101
            have qi101 : (0 < l0.length) = True := eq_true (by omega)
            (try rw [show ((0 : Int)).toNat = 0 from rfl] at hx101_0)
            (try rw [Addr.add_zero'] at hx101_0)
            replace hx101_0 := (HB.out.cell (World.block_lt_of_cell? w _ hx101_0)).trans hx101_0
            replace p101 := eq_true p101
            replace q101 := eq_true q101
            have p102 : 0 ≤ (0 : Int) := (by omega)
            have q102 : 0 < (l1.length : Int) := of_decide_eq_true (by first | (with_reducible assumption) | assumption)
            obtain ⟨ad102, e102, hx102_0⟩ := Kd.at_int HR1.out 0 p102 q102
            have hw102_0 := hx102_0
            (try rw [show ((0 : Int)).toNat = 0 from rfl] at hw102_0)
            (try rw [show 0 * 1 = 0 from rfl] at hw102_0)
            (try rw [Addr.add_zero'] at hw102_0)
            cases e102
            have qi102 : (0 < l1.length) = True := eq_true (by omega)
            (try rw [show ((0 : Int)).toNat = 0 from rfl] at hx102_0)
            (try rw [Addr.add_zero'] at hx102_0)
            replace hx102_0 := (HB.out.cell (World.block_lt_of_cell? w _ hx102_0)).trans hx102_0
            replace p102 := eq_true p102
            replace q102 := eq_true q102
            refine start_ (n := 20) (S := fun w' => w'.cell? ad101 = some (.int .i64 (rd l0 0)) ∧ w'.cell? ad102 = some (.int .i64 (rd l1 0))) (ds := []) #[false, false, false, false, false, false, false, false, false, false, false, false, false, false, false, false, false, false, false, false] (by kernel_rfl) rfl rfl ⟨((HB.out.cell (World.block_lt_of_cell? w _ hw101_0)).trans hw101_0), ((HB.out.cell (World.block_lt_of_cell? w _ hw102_0)).trans hw102_0)⟩ (fun hHeld => ?_); refine with_tabW spinneyref19_Under.tab3 spinneyref19_Under.bits3 (fun HT_ HW_ => ?_)
            generalize w.drew = w15 at HB hx101_0 hx102_0 hHeld ⊢
            refine pure_ (i := 0) (N := some 8) (v := ?_) (a' := ?_) #[true, false, false, false, false, false, false, false, false, false, false, false, false, false, false, false, false, false, false, false] rfl rfl (any_of HT_.out (by kernel_rfl)) (fun _ _ _ h => h) (Or.inl ⟨by rfl, ?_⟩) ?_ ?_
            rotate_left
            · intro w'
              go_simp
              with_reducible rfl
            rotate_left
            · simp only [Act.put, List.setIfInBounds_toArray, List.set_cons_zero, List.set_cons_succ, i64_w, i32_w]
              rfl
            refine pure_ (i := 1) (N := some 9) (v := ?_) (a' := ?_) #[true, true, false, false, false, false, false, false, false, false, false, false, false, false, false, false, false, false, false, false] rfl rfl (any_of HT_.out (by kernel_rfl)) (fun _ _ _ h => h) (Or.inl ⟨by rfl, ?_⟩) ?_ ?_
            rotate_left
            · intro w'
              go_simp
              with_reducible rfl
            rotate_left
            · simp only [Act.put, List.setIfInBounds_toArray, List.set_cons_zero, List.set_cons_succ, i64_w, i32_w]
              rfl
            refine pure_ (i := 2) (N := some 10) (v := ?_) (a' := ?_) #[true, true, true, false, false, false, false, false, false, false, false, false, false, false, false, false, false, false, false, false] rfl rfl (any_of HT_.out (by kernel_rfl)) (fun _ _ _ h => h) (Or.inl ⟨by rfl, ?_⟩) ?_ ?_
            rotate_left
            · intro w'
              go_simp
              with_reducible rfl
            rotate_left
            · simp only [Act.put, List.setIfInBounds_toArray, List.set_cons_zero, List.set_cons_succ, i64_w, i32_w]
              rfl
            refine pure_ (i := 3) (N := some 11) (v := ?_) (a' := ?_) #[true, true, true, true, false, false, false, false, false, false, false, false, false, false, false, false, false, false, false, false] rfl rfl (any_of HT_.out (by kernel_rfl)) (fun _ _ _ h => h) (Or.inl ⟨by rfl, ?_⟩) ?_ ?_
            rotate_left
            · intro w'
              go_simp
              with_reducible rfl
            rotate_left
            · simp only [Act.put, List.setIfInBounds_toArray, List.set_cons_zero, List.set_cons_succ, i64_w, i32_w]
              rfl
            refine pure_ (i := 4) (N := some 12) (v := ?_) (a' := ?_) #[true, true, true, true, true, false, false, false, false, false, false, false, false, false, false, false, false, false, false, false] rfl rfl (any_of HT_.out (by kernel_rfl)) (fun _ _ _ h => h) (Or.inl ⟨by rfl, ?_⟩) ?_ ?_
            rotate_left
            · intro w'
              go_simp
              with_reducible rfl
            rotate_left
            · simp only [Act.put, List.setIfInBounds_toArray, List.set_cons_zero, List.set_cons_succ, i64_w, i32_w]
              rfl
            refine pure_ (i := 5) (N := some 13) (v := ?_) (a' := ?_) #[true, true, true, true, true, true, false, false, false, false, false, false, false, false, false, false, false, false, false, false] rfl rfl (any_of HT_.out (by kernel_rfl)) (fun _ _ _ h => h) (Or.inl ⟨by rfl, ?_⟩) ?_ ?_
            rotate_left
            · intro w'
              go_simp
              with_reducible rfl
            rotate_left
            · simp only [Act.put, List.setIfInBounds_toArray, List.set_cons_zero, List.set_cons_succ, i64_w, i32_w]
              rfl
            refine pure_ (i := 7) (N := some 15) (v := ?_) (a' := ?_) #[true, true, true, true, true, true, false, true, false, false, false, false, false, false, false, false, false, false, false, false] rfl rfl (any_of HT_.out (by kernel_rfl)) (fun _ _ _ h => h) (Or.inl ⟨by rfl, ?_⟩) ?_ ?_
            rotate_left
            · intro w'
              go_simp
              with_reducible rfl
            rotate_left
            · simp only [Act.put, List.setIfInBounds_toArray, List.set_cons_zero, List.set_cons_succ, i64_w, i32_w]
              rfl
            refine pure_ (i := 8) (N := some 16) (v := ?_) (a' := ?_) #[true, true, true, true, true, true, false, true, true, false, false, false, false, false, false, false, false, false, false, false] rfl rfl (any_of HT_.out (by kernel_rfl)) (fun _ _ _ h => h) (Or.inl ⟨by rfl, ?_⟩) ?_ ?_
            rotate_left
            · intro w'
              go_simp
              with_reducible rfl
            rotate_left
            · simp only [Act.put, List.setIfInBounds_toArray, List.set_cons_zero, List.set_cons_succ, i64_w, i32_w]
              rfl
            refine take_ (i := 6) (N := some 14) (v := ?_) (a' := ?_) #[true, true, true, true, true, true, true, true, true, false, false, false, false, false, false, false, false, false, false, false] rfl rfl (take_ofW HT_.out HW_.out (by kernel_rfl)) (fun _ _ _ h => h) (Or.inl ⟨by rfl, ?_⟩) hHeld ?_ ?_
            rotate_left
            · rintro w' ⟨s0, s1⟩
              go_simp
              with_reducible rfl
            rotate_left
            · simp only [Act.put, List.setIfInBounds_toArray, List.set_cons_zero, List.set_cons_succ, i64_w, i32_w]
              rfl
            refine take_ (i := 9) (N := some 17) (v := ?_) (a' := ?_) #[true, true, true, true, true, true, true, true, true, true, false, false, false, false, false, false, false, false, false, false] rfl rfl (take_ofW HT_.out HW_.out (by kernel_rfl)) (fun _ _ _ h => h) (Or.inl ⟨by rfl, ?_⟩) hHeld ?_ ?_
            rotate_left
            · rintro w' ⟨s0, s1⟩
              go_simp
              with_reducible rfl
            rotate_left
            · simp only [Act.put, List.setIfInBounds_toArray, List.set_cons_zero, List.set_cons_succ, i64_w, i32_w]
              rfl
            refine pure_ (i := 10) (N := some 18) (v := ?_) (a' := ?_) #[true, true, true, true, true, true, true, true, true, true, true, false, false, false, false, false, false, false, false, false] rfl rfl (any_of HT_.out (by kernel_rfl)) (fun _ _ _ h => h) (Or.inl ⟨by rfl, ?_⟩) ?_ ?_
            rotate_left
            · intro w'
              go_simp
              with_reducible rfl
            rotate_left
            · simp only [Act.put, List.setIfInBounds_toArray, List.set_cons_zero, List.set_cons_succ, i64_w, i32_w]
              rfl
            refine pure_ (i := 11) (N := some 19) (v := ?_) (a' := ?_) #[true, true, true, true, true, true, true, true, true, true, true, true, false, false, false, false, false, false, false, false] rfl rfl (any_of HT_.out (by kernel_rfl)) (fun _ _ _ h => h) (Or.inl ⟨by rfl, ?_⟩) ?_ ?_
            rotate_left
            · intro w'
              go_simp
              with_reducible rfl
            rotate_left
            · simp only [Act.put, List.setIfInBounds_toArray, List.set_cons_zero, List.set_cons_succ, i64_w, i32_w]
              rfl
            refine pure_ (i := 12) (N := some 20) (v := ?_) (a' := ?_) #[true, true, true, true, true, true, true, true, true, true, true, true, true, false, false, false, false, false, false, false] rfl rfl (any_of HT_.out (by kernel_rfl)) (fun _ _ _ h => h) (Or.inl ⟨by rfl, ?_⟩) ?_ ?_
            rotate_left
            · intro w'
              go_simp
              with_reducible rfl
            rotate_left
            · simp only [Act.put, List.setIfInBounds_toArray, List.set_cons_zero, List.set_cons_succ, i64_w, i32_w]
              rfl
            refine pure_ (i := 13) (N := some 21) (v := undef) (a' := ?_) #[true, true, true, true, true, true, true, true, true, true, true, true, true, true, false, false, false, false, false, false] rfl rfl (any_of HT_.out (by kernel_rfl)) (fun _ _ _ h => h) (Or.inr ⟨by rfl, rfl⟩) ?_ ?_
            rotate_left
            · simp only [Act.put, List.setIfInBounds_toArray, List.set_cons_zero, List.set_cons_succ, i64_w, i32_w]
              rfl
            refine pure_ (i := 14) (N := some 22) (v := undef) (a' := ?_) #[true, true, true, true, true, true, true, true, true, true, true, true, true, true, true, false, false, false, false, false] rfl rfl (any_of HT_.out (by kernel_rfl)) (fun _ _ _ h => h) (Or.inr ⟨by rfl, rfl⟩) ?_ ?_
            rotate_left
            · simp only [Act.put, List.setIfInBounds_toArray, List.set_cons_zero, List.set_cons_succ, i64_w, i32_w]
              rfl
            refine pure_ (i := 15) (N := some 23) (v := undef) (a' := ?_) #[true, true, true, true, true, true, true, true, true, true, true, true, true, true, true, true, false, false, false, false] rfl rfl (any_of HT_.out (by kernel_rfl)) (fun _ _ _ h => h) (Or.inr ⟨by rfl, rfl⟩) ?_ ?_
            rotate_left
            · simp only [Act.put, List.setIfInBounds_toArray, List.set_cons_zero, List.set_cons_succ, i64_w, i32_w]
              rfl
            refine pure_ (i := 16) (N := some 24) (v := undef) (a' := ?_) #[true, true, true, true, true, true, true, true, true, true, true, true, true, true, true, true, true, false, false, false] rfl rfl (any_of HT_.out (by kernel_rfl)) (fun _ _ _ h => h) (Or.inr ⟨by rfl, rfl⟩) ?_ ?_
            rotate_left
            · simp only [Act.put, List.setIfInBounds_toArray, List.set_cons_zero, List.set_cons_succ, i64_w, i32_w]
              rfl
            refine pure_ (i := 17) (N := some 25) (v := undef) (a' := ?_) #[true, true, true, true, true, true, true, true, true, true, true, true, true, true, true, true, true, true, false, false] rfl rfl (any_of HT_.out (by kernel_rfl)) (fun _ _ _ h => h) (Or.inr ⟨by rfl, rfl⟩) ?_ ?_
            rotate_left
            · simp only [Act.put, List.setIfInBounds_toArray, List.set_cons_zero, List.set_cons_succ, i64_w, i32_w]
              rfl
            refine pure_ (i := 18) (N := some 26) (v := ?_) (a' := ?_) #[true, true, true, true, true, true, true, true, true, true, true, true, true, true, true, true, true, true, true, false] rfl rfl (any_of HT_.out (by kernel_rfl)) (fun _ _ _ h => h) (Or.inl ⟨by rfl, ?_⟩) ?_ ?_
            rotate_left
            · intro w'
              go_simp
              with_reducible rfl
            rotate_left
            · simp only [Act.put, List.setIfInBounds_toArray, List.set_cons_zero, List.set_cons_succ, i64_w, i32_w]
              rfl
            refine pure_ (i := 19) (N := some 4) (v := ?_) (a' := ?_) #[true, true, true, true, true, true, true, true, true, true, true, true, true, true, true, true, true, true, true, true] rfl rfl (any_of HT_.out (by kernel_rfl)) (fun _ _ _ h => h) (Or.inl ⟨by rfl, ?_⟩) ?_ ?_
            rotate_left
            · intro w'
              go_simp
              with_reducible rfl
            rotate_left
            · simp only [Act.put, List.setIfInBounds_toArray, List.set_cons_zero, List.set_cons_succ, i64_w, i32_w]
              rfl
            refine done_ (done_of HT_.out (by kernel_rfl)) ?_
            try go_wp2
            go_ret
            exact ⟨by first | rfl | (simp [errW_none, errW_some] <;> rfl) | (simp [*, errW_none, errW_some] <;> rfl), by repeat (first | (with_reducible first | exact HB.out | apply below_alloc | apply pw_below_drewN | apply below_drew1) | exact HB.out)⟩
        · rw [if_neg c6] at H
          exact absurd H (by simp)
      · rw [if_neg c5] at H
        exact absurd H (by simp)
    · rw [if_neg c4] at H
      have c4b0 : decide (0 < (l0.length : Int)) = false := decide_eq_false c4
      have c4b1 : decide (0 < l0.length) = false := decide_eq_false (by omega)
      clear c4
      obtain rfl := Option.some.inj H
      go_enter Try.func62, Try.ntmps62
      try go_wp2
      have n0_ := Aside0.mk (below_drew1 HB.out)
      clear HB
      have HB := n0_
      clear n0_
      refine start_ (n := 20) (S := fun w' => True) (ds := []) #[false, false, false, false, false, false, false, false, false, false, false, false, false, false, false, false, false, false, false, false] (by kernel_rfl) rfl rfl trivial (fun hHeld => ?_); refine with_tabW spinneyref19_Under.tab3 spinneyref19_Under.bits3 (fun HT_ HW_ => ?_)
      generalize w.drew = w16 at HB hHeld ⊢
      refine pure_ (i := 0) (N := some 8) (v := ?_) (a' := ?_) #[true, false, false, false, false, false, false, false, false, false, false, false, false, false, false, false, false, false, false, false] rfl rfl (any_of HT_.out (by kernel_rfl)) (fun _ _ _ h => h) (Or.inl ⟨by rfl, ?_⟩) ?_ ?_
      rotate_left
      · intro w'
        go_simp
        with_reducible rfl
      rotate_left
      · simp only [Act.put, List.setIfInBounds_toArray, List.set_cons_zero, List.set_cons_succ, i64_w, i32_w]
        rfl
      refine pure_ (i := 1) (N := some 9) (v := ?_) (a' := ?_) #[true, true, false, false, false, false, false, false, false, false, false, false, false, false, false, false, false, false, false, false] rfl rfl (any_of HT_.out (by kernel_rfl)) (fun _ _ _ h => h) (Or.inl ⟨by rfl, ?_⟩) ?_ ?_
      rotate_left
      · intro w'
        go_simp
        with_reducible rfl
      rotate_left
      · simp only [Act.put, List.setIfInBounds_toArray, List.set_cons_zero, List.set_cons_succ, i64_w, i32_w]
        rfl
      refine pure_ (i := 2) (N := some 10) (v := ?_) (a' := ?_) #[true, true, true, false, false, false, false, false, false, false, false, false, false, false, false, false, false, false, false, false] rfl rfl (any_of HT_.out (by kernel_rfl)) (fun _ _ _ h => h) (Or.inl ⟨by rfl, ?_⟩) ?_ ?_
      rotate_left
      · intro w'
        go_simp
        with_reducible rfl
      rotate_left
      · simp only [Act.put, List.setIfInBounds_toArray, List.set_cons_zero, List.set_cons_succ, i64_w, i32_w]
        rfl
      refine pure_ (i := 3) (N := some 11) (v := ?_) (a' := ?_) #[true, true, true, true, false, false, false, false, false, false, false, false, false, false, false, false, false, false, false, false] rfl rfl (any_of HT_.out (by kernel_rfl)) (fun _ _ _ h => h) (Or.inl ⟨by rfl, ?_⟩) ?_ ?_
      rotate_left
      · intro w'
        go_simp
        with_reducible rfl
      rotate_left
      · simp only [Act.put, List.setIfInBounds_toArray, List.set_cons_zero, List.set_cons_succ, i64_w, i32_w]
        rfl
      refine pure_ (i := 4) (N := some 12) (v := undef) (a' := ?_) #[true, true, true, true, true, false, false, false, false, false, false, false, false, false, false, false, false, false, false, false] rfl rfl (any_of HT_.out (by kernel_rfl)) (fun _ _ _ h => h) (Or.inr ⟨by rfl, rfl⟩) ?_ ?_
      rotate_left
      · simp only [Act.put, List.setIfInBounds_toArray, List.set_cons_zero, List.set_cons_succ, i64_w, i32_w]
        rfl
      refine pure_ (i := 5) (N := some 13) (v := undef) (a' := ?_) #[true, true, true, true, true, true, false, false, false, false, false, false, false, false, false, false, false, false, false, false] rfl rfl (any_of HT_.out (by kernel_rfl)) (fun _ _ _ h => h) (Or.inr ⟨by rfl, rfl⟩) ?_ ?_
      rotate_left
      · simp only [Act.put, List.setIfInBounds_toArray, List.set_cons_zero, List.set_cons_succ, i64_w, i32_w]
        rfl
      refine pure_ (i := 6) (N := some 14) (v := undef) (a' := ?_) #[true, true, true, true, true, true, true, false, false, false, false, false, false, false, false, false, false, false, false, false] rfl rfl (any_of HT_.out (by kernel_rfl)) (fun _ _ _ h => h) (Or.inr ⟨by rfl, rfl⟩) ?_ ?_
      rotate_left
      · simp only [Act.put, List.setIfInBounds_toArray, List.set_cons_zero, List.set_cons_succ, i64_w, i32_w]
        rfl
      refine pure_ (i := 7) (N := some 15) (v := undef) (a' := ?_) #[true, true, true, true, true, true, true, true, false, false, false, false, false, false, false, false, false, false, false, false] rfl rfl (any_of HT_.out (by kernel_rfl)) (fun _ _ _ h => h) (Or.inr ⟨by rfl, rfl⟩) ?_ ?_
      rotate_left
      · simp only [Act.put, List.setIfInBounds_toArray, List.set_cons_zero, List.set_cons_succ, i64_w, i32_w]
        rfl
      refine pure_ (i := 8) (N := some 16) (v := undef) (a' := ?_) #[true, true, true, true, true, true, true, true, true, false, false, false, false, false, false, false, false, false, false, false] rfl rfl (any_of HT_.out (by kernel_rfl)) (fun _ _ _ h => h) (Or.inr ⟨by rfl, rfl⟩) ?_ ?_
      rotate_left
      · simp only [Act.put, List.setIfInBounds_toArray, List.set_cons_zero, List.set_cons_succ, i64_w, i32_w]
        rfl
      refine pure_ (i := 9) (N := some 17) (v := undef) (a' := ?_) #[true, true, true, true, true, true, true, true, true, true, false, false, false, false, false, false, false, false, false, false] rfl rfl (any_of HT_.out (by kernel_rfl)) (fun _ _ _ h => h) (Or.inr ⟨by rfl, rfl⟩) ?_ ?_
      rotate_left
      · simp only [Act.put, List.setIfInBounds_toArray, List.set_cons_zero, List.set_cons_succ, i64_w, i32_w]
        rfl
      refine pure_ (i := 10) (N := some 18) (v := undef) (a' := ?_) #[true, true, true, true, true, true, true, true, true, true, true, false, false, false, false, false, false, false, false, false] rfl rfl (any_of HT_.out (by kernel_rfl)) (fun _ _ _ h => h) (Or.inr ⟨by rfl, rfl⟩) ?_ ?_
      rotate_left
      · simp only [Act.put, List.setIfInBounds_toArray, List.set_cons_zero, List.set_cons_succ, i64_w, i32_w]
        rfl
      refine pure_ (i := 11) (N := some 19) (v := ?_) (a' := ?_) #[true, true, true, true, true, true, true, true, true, true, true, true, false, false, false, false, false, false, false, false] rfl rfl (any_of HT_.out (by kernel_rfl)) (fun _ _ _ h => h) (Or.inl ⟨by rfl, ?_⟩) ?_ ?_
      rotate_left
      · intro w'
        go_simp
        with_reducible rfl
      rotate_left
      · simp only [Act.put, List.setIfInBounds_toArray, List.set_cons_zero, List.set_cons_succ, i64_w, i32_w]
        rfl
      refine pure_ (i := 12) (N := some 20) (v := ?_) (a' := ?_) #[true, true, true, true, true, true, true, true, true, true, true, true, true, false, false, false, false, false, false, false] rfl rfl (any_of HT_.out (by kernel_rfl)) (fun _ _ _ h => h) (Or.inl ⟨by rfl, ?_⟩) ?_ ?_
      rotate_left
      · intro w'
        go_simp
        with_reducible rfl
      rotate_left
      · simp only [Act.put, List.setIfInBounds_toArray, List.set_cons_zero, List.set_cons_succ, i64_w, i32_w]
        rfl
      refine pure_ (i := 13) (N := some 21) (v := undef) (a' := ?_) #[true, true, true, true, true, true, true, true, true, true, true, true, true, true, false, false, false, false, false, false] rfl rfl (any_of HT_.out (by kernel_rfl)) (fun _ _ _ h => h) (Or.inr ⟨by rfl, rfl⟩) ?_ ?_
      rotate_left
      · simp only [Act.put, List.setIfInBounds_toArray, List.set_cons_zero, List.set_cons_succ, i64_w, i32_w]
        rfl
      refine pure_ (i := 14) (N := some 22) (v := undef) (a' := ?_) #[true, true, true, true, true, true, true, true, true, true, true, true, true, true, true, false, false, false, false, false] rfl rfl (any_of HT_.out (by kernel_rfl)) (fun _ _ _ h => h) (Or.inr ⟨by rfl, rfl⟩) ?_ ?_
      rotate_left
      · simp only [Act.put, List.setIfInBounds_toArray, List.set_cons_zero, List.set_cons_succ, i64_w, i32_w]
        rfl
      refine pure_ (i := 15) (N := some 23) (v := undef) (a' := ?_) #[true, true, true, true, true, true, true, true, true, true, true, true, true, true, true, true, false, false, false, false] rfl rfl (any_of HT_.out (by kernel_rfl)) (fun _ _ _ h => h) (Or.inr ⟨by rfl, rfl⟩) ?_ ?_
      rotate_left
      · simp only [Act.put, List.setIfInBounds_toArray, List.set_cons_zero, List.set_cons_succ, i64_w, i32_w]
        rfl
      refine pure_ (i := 16) (N := some 24) (v := undef) (a' := ?_) #[true, true, true, true, true, true, true, true, true, true, true, true, true, true, true, true, true, false, false, false] rfl rfl (any_of HT_.out (by kernel_rfl)) (fun _ _ _ h => h) (Or.inr ⟨by rfl, rfl⟩) ?_ ?_
      rotate_left
      · simp only [Act.put, List.setIfInBounds_toArray, List.set_cons_zero, List.set_cons_succ, i64_w, i32_w]
        rfl
      refine pure_ (i := 17) (N := some 25) (v := undef) (a' := ?_) #[true, true, true, true, true, true, true, true, true, true, true, true, true, true, true, true, true, true, false, false] rfl rfl (any_of HT_.out (by kernel_rfl)) (fun _ _ _ h => h) (Or.inr ⟨by rfl, rfl⟩) ?_ ?_
      rotate_left
      · simp only [Act.put, List.setIfInBounds_toArray, List.set_cons_zero, List.set_cons_succ, i64_w, i32_w]
        rfl
      refine pure_ (i := 18) (N := some 26) (v := ?_) (a' := ?_) #[true, true, true, true, true, true, true, true, true, true, true, true, true, true, true, true, true, true, true, false] rfl rfl (any_of HT_.out (by kernel_rfl)) (fun _ _ _ h => h) (Or.inl ⟨by rfl, ?_⟩) ?_ ?_
      rotate_left
      · intro w'
        go_simp
        with_reducible rfl
      rotate_left
      · simp only [Act.put, List.setIfInBounds_toArray, List.set_cons_zero, List.set_cons_succ, i64_w, i32_w]
        rfl
      refine pure_ (i := 19) (N := some 4) (v := ?_) (a' := ?_) #[true, true, true, true, true, true, true, true, true, true, true, true, true, true, true, true, true, true, true, true] rfl rfl (any_of HT_.out (by kernel_rfl)) (fun _ _ _ h => h) (Or.inl ⟨by rfl, ?_⟩) ?_ ?_
      rotate_left
      · intro w'
        go_simp
        with_reducible rfl
      rotate_left
      · simp only [Act.put, List.setIfInBounds_toArray, List.set_cons_zero, List.set_cons_succ, i64_w, i32_w]
        rfl
      refine done_ (done_of HT_.out (by kernel_rfl)) ?_
      try go_wp2
      go_ret
      exact ⟨by first | rfl | (simp [errW_none, errW_some] <;> rfl) | (simp [*, errW_none, errW_some] <;> rfl), by repeat (first | (with_reducible first | exact HB.out | apply below_alloc | apply pw_below_drewN | apply below_drew1) | exact HB.out)⟩

end Go.Proofs.Ytlapiebnmbbemaa.A
end
section
-- Written by my drive.py over the kit's print program. Not trusted: Lean checks it.
namespace Go.Proofs.Ytlapiebnmbbemaa.A
open Go.RowKit Go.Proofs.YtlapiebnmbbemaaW.PrintWords Go.Proofs.YtlapiebnmbbemaaW.PrintLast Go.Proofs.YtlapiebnmbbemaaW.PrintMore
attribute [local go_sem] max2_int min2_int max_two min_two max_three min_three max_four min_four   -- for this text's walks alone
set_option linter.unusedVariables false
set_option linter.unusedSimpArgs false

/-! ### spinneyref19_Pruned: function 39 -/
def spinneyref19_Pruned.f (k : Nat) (l0 : List Int) (l1 : List Int) (a2 : Int) : Option (Bool) := if 0 ≤ (mn (mx a2 0) (l1.length : Int)) then (if (mn (mx a2 0) (l1.length : Int)) ≤ (l1.length : Int) then ((spinneyref19_Under.f k l0 (l1.take ((mn (mx a2 0) (l1.length : Int)) : Int).toNat)).bind fun t102 => (if t102 = true then ((spinneyref19_Left.f k l1 l0).bind fun t103 => (some t103)) else (some false))) else (none)) else (none)
theorem spinneyref19_Pruned.mono : ∀ a0 a1 a2 k, LeO (spinneyref19_Pruned.f k a0 a1 a2) (spinneyref19_Pruned.f (k + 1) a0 a1 a2) := by
  intro a0 a1 a2 k
  unfold spinneyref19_Pruned.f
  repeat' first
      | (with_reducible exact spinneyref19_Left.mono _ _ _)
      | (with_reducible exact spinneyref19_Under.mono _ _ _)
      | (with_reducible exact LeO.refl _)
      | (with_reducible exact LeO.none _)
      | (with_reducible refine LeO.ite ?_ ?_)
      | (with_reducible refine LeO.bind ?_ (fun _ => ?_))
      | exact spinneyref19_Left.mono _ _ _
      | exact spinneyref19_Under.mono _ _ _
      | exact LeO.none _
      | refine LeO.ite ?_ ?_
      | refine LeO.bind ?_ (fun _ => ?_)
set_option maxHeartbeats 8000000 in
set_option maxRecDepth 100000 in
theorem spinneyref19_Pruned.calls (k : Nat) (A0 : Option Addr) (c0 : Nat) (l0 : List Int) (A1 : Option Addr) (c1 : Nat) (l1 : List Int) (a2 : Int) (r : Bool) (w : World) (hr0 : Kd.C (Kd.int .i64) w A0 l0.length l0) (hc0 : l0.length ≤ c0) (hr1 : Kd.C (Kd.int .i64) w A1 l1.length l1) (hc1 : l1.length ≤ c1) (h : spinneyref19_Pruned.f k l0 l1 a2 = some r) :
    Calls Try.prog 39 #[.slice A0 l0.length c0, .slice A1 l1.length c1, .int .i64 a2] w fun e w' => e = .returned (.bool r) ∧ Below w.heap.size w w' := by
  have HR0 := Aside0.mk hr0
  have HC0 := Aside0.mk hc0
  clear hr0 hc0
  have HR1 := Aside0.mk hr1
  have HC1 := Aside0.mk hc1
  clear hr1 hc1
  have HB := Aside0.mk (Below.refl w.heap.size w)
  have H : (if 0 ≤ (mn (mx a2 0) (l1.length : Int)) then (if (mn (mx a2 0) (l1.length : Int)) ≤ (l1.length : Int) then ((spinneyref19_Under.f k l0 (l1.take ((mn (mx a2 0) (l1.length : Int)) : Int).toNat)).bind fun t102 => (if t102 = true then ((spinneyref19_Left.f k l1 l0).bind fun t103 => (some t103)) else (some false))) else (none)) else (none)) = some r := h
  clear h
  obtain ⟨ji4, hji4⟩ : ∃ j_ : Int, (mx a2 0) = j_ := ⟨_, rfl⟩
  replace H : (if 0 ≤ (mn (ji4) (l1.length : Int)) then (if (mn (ji4) (l1.length : Int)) ≤ (l1.length : Int) then ((spinneyref19_Under.f k l0 (l1.take ((mn (ji4) (l1.length : Int)) : Int).toNat)).bind fun t102 => (if t102 = true then ((spinneyref19_Left.f k l1 l0).bind fun t103 => (some t103)) else (some false))) else (none)) else (none)) = some r := by first | (rw [hji4] at H; exact H) | (simp only [hji4] at H ⊢; exact H)
  (try (have hji4l : 0 ≤ ji4 := by (rw [← hji4]; unfold mx; (repeat' split) <;> omega)))
  (try (have hji4m : 0 ≤ ji4 := by omega))
  have hji4_ : (if a2 < 0 then 0 else a2) = ji4 := hji4
  obtain ⟨ji5, hji5⟩ : ∃ j_ : Int, (mn (ji4) (l1.length : Int)) = j_ := ⟨_, rfl⟩
  replace H : (if 0 ≤ (ji5) then (if (ji5) ≤ (l1.length : Int) then ((spinneyref19_Under.f k l0 (l1.take ((ji5) : Int).toNat)).bind fun t102 => (if t102 = true then ((spinneyref19_Left.f k l1 l0).bind fun t103 => (some t103)) else (some false))) else (none)) else (none)) = some r := by first | (rw [hji5] at H; exact H) | (simp only [hji5] at H ⊢; exact H)
  have hji5_ : (if (l1.length : Int) < (ji4) then (l1.length : Int) else (ji4)) = ji5 := hji5
  by_cases c6 : 0 ≤ (ji5)
  · rw [if_pos c6] at H
    have c6b0 := eq_true c6
    have c6b1 : decide (0 ≤ (ji5)) = true := decide_eq_true c6
    clear c6
    by_cases c7 : (ji5) ≤ (l1.length : Int)
    · rw [if_pos c7] at H
      have c7b0 := eq_true c7
      have c7b1 : decide ((ji5) ≤ (l1.length : Int)) = true := decide_eq_true c7
      clear c7
      replace H := Option.bind_eq_some_iff.mp H
      obtain ⟨t102, A80, H⟩ := H
      replace H : (if t102 = true then ((spinneyref19_Left.f k l1 l0).bind fun t103 => (some t103)) else (some false)) = some r := H
      have A8 := Aside0.mk A80
      clear A80
      by_cases c9 : t102 = true
      · subst c9
        have H1 : ((spinneyref19_Left.f k l1 l0).bind fun t103 => (some t103)) = some r := by rw [if_pos rfl] at H; exact H
        clear H
        have H := H1
        clear H1
        replace H := Option.bind_eq_some_iff.mp H
        obtain ⟨t103, A100, H⟩ := H
        replace H : (some t103) = some r := H
        have A10 := Aside0.mk A100
        clear A100
        obtain rfl := Option.some.inj H
        obtain ⟨i011, hi011, _, hsz11, _⟩ := info_parts info3
        obtain ⟨hcut11, hA11, hC11⟩ := print_take_of (P := Try.prog) (Value.int .i64) 0 23 3 .i64 Try.underlying23 hi011 hsz11 A1 c1 l1 (ji5) (of_decide_eq_true (by first | (with_reducible assumption) | assumption)) (of_decide_eq_true (by first | (with_reducible assumption) | assumption)) HC1.out
        have HR101 := Aside0.mk (Kd.C_of_reads (h1 := fun _ => rfl) (hA11 _ (Kd.reads_of_C HR1.out)))
        have HC101 := Aside0.mk hC11
        clear hA11 hC11 hi011 hsz11
        go_enter Try.func39, Try.ntmps39
        go_wp2_with (first | ((with_reducible refine gate_callee (f := 62) rfl ?_); refine goesL_ (some 15) rfl rfl Try.func62 (by kernel_rfl) rfl #[.slice A0 l0.length c0, .slice A1 (l1.take ((ji5) : Int).toNat).length c1] rfl (by (try simp only [List.map_toArray, List.map_cons, List.map_nil]); first | done | (rw [show (l1.take ((ji5) : Int).toNat).length = (ji5).toNat from (by rw [List.length_take]; have h_ : ((ji5) : Int) ≤ (l1.length : Int) := of_decide_eq_true (by first | (with_reducible assumption) | assumption); omega)] <;> rfl) | (simp only [hji5]; rfl) | rfl | (simp only [List.length_drop, List.length_take]; rfl)) ?_; (with_reducible refine (spinneyref19_Under.calls k _ _ l0 _ _ (l1.take ((ji5) : Int).toNat) true _ ?side1 ?side2 ?side3 ?side4 A8.out).mono ?_); (case side1 => repeat (first | exact HR0.out | (with_reducible refine Kd.C_alloc ?_ _) | (with_reducible refine Kd.C_drewN ?_ _) | (with_reducible refine Kd.C_drew ?_))); (case side2 => exact HC0.out); (case side3 => repeat (first | exact HR101.out | (with_reducible refine Kd.C_alloc ?_ _) | (with_reducible refine Kd.C_drewN ?_ _) | (with_reducible refine Kd.C_drew ?_))); (case side4 => exact HC101.out); rintro e w12 ⟨rfl, hb⟩; refine ⟨_, rfl, ?_⟩; have n0_ := Aside0.mk (below_step (by repeat (first | (with_reducible first | exact HB.out | apply below_alloc | apply pw_below_drewN | apply below_drew1) | exact HB.out)) hb); clear HB; have HB := n0_; clear n0_; (try clear hb); (try clear hb2); (try clear hk); (try clear hi)) | (go_at_call 63; (with_reducible refine (spinneyref19_Left.calls k _ _ l1 _ _ l0 t103 _ ?side1 ?side2 ?side3 ?side4 A10.out).mono ?_); (case side1 => repeat (first | exact (Kd.C_below HR1.out HB.out) | (with_reducible refine Kd.C_alloc ?_ _) | (with_reducible refine Kd.C_drewN ?_ _) | (with_reducible refine Kd.C_drew ?_))); (case side2 => exact HC1.out); (case side3 => repeat (first | exact (Kd.C_below HR0.out HB.out) | (with_reducible refine Kd.C_alloc ?_ _) | (with_reducible refine Kd.C_drewN ?_ _) | (with_reducible refine Kd.C_drew ?_))); (case side4 => exact HC0.out); rintro e w13 ⟨rfl, hb⟩; have n0_ := Aside0.mk (below_step (by repeat (first | (with_reducible first | exact HB.out | apply below_alloc | apply pw_below_drewN | apply below_drew1) | exact HB.out)) hb); clear HB; have HB := n0_; clear n0_; (try clear hb); (try clear hb2); (try clear hk); (try clear hi)))
        go_ret
        exact ⟨by first | rfl | (simp [errW_none, errW_some] <;> rfl) | (simp only [← hji4, ← hji5]; first | rfl | (simp [errW_none, errW_some] <;> rfl)) | (simp [*, errW_none, errW_some] <;> rfl), by repeat (first | (with_reducible first | exact HB.out | apply below_alloc | apply pw_below_drewN | apply below_drew1) | exact HB.out)⟩
      · replace c9 := Bool.eq_false_iff.mpr c9
        subst c9
        have H1 : (some false) = some r := by rw [if_neg (show ¬ (false = true) by decide)] at H; exact H
        clear H
        have H := H1
        clear H1
        obtain rfl := Option.some.inj H
        obtain ⟨i014, hi014, _, hsz14, _⟩ := info_parts info3
        obtain ⟨hcut14, hA14, hC14⟩ := print_take_of (P := Try.prog) (Value.int .i64) 0 23 3 .i64 Try.underlying23 hi014 hsz14 A1 c1 l1 (ji5) (of_decide_eq_true (by first | (with_reducible assumption) | assumption)) (of_decide_eq_true (by first | (with_reducible assumption) | assumption)) HC1.out
        have HR101 := Aside0.mk (Kd.C_of_reads (h1 := fun _ => rfl) (hA14 _ (Kd.reads_of_C HR1.out)))
        have HC101 := Aside0.mk hC14
        clear hA14 hC14 hi014 hsz14
        go_enter Try.func39, Try.ntmps39
        go_wp2_with (first | ((with_reducible refine gate_callee (f := 62) rfl ?_); refine goesL_ (some 15) rfl rfl Try.func62 (by kernel_rfl) rfl #[.slice A0 l0.length c0, .slice A1 (l1.take ((ji5) : Int).toNat).length c1] rfl (by (try simp only [List.map_toArray, List.map_cons, List.map_nil]); first | done | (rw [show (l1.take ((ji5) : Int).toNat).length = (ji5).toNat from (by rw [List.length_take]; have h_ : ((ji5) : Int) ≤ (l1.length : Int) := of_decide_eq_true (by first | (with_reducible assumption) | assumption); omega)] <;> rfl) | (simp only [hji5]; rfl) | rfl | (simp only [List.length_drop, List.length_take]; rfl)) ?_; (with_reducible refine (spinneyref19_Under.calls k _ _ l0 _ _ (l1.take ((ji5) : Int).toNat) false _ ?side1 ?side2 ?side3 ?side4 A8.out).mono ?_); (case side1 => repeat (first | exact HR0.out | (with_reducible refine Kd.C_alloc ?_ _) | (with_reducible refine Kd.C_drewN ?_ _) | (with_reducible refine Kd.C_drew ?_))); (case side2 => exact HC0.out); (case side3 => repeat (first | exact HR101.out | (with_reducible refine Kd.C_alloc ?_ _) | (with_reducible refine Kd.C_drewN ?_ _) | (with_reducible refine Kd.C_drew ?_))); (case side4 => exact HC101.out); rintro e w15 ⟨rfl, hb⟩; refine ⟨_, rfl, ?_⟩; have n0_ := Aside0.mk (below_step (by repeat (first | (with_reducible first | exact HB.out | apply below_alloc | apply pw_below_drewN | apply below_drew1) | exact HB.out)) hb); clear HB; have HB := n0_; clear n0_; (try clear hb); (try clear hb2); (try clear hk); (try clear hi)))
        go_ret
        exact ⟨by first | rfl | (simp [errW_none, errW_some] <;> rfl) | (simp only [← hji4, ← hji5]; first | rfl | (simp [errW_none, errW_some] <;> rfl)) | (simp [*, errW_none, errW_some] <;> rfl), by repeat (first | (with_reducible first | exact HB.out | apply below_alloc | apply pw_below_drewN | apply below_drew1) | exact HB.out)⟩
    · rw [if_neg c7] at H
      exact absurd H (by simp)
  · rw [if_neg c6] at H
    exact absurd H (by simp)

end Go.Proofs.Ytlapiebnmbbemaa.A
end
section
-- Written by my drive.py over the kit's print program. Not trusted: Lean checks it.
namespace Go.Proofs.Ytlapiebnmbbemaa.A
open Go.RowKit Go.Proofs.YtlapiebnmbbemaaW.PrintWords Go.Proofs.YtlapiebnmbbemaaW.PrintLast Go.Proofs.YtlapiebnmbbemaaW.PrintMore
attribute [local go_sem] max2_int min2_int max_two min_two max_three min_three max_four min_four   -- for this text's walks alone
set_option linter.unusedVariables false
set_option linter.unusedSimpArgs false

/-! ### spinneyref19_Compare: function 13 -/
mutual
def spinneyref19_Compare.j0 : Nat → List Int → List Int → Bool → Option (Int)
  | 0, _, _, _ => none
  | k + 1, x0, x1, x5 => if x5 = true then (some 0) else (if (x0.length : Int) = 0 then (some (-1)) else (if (x1.length : Int) = 0 then (some 1) else (if 0 < (x0.length : Int) then (if 0 < (x1.length : Int) then (if (rd x0 0) < (rd x1 0) then (some (-1)) else (if (rd x0 0) > (rd x1 0) then (some 1) else (if 1 ≤ (x0.length : Int) then (if 1 ≤ (x1.length : Int) then ((spinneyref19_Compare.f k (x0.drop 1) (x1.drop 1)).bind fun t107 => (some t107)) else (none)) else (none)))) else (none)) else (none))))
def spinneyref19_Compare.f : Nat → List Int → List Int → Option (Int)
  | 0, _, _ => none
  | k + 1, l0, l1 => if (l0.length : Int) = 0 then (spinneyref19_Compare.j0 k l0 l1 ((l1.length : Int) == 0)) else (spinneyref19_Compare.j0 k l0 l1 false)
end
theorem spinneyref19_Compare.mono_l : ∀ k, (∀ y0 y1, LeO (spinneyref19_Compare.f k y0 y1) (spinneyref19_Compare.f (k + 1) y0 y1)) ∧ (∀ y0 y1 y2, LeO (spinneyref19_Compare.j0 k y0 y1 y2) (spinneyref19_Compare.j0 (k + 1) y0 y1 y2))
  | 0 => ⟨fun _ _ r h => by simp [spinneyref19_Compare.f] at h, fun _ _ _ r h => by simp [spinneyref19_Compare.j0] at h⟩
  | k + 1 => by
    obtain ⟨ih0, ih1⟩ := spinneyref19_Compare.mono_l k
    refine ⟨?_, ?_⟩
    · intro y0 y1
      unfold spinneyref19_Compare.f
      repeat' first
      | (with_reducible exact ih0 _ _)
      | (with_reducible exact ih1 _ _ _)
      | (with_reducible exact LeO.refl _)
      | (with_reducible exact LeO.none _)
      | (with_reducible refine LeO.ite ?_ ?_)
      | (with_reducible refine LeO.bind ?_ (fun _ => ?_))
      | exact ih0 _ _
      | exact ih1 _ _ _
      | exact LeO.none _
      | refine LeO.ite ?_ ?_
      | refine LeO.bind ?_ (fun _ => ?_)
    · intro y0 y1 y2
      unfold spinneyref19_Compare.j0
      repeat' first
      | (with_reducible exact ih0 _ _)
      | (with_reducible exact ih1 _ _ _)
      | (with_reducible exact LeO.refl _)
      | (with_reducible exact LeO.none _)
      | (with_reducible refine LeO.ite ?_ ?_)
      | (with_reducible refine LeO.bind ?_ (fun _ => ?_))
      | exact ih0 _ _
      | exact ih1 _ _ _
      | exact LeO.none _
      | refine LeO.ite ?_ ?_
      | refine LeO.bind ?_ (fun _ => ?_)
theorem spinneyref19_Compare.mono : ∀ a0 a1 k, LeO (spinneyref19_Compare.f k a0 a1) (spinneyref19_Compare.f (k + 1) a0 a1) := by
  intro a0 a1 k
  obtain ⟨ih0, ih1⟩ := spinneyref19_Compare.mono_l k
  exact ih0 a0 a1
def spinneyref19_Compare.T7 : Bool × List (List Nat × List Nat) := (true, [([], []), ([0], [0]), ([1], [1]), ([], []), ([3], [3]), ([4], [4]), ([2, 5], [2, 5]), ([6], [6])])
def spinneyref19_Compare.B7 : List Nat := [0, 1, 3, 0, 8, 24, 63, 127]
theorem spinneyref19_Compare.tab7 : rtab .any (opsOf Try.f13 7) = spinneyref19_Compare.T7 := by kernel_rfl
theorem spinneyref19_Compare.bits7 : waitsOk spinneyref19_Compare.T7.2 spinneyref19_Compare.B7 = true := by kernel_rfl
def spinneyref19_Compare.T9 : Bool × List (List Nat × List Nat) := (true, [([], []), ([0], [0]), ([1], [1]), ([], []), ([3], [3]), ([4], [4]), ([2, 5], [2, 5]), ([6], [6])])
def spinneyref19_Compare.B9 : List Nat := [0, 1, 3, 0, 8, 24, 63, 127]
theorem spinneyref19_Compare.tab9 : rtab .any (opsOf Try.f13 9) = spinneyref19_Compare.T9 := by kernel_rfl
theorem spinneyref19_Compare.bits9 : waitsOk spinneyref19_Compare.T9.2 spinneyref19_Compare.B9 = true := by kernel_rfl
set_option maxHeartbeats 8000000 in
set_option maxRecDepth 100000 in
theorem spinneyref19_Compare.calls (k : Nat) : ∀ (A0 : Option Addr) (c0 : Nat) (l0 : List Int) (A1 : Option Addr) (c1 : Nat) (l1 : List Int) (r : Int) (w : World) (hr0 : Kd.C (Kd.int .i64) w A0 l0.length l0) (hc0 : l0.length ≤ c0) (hr1 : Kd.C (Kd.int .i64) w A1 l1.length l1) (hc1 : l1.length ≤ c1) (h : spinneyref19_Compare.f k l0 l1 = some r),
    Calls Try.prog 13 #[.slice A0 l0.length c0, .slice A1 l1.length c1] w fun e w' => e = .returned (.int .i64 r) ∧ Below w.heap.size w w' := by
  induction k using Nat.strongRecOn with
  | _ k ih =>
  intro A0 c0 l0 A1 c1 l1 r w hr0 hc0 hr1 hc1 h
  cases k with
  | zero => exact absurd h (by simp [spinneyref19_Compare.f])
  | succ k =>
  simp only [spinneyref19_Compare.f] at h
  have HR0 := Aside0.mk hr0
  have HC0 := Aside0.mk hc0
  clear hr0 hc0
  have HR1 := Aside0.mk hr1
  have HC1 := Aside0.mk hc1
  clear hr1 hc1
  have HB := Aside0.mk (Below.refl w.heap.size w)
  have H : (if (l0.length : Int) = 0 then (spinneyref19_Compare.j0 k l0 l1 ((l1.length : Int) == 0)) else (spinneyref19_Compare.j0 k l0 l1 false)) = some r := h
  clear h
  have HC3 := Aside0.mk H
  clear H
  go_enter Try.func13, Try.ntmps13
  go_upto_region 1 with (fail)
  go_cut [5] (fun v5 wc => ∃ (kq : Nat) (x5_2 : Bool), v5 = .bool x5_2 ∧ Aside0 (spinneyref19_Compare.j0 kq l0 l1 x5_2 = some r) ∧ Aside0 (kq ≤ k) ∧ Aside0 (Below w.heap.size w wc))
  case first =>
    have H := HC3.out
    clear HC3
    by_cases c4 : (l0.length : Int) = 0
    · rw [if_pos c4] at H
      have c4b0 : ((l0.length : Int) == 0) = true := beq_iff_eq.mpr c4
      have c4b1 : ((l0.length : Int) != 0) = false := bne_eq_false_iff_eq.mpr c4
      clear c4
      (first | rw [c4b0] | (simp only [i64_w, i32_w]; rw [c4b0]) | skip)
      have H' := Aside0.mk H
      clear H
      go_wp2
      go_meet
      case rel => exact ⟨_, (((l1.length : Int) == 0)), (by first | rfl | (simp; done) | (simp [*]; done)), H', ⟨by first | omega | exact Nat.le_refl _⟩, ⟨by repeat (first | (with_reducible first | exact HB.out | apply below_alloc | apply pw_below_drewN | apply below_drew1) | exact HB.out)⟩⟩
    · rw [if_neg c4] at H
      have c4b0 : ((l0.length : Int) == 0) = false := beq_eq_false_iff_ne.mpr c4
      have c4b1 : ((l0.length : Int) != 0) = true := bne_iff_ne.mpr c4
      have c4b2 : ¬ (l0 = []) := fun h_ => c4 (by rw [h_]; rfl)
      (first | rw [c4b0] | (simp only [i64_w, i32_w]; rw [c4b0]) | skip)
      have H' := Aside0.mk H
      clear H
      go_wp2
      go_meet
      case rel => exact ⟨_, (false), (by first | rfl | (simp; done) | (simp [*]; done)), H', ⟨by first | omega | exact Nat.le_refl _⟩, ⟨by repeat (first | (with_reducible first | exact HB.out | apply below_alloc | apply pw_below_drewN | apply below_drew1) | exact HB.out)⟩⟩
  case rest =>
    clear HC3
    try clear c1
    try clear p2
    try clear c4
    try clear c4b0
    try clear c4b1
    try clear c4b2
    obtain ⟨kq, x5_2, rfl, HA, HJ2, HB⟩ := hcut
    cases kq with
    | zero => exact absurd HA.out (by simp [spinneyref19_Compare.j0])
    | succ kj2 =>
      have H := HA.out
      clear HA
      simp only [spinneyref19_Compare.j0] at H
      by_cases c5 : x5_2 = true
      · subst c5
        have H1 : (some 0) = some r := by rw [if_pos rfl] at H; exact H
        clear H
        have H := H1
        clear H1
        obtain rfl := Option.some.inj H
        go_wp2
        go_ret
        exact ⟨by first | rfl | (simp [errW_none, errW_some] <;> rfl) | (simp [*, errW_none, errW_some] <;> rfl), by repeat (first | (with_reducible first | exact HB.out | apply below_alloc | apply pw_below_drewN | apply below_drew1) | exact HB.out)⟩
      · replace c5 := Bool.eq_false_iff.mpr c5
        subst c5
        have H1 : (if (l0.length : Int) = 0 then (some (-1)) else (if (l1.length : Int) = 0 then (some 1) else (if 0 < (l0.length : Int) then (if 0 < (l1.length : Int) then (if (rd l0 0) < (rd l1 0) then (some (-1)) else (if (rd l0 0) > (rd l1 0) then (some 1) else (if 1 ≤ (l0.length : Int) then (if 1 ≤ (l1.length : Int) then ((spinneyref19_Compare.f kj2 (l0.drop 1) (l1.drop 1)).bind fun t107 => (some t107)) else (none)) else (none)))) else (none)) else (none)))) = some r := by rw [if_neg (show ¬ (false = true) by decide)] at H; exact H
        clear H
        have H := H1
        clear H1
        by_cases c6 : (l0.length : Int) = 0
        · rw [if_pos c6] at H
          have c6b0 : ((l0.length : Int) == 0) = true := beq_iff_eq.mpr c6
          have c6b1 : ((l0.length : Int) != 0) = false := bne_eq_false_iff_eq.mpr c6
          clear c6
          obtain rfl := Option.some.inj H
          go_wp2
          go_ret
          exact ⟨by first | rfl | (simp [errW_none, errW_some] <;> rfl) | (simp [*, errW_none, errW_some] <;> rfl), by repeat (first | (with_reducible first | exact HB.out | apply below_alloc | apply pw_below_drewN | apply below_drew1) | exact HB.out)⟩
        · rw [if_neg c6] at H
          have c6b0 : ((l0.length : Int) == 0) = false := beq_eq_false_iff_ne.mpr c6
          have c6b1 : ((l0.length : Int) != 0) = true := bne_iff_ne.mpr c6
          have c6b2 : ¬ (l0 = []) := fun h_ => c6 (by rw [h_]; rfl)
          by_cases c7 : (l1.length : Int) = 0
          · rw [if_pos c7] at H
            have c7b0 : ((l1.length : Int) == 0) = true := beq_iff_eq.mpr c7
            have c7b1 : ((l1.length : Int) != 0) = false := bne_eq_false_iff_eq.mpr c7
            clear c7
            obtain rfl := Option.some.inj H
            go_wp2
            go_ret
            exact ⟨by first | rfl | (simp [errW_none, errW_some] <;> rfl) | (simp [*, errW_none, errW_some] <;> rfl), by repeat (first | (with_reducible first | exact HB.out | apply below_alloc | apply pw_below_drewN | apply below_drew1) | exact HB.out)⟩
          · rw [if_neg c7] at H
            have c7b0 : ((l1.length : Int) == 0) = false := beq_eq_false_iff_ne.mpr c7
            have c7b1 : ((l1.length : Int) != 0) = true := bne_iff_ne.mpr c7
            have c7b2 : ¬ (l1 = []) := fun h_ => c7 (by rw [h_]; rfl)
            by_cases c8 : 0 < (l0.length : Int)
            · rw [if_pos c8] at H
              have c8b0 : decide (0 < (l0.length : Int)) = true := decide_eq_true c8
              have c8b1 : decide (0 < l0.length) = true := decide_eq_true (by omega)
              clear c8
              by_cases c9 : 0 < (l1.length : Int)
              · rw [if_pos c9] at H
                have c9b0 : decide (0 < (l1.length : Int)) = true := decide_eq_true c9
                have c9b1 : decide (0 < l1.length) = true := decide_eq_true (by omega)
                clear c9
                by_cases c10 : (rd l0 0) < (rd l1 0)
                · rw [if_pos c10] at H
                  have c10b0 : decide ((rd l0 0) < (rd l1 0)) = true := decide_eq_true c10
                  clear c10
                  obtain rfl := Option.some.inj H
                  try go_wp2
                  have n0_ := Aside0.mk (below_drew1 HB.out)
                  clear HB
                  have HB := n0_
                  clear n0_
                  have p101 : 0 ≤ (0 : Int) := (by omega)
                  have q101 : 0 < (l0.length : Int) := of_decide_eq_true (by first | (with_reducible assumption) | assumption)
                  obtain ⟨ad101, e101, hx101_0⟩ := Kd.at_int HR0.out 0 p101 q101
                  have hw101_0 := hx101_0
                  (try rw [show ((0 : Int)).toNat = 0 from rfl] at hw101_0)
                  (try rw [show 0 * 1 = 0 from rfl] at hw101_0)
                  (try rw [Addr.add_zero'] at hw101_0)
                  cases e101
                  have qi101 : (0 < l0.length) = True := eq_true (by omega)
                  (try rw [show ((0 : Int)).toNat = 0 from rfl] at hx101_0)
                  (try rw [Addr.add_zero'] at hx101_0)
                  replace hx101_0 := (HB.out.cell (World.block_lt_of_cell? w _ hx101_0)).trans hx101_0
                  replace p101 := eq_true p101
                  replace q101 := eq_true q101
                  have p102 : 0 ≤ (0 : Int) := (by omega)
                  have q102 : 0 < (l1.length : Int) := of_decide_eq_true (by first | (with_reducible assumption) | assumption)
                  obtain ⟨ad102, e102, hx102_0⟩ := Kd.at_int HR1.out 0 p102 q102
                  have hw102_0 := hx102_0
                  (try rw [show ((0 : Int)).toNat = 0 from rfl] at hw102_0)
                  (try rw [show 0 * 1 = 0 from rfl] at hw102_0)
                  (try rw [Addr.add_zero'] at hw102_0)
                  cases e102
                  have qi102 : (0 < l1.length) = True := eq_true (by omega)
                  (try rw [show ((0 : Int)).toNat = 0 from rfl] at hx102_0)
                  (try rw [Addr.add_zero'] at hx102_0)
                  replace hx102_0 := (HB.out.cell (World.block_lt_of_cell? w _ hx102_0)).trans hx102_0
                  replace p102 := eq_true p102
                  replace q102 := eq_true q102
                  refine start_ (n := 8) (S := fun w' => w'.cell? ad101 = some (.int .i64 (rd l0 0)) ∧ w'.cell? ad102 = some (.int .i64 (rd l1 0))) (ds := []) #[false, false, false, false, false, false, false, false] (by kernel_rfl) rfl rfl ⟨((HB.out.cell (World.block_lt_of_cell? w _ hw101_0)).trans hw101_0), ((HB.out.cell (World.block_lt_of_cell? w _ hw102_0)).trans hw102_0)⟩ (fun hHeld => ?_); refine with_tabW spinneyref19_Compare.tab7 spinneyref19_Compare.bits7 (fun HT_ HW_ => ?_)
                  generalize wc.drew = w11 at HB hx101_0 hx102_0 hHeld ⊢
                  refine pure_ (i := 0) (N := some 23) (v := ?_) (a' := ?_) #[true, false, false, false, false, false, false, false] rfl rfl (any_of HT_.out (by kernel_rfl)) (fun _ _ _ h => h) (Or.inl ⟨by rfl, ?_⟩) ?_ ?_
                  rotate_left
                  · intro w'
                    go_simp
                    with_reducible rfl
                  rotate_left
                  · simp only [Act.put, List.setIfInBounds_toArray, List.set_cons_zero, List.set_cons_succ, i64_w, i32_w]
                    rfl
                  refine pure_ (i := 1) (N := some 24) (v := ?_) (a' := ?_) #[true, true, false, false, false, false, false, false] rfl rfl (any_of HT_.out (by kernel_rfl)) (fun _ _ _ h => h) (Or.inl ⟨by rfl, ?_⟩) ?_ ?_
                  rotate_left
                  · intro w'
                    go_simp
                    with_reducible rfl
                  rotate_left
                  · simp only [Act.put, List.setIfInBounds_toArray, List.set_cons_zero, List.set_cons_succ, i64_w, i32_w]
                    rfl
                  refine pure_ (i := 3) (N := some 26) (v := ?_) (a' := ?_) #[true, true, false, true, false, false, false, false] rfl rfl (any_of HT_.out (by kernel_rfl)) (fun _ _ _ h => h) (Or.inl ⟨by rfl, ?_⟩) ?_ ?_
                  rotate_left
                  · intro w'
                    go_simp
                    with_reducible rfl
                  rotate_left
                  · simp only [Act.put, List.setIfInBounds_toArray, List.set_cons_zero, List.set_cons_succ, i64_w, i32_w]
                    rfl
                  refine pure_ (i := 4) (N := some 27) (v := ?_) (a' := ?_) #[true, true, false, true, true, false, false, false] rfl rfl (any_of HT_.out (by kernel_rfl)) (fun _ _ _ h => h) (Or.inl ⟨by rfl, ?_⟩) ?_ ?_
                  rotate_left
                  · intro w'
                    go_simp
                    with_reducible rfl
                  rotate_left
                  · simp only [Act.put, List.setIfInBounds_toArray, List.set_cons_zero, List.set_cons_succ, i64_w, i32_w]
                    rfl
                  refine take_ (i := 2) (N := some 25) (v := ?_) (a' := ?_) #[true, true, true, true, true, false, false, false] rfl rfl (take_ofW HT_.out HW_.out (by kernel_rfl)) (fun _ _ _ h => h) (Or.inl ⟨by rfl, ?_⟩) hHeld ?_ ?_
                  rotate_left
                  · rintro w' ⟨s0, s1⟩
                    go_simp
                    with_reducible rfl
                  rotate_left
                  · simp only [Act.put, List.setIfInBounds_toArray, List.set_cons_zero, List.set_cons_succ, i64_w, i32_w]
                    rfl
                  refine take_ (i := 5) (N := some 28) (v := ?_) (a' := ?_) #[true, true, true, true, true, true, false, false] rfl rfl (take_ofW HT_.out HW_.out (by kernel_rfl)) (fun _ _ _ h => h) (Or.inl ⟨by rfl, ?_⟩) hHeld ?_ ?_
                  rotate_left
                  · rintro w' ⟨s0, s1⟩
                    go_simp
                    with_reducible rfl
                  rotate_left
                  · simp only [Act.put, List.setIfInBounds_toArray, List.set_cons_zero, List.set_cons_succ, i64_w, i32_w]
                    rfl
                  refine pure_ (i := 6) (N := some 29) (v := ?_) (a' := ?_) #[true, true, true, true, true, true, true, false] rfl rfl (any_of HT_.out (by kernel_rfl)) (fun _ _ _ h => h) (Or.inl ⟨by rfl, ?_⟩) ?_ ?_
                  rotate_left
                  · intro w'
                    go_simp
                    with_reducible rfl
                  rotate_left
                  · simp only [Act.put, List.setIfInBounds_toArray, List.set_cons_zero, List.set_cons_succ, i64_w, i32_w]
                    rfl
                  refine pure_ (i := 7) (N := some 22) (v := ?_) (a' := ?_) #[true, true, true, true, true, true, true, true] rfl rfl (any_of HT_.out (by kernel_rfl)) (fun _ _ _ h => h) (Or.inl ⟨by rfl, ?_⟩) ?_ ?_
                  rotate_left
                  · intro w'
                    go_simp
                    with_reducible rfl
                  rotate_left
                  · simp only [Act.put, List.setIfInBounds_toArray, List.set_cons_zero, List.set_cons_succ, i64_w, i32_w]
                    rfl
                  refine done_ (done_of HT_.out (by kernel_rfl)) ?_
                  try go_wp2
                  go_ret
                  exact ⟨by first | rfl | (simp [errW_none, errW_some] <;> rfl) | (simp [*, errW_none, errW_some] <;> rfl), by repeat (first | (with_reducible first | exact HB.out | apply below_alloc | apply pw_below_drewN | apply below_drew1) | exact HB.out)⟩
                · rw [if_neg c10] at H
                  have c10b0 : decide ((rd l0 0) < (rd l1 0)) = false := decide_eq_false c10
                  clear c10
                  by_cases c12 : (rd l0 0) > (rd l1 0)
                  · rw [if_pos c12] at H
                    have c12b0 : decide ((rd l1 0) < (rd l0 0)) = true := decide_eq_true c12
                    clear c12
                    obtain rfl := Option.some.inj H
                    try go_wp2
                    have n0_ := Aside0.mk (below_drew1 HB.out)
                    clear HB
                    have HB := n0_
                    clear n0_
                    have p101 : 0 ≤ (0 : Int) := (by omega)
                    have q101 : 0 < (l0.length : Int) := of_decide_eq_true (by first | (with_reducible assumption) | assumption)
                    obtain ⟨ad101, e101, hx101_0⟩ := Kd.at_int HR0.out 0 p101 q101
                    have hw101_0 := hx101_0
                    (try rw [show ((0 : Int)).toNat = 0 from rfl] at hw101_0)
                    (try rw [show 0 * 1 = 0 from rfl] at hw101_0)
                    (try rw [Addr.add_zero'] at hw101_0)
                    cases e101
                    have qi101 : (0 < l0.length) = True := eq_true (by omega)
                    (try rw [show ((0 : Int)).toNat = 0 from rfl] at hx101_0)
                    (try rw [Addr.add_zero'] at hx101_0)
                    replace hx101_0 := (HB.out.cell (World.block_lt_of_cell? w _ hx101_0)).trans hx101_0
                    replace p101 := eq_true p101
                    replace q101 := eq_true q101
                    have p102 : 0 ≤ (0 : Int) := (by omega)
                    have q102 : 0 < (l1.length : Int) := of_decide_eq_true (by first | (with_reducible assumption) | assumption)
                    obtain ⟨ad102, e102, hx102_0⟩ := Kd.at_int HR1.out 0 p102 q102
                    have hw102_0 := hx102_0
                    (try rw [show ((0 : Int)).toNat = 0 from rfl] at hw102_0)
                    (try rw [show 0 * 1 = 0 from rfl] at hw102_0)
                    (try rw [Addr.add_zero'] at hw102_0)
                    cases e102
                    have qi102 : (0 < l1.length) = True := eq_true (by omega)
                    (try rw [show ((0 : Int)).toNat = 0 from rfl] at hx102_0)
                    (try rw [Addr.add_zero'] at hx102_0)
                    replace hx102_0 := (HB.out.cell (World.block_lt_of_cell? w _ hx102_0)).trans hx102_0
                    replace p102 := eq_true p102
                    replace q102 := eq_true q102
                    refine start_ (n := 8) (S := fun w' => w'.cell? ad101 = some (.int .i64 (rd l0 0)) ∧ w'.cell? ad102 = some (.int .i64 (rd l1 0))) (ds := []) #[false, false, false, false, false, false, false, false] (by kernel_rfl) rfl rfl ⟨((HB.out.cell (World.block_lt_of_cell? w _ hw101_0)).trans hw101_0), ((HB.out.cell (World.block_lt_of_cell? w _ hw102_0)).trans hw102_0)⟩ (fun hHeld => ?_); refine with_tabW spinneyref19_Compare.tab7 spinneyref19_Compare.bits7 (fun HT_ HW_ => ?_)
                    generalize wc.drew = w13 at HB hx101_0 hx102_0 hHeld ⊢
                    refine pure_ (i := 0) (N := some 23) (v := ?_) (a' := ?_) #[true, false, false, false, false, false, false, false] rfl rfl (any_of HT_.out (by kernel_rfl)) (fun _ _ _ h => h) (Or.inl ⟨by rfl, ?_⟩) ?_ ?_
                    rotate_left
                    · intro w'
                      go_simp
                      with_reducible rfl
                    rotate_left
                    · simp only [Act.put, List.setIfInBounds_toArray, List.set_cons_zero, List.set_cons_succ, i64_w, i32_w]
                      rfl
                    refine pure_ (i := 1) (N := some 24) (v := ?_) (a' := ?_) #[true, true, false, false, false, false, false, false] rfl rfl (any_of HT_.out (by kernel_rfl)) (fun _ _ _ h => h) (Or.inl ⟨by rfl, ?_⟩) ?_ ?_
                    rotate_left
                    · intro w'
                      go_simp
                      with_reducible rfl
                    rotate_left
                    · simp only [Act.put, List.setIfInBounds_toArray, List.set_cons_zero, List.set_cons_succ, i64_w, i32_w]
                      rfl
                    refine pure_ (i := 3) (N := some 26) (v := ?_) (a' := ?_) #[true, true, false, true, false, false, false, false] rfl rfl (any_of HT_.out (by kernel_rfl)) (fun _ _ _ h => h) (Or.inl ⟨by rfl, ?_⟩) ?_ ?_
                    rotate_left
                    · intro w'
                      go_simp
                      with_reducible rfl
                    rotate_left
                    · simp only [Act.put, List.setIfInBounds_toArray, List.set_cons_zero, List.set_cons_succ, i64_w, i32_w]
                      rfl
                    refine pure_ (i := 4) (N := some 27) (v := ?_) (a' := ?_) #[true, true, false, true, true, false, false, false] rfl rfl (any_of HT_.out (by kernel_rfl)) (fun _ _ _ h => h) (Or.inl ⟨by rfl, ?_⟩) ?_ ?_
                    rotate_left
                    · intro w'
                      go_simp
                      with_reducible rfl
                    rotate_left
                    · simp only [Act.put, List.setIfInBounds_toArray, List.set_cons_zero, List.set_cons_succ, i64_w, i32_w]
                      rfl
                    refine take_ (i := 2) (N := some 25) (v := ?_) (a' := ?_) #[true, true, true, true, true, false, false, false] rfl rfl (take_ofW HT_.out HW_.out (by kernel_rfl)) (fun _ _ _ h => h) (Or.inl ⟨by rfl, ?_⟩) hHeld ?_ ?_
                    rotate_left
                    · rintro w' ⟨s0, s1⟩
                      go_simp
                      with_reducible rfl
                    rotate_left
                    · simp only [Act.put, List.setIfInBounds_toArray, List.set_cons_zero, List.set_cons_succ, i64_w, i32_w]
                      rfl
                    refine take_ (i := 5) (N := some 28) (v := ?_) (a' := ?_) #[true, true, true, true, true, true, false, false] rfl rfl (take_ofW HT_.out HW_.out (by kernel_rfl)) (fun _ _ _ h => h) (Or.inl ⟨by rfl, ?_⟩) hHeld ?_ ?_
                    rotate_left
                    · rintro w' ⟨s0, s1⟩
                      go_simp
                      with_reducible rfl
                    rotate_left
                    · simp only [Act.put, List.setIfInBounds_toArray, List.set_cons_zero, List.set_cons_succ, i64_w, i32_w]
                      rfl
                    refine pure_ (i := 6) (N := some 29) (v := ?_) (a' := ?_) #[true, true, true, true, true, true, true, false] rfl rfl (any_of HT_.out (by kernel_rfl)) (fun _ _ _ h => h) (Or.inl ⟨by rfl, ?_⟩) ?_ ?_
                    rotate_left
                    · intro w'
                      go_simp
                      with_reducible rfl
                    rotate_left
                    · simp only [Act.put, List.setIfInBounds_toArray, List.set_cons_zero, List.set_cons_succ, i64_w, i32_w]
                      rfl
                    refine pure_ (i := 7) (N := some 22) (v := ?_) (a' := ?_) #[true, true, true, true, true, true, true, true] rfl rfl (any_of HT_.out (by kernel_rfl)) (fun _ _ _ h => h) (Or.inl ⟨by rfl, ?_⟩) ?_ ?_
                    rotate_left
                    · intro w'
                      go_simp
                      with_reducible rfl
                    rotate_left
                    · simp only [Act.put, List.setIfInBounds_toArray, List.set_cons_zero, List.set_cons_succ, i64_w, i32_w]
                      rfl
                    refine done_ (done_of HT_.out (by kernel_rfl)) ?_
                    try go_wp2
                    have n0_ := Aside0.mk (below_drew1 HB.out)
                    clear HB
                    have HB := n0_
                    clear n0_
                    have p103 : 0 ≤ (0 : Int) := (by omega)
                    have q103 : 0 < (l0.length : Int) := of_decide_eq_true (by first | (with_reducible assumption) | assumption)
                    obtain ⟨ad103, e103, hx103_0⟩ := Kd.at_int HR0.out 0 p103 q103
                    have hw103_0 := hx103_0
                    (try rw [show ((0 : Int)).toNat = 0 from rfl] at hw103_0)
                    (try rw [show 0 * 1 = 0 from rfl] at hw103_0)
                    (try rw [Addr.add_zero'] at hw103_0)
                    obtain rfl : ad101 = ad103 := (by injection e103)
                    have qi103 : (0 < l0.length) = True := eq_true (by omega)
                    (try rw [show ((0 : Int)).toNat = 0 from rfl] at hx103_0)
                    (try rw [Addr.add_zero'] at hx103_0)
                    replace hx103_0 := (HB.out.cell (World.block_lt_of_cell? w _ hx103_0)).trans hx103_0
                    replace p103 := eq_true p103
                    replace q103 := eq_true q103
                    have p104 : 0 ≤ (0 : Int) := (by omega)
                    have q104 : 0 < (l1.length : Int) := of_decide_eq_true (by first | (with_reducible assumption) | assumption)
                    obtain ⟨ad104, e104, hx104_0⟩ := Kd.at_int HR1.out 0 p104 q104
                    have hw104_0 := hx104_0
                    (try rw [show ((0 : Int)).toNat = 0 from rfl] at hw104_0)
                    (try rw [show 0 * 1 = 0 from rfl] at hw104_0)
                    (try rw [Addr.add_zero'] at hw104_0)
                    obtain rfl : ad102 = ad104 := (by injection e104)
                    have qi104 : (0 < l1.length) = True := eq_true (by omega)
                    (try rw [show ((0 : Int)).toNat = 0 from rfl] at hx104_0)
                    (try rw [Addr.add_zero'] at hx104_0)
                    replace hx104_0 := (HB.out.cell (World.block_lt_of_cell? w _ hx104_0)).trans hx104_0
                    replace p104 := eq_true p104
                    replace q104 := eq_true q104
                    refine start_ (n := 8) (S := fun w' => w'.cell? ad101 = some (.int .i64 (rd l0 0)) ∧ w'.cell? ad102 = some (.int .i64 (rd l1 0))) (ds := []) #[false, false, false, false, false, false, false, false] (by kernel_rfl) rfl rfl ⟨((HB.out.cell (World.block_lt_of_cell? w _ hw103_0)).trans hw103_0), ((HB.out.cell (World.block_lt_of_cell? w _ hw104_0)).trans hw104_0)⟩ (fun hHeld => ?_); refine with_tabW spinneyref19_Compare.tab9 spinneyref19_Compare.bits9 (fun HT_ HW_ => ?_)
                    generalize w13.drew = w14 at HB hx103_0 hx104_0 hHeld ⊢
                    refine pure_ (i := 0) (N := some 31) (v := ?_) (a' := ?_) #[true, false, false, false, false, false, false, false] rfl rfl (any_of HT_.out (by kernel_rfl)) (fun _ _ _ h => h) (Or.inl ⟨by rfl, ?_⟩) ?_ ?_
                    rotate_left
                    · intro w'
                      go_simp
                      with_reducible rfl
                    rotate_left
                    · simp only [Act.put, List.setIfInBounds_toArray, List.set_cons_zero, List.set_cons_succ, i64_w, i32_w]
                      rfl
                    refine pure_ (i := 1) (N := some 32) (v := ?_) (a' := ?_) #[true, true, false, false, false, false, false, false] rfl rfl (any_of HT_.out (by kernel_rfl)) (fun _ _ _ h => h) (Or.inl ⟨by rfl, ?_⟩) ?_ ?_
                    rotate_left
                    · intro w'
                      go_simp
                      with_reducible rfl
                    rotate_left
                    · simp only [Act.put, List.setIfInBounds_toArray, List.set_cons_zero, List.set_cons_succ, i64_w, i32_w]
                      rfl
                    refine pure_ (i := 3) (N := some 34) (v := ?_) (a' := ?_) #[true, true, false, true, false, false, false, false] rfl rfl (any_of HT_.out (by kernel_rfl)) (fun _ _ _ h => h) (Or.inl ⟨by rfl, ?_⟩) ?_ ?_
                    rotate_left
                    · intro w'
                      go_simp
                      with_reducible rfl
                    rotate_left
                    · simp only [Act.put, List.setIfInBounds_toArray, List.set_cons_zero, List.set_cons_succ, i64_w, i32_w]
                      rfl
                    refine pure_ (i := 4) (N := some 35) (v := ?_) (a' := ?_) #[true, true, false, true, true, false, false, false] rfl rfl (any_of HT_.out (by kernel_rfl)) (fun _ _ _ h => h) (Or.inl ⟨by rfl, ?_⟩) ?_ ?_
                    rotate_left
                    · intro w'
                      go_simp
                      with_reducible rfl
                    rotate_left
                    · simp only [Act.put, List.setIfInBounds_toArray, List.set_cons_zero, List.set_cons_succ, i64_w, i32_w]
                      rfl
                    refine take_ (i := 2) (N := some 33) (v := ?_) (a' := ?_) #[true, true, true, true, true, false, false, false] rfl rfl (take_ofW HT_.out HW_.out (by kernel_rfl)) (fun _ _ _ h => h) (Or.inl ⟨by rfl, ?_⟩) hHeld ?_ ?_
                    rotate_left
                    · rintro w' ⟨s0, s1⟩
                      go_simp
                      with_reducible rfl
                    rotate_left
                    · simp only [Act.put, List.setIfInBounds_toArray, List.set_cons_zero, List.set_cons_succ, i64_w, i32_w]
                      rfl
                    refine take_ (i := 5) (N := some 36) (v := ?_) (a' := ?_) #[true, true, true, true, true, true, false, false] rfl rfl (take_ofW HT_.out HW_.out (by kernel_rfl)) (fun _ _ _ h => h) (Or.inl ⟨by rfl, ?_⟩) hHeld ?_ ?_
                    rotate_left
                    · rintro w' ⟨s0, s1⟩
                      go_simp
                      with_reducible rfl
                    rotate_left
                    · simp only [Act.put, List.setIfInBounds_toArray, List.set_cons_zero, List.set_cons_succ, i64_w, i32_w]
                      rfl
                    refine pure_ (i := 6) (N := some 37) (v := ?_) (a' := ?_) #[true, true, true, true, true, true, true, false] rfl rfl (any_of HT_.out (by kernel_rfl)) (fun _ _ _ h => h) (Or.inl ⟨by rfl, ?_⟩) ?_ ?_
                    rotate_left
                    · intro w'
                      go_simp
                      with_reducible rfl
                    rotate_left
                    · simp only [Act.put, List.setIfInBounds_toArray, List.set_cons_zero, List.set_cons_succ, i64_w, i32_w]
                      rfl
                    refine pure_ (i := 7) (N := some 30) (v := ?_) (a' := ?_) #[true, true, true, true, true, true, true, true] rfl rfl (any_of HT_.out (by kernel_rfl)) (fun _ _ _ h => h) (Or.inl ⟨by rfl, ?_⟩) ?_ ?_
                    rotate_left
                    · intro w'
                      go_simp
                      with_reducible rfl
                    rotate_left
                    · simp only [Act.put, List.setIfInBounds_toArray, List.set_cons_zero, List.set_cons_succ, i64_w, i32_w]
                      rfl
                    refine done_ (done_of HT_.out (by kernel_rfl)) ?_
                    try go_wp2
                    go_ret
                    exact ⟨by first | rfl | (simp [errW_none, errW_some] <;> rfl) | (simp [*, errW_none, errW_some] <;> rfl), by repeat (first | (with_reducible first | exact HB.out | apply below_alloc | apply pw_below_drewN | apply below_drew1) | exact HB.out)⟩
                  · rw [if_neg c12] at H
                    have c12b0 : decide ((rd l1 0) < (rd l0 0)) = false := decide_eq_false c12
                    clear c12
                    by_cases c15 : 1 ≤ (l0.length : Int)
                    · rw [if_pos c15] at H
                      have c15b0 := eq_true c15
                      have c15b1 : decide (1 ≤ (l0.length : Int)) = true := decide_eq_true c15
                      clear c15
                      by_cases c16 : 1 ≤ (l1.length : Int)
                      · rw [if_pos c16] at H
                        have c16b0 := eq_true c16
                        have c16b1 : decide (1 ≤ (l1.length : Int)) = true := decide_eq_true c16
                        clear c16
                        replace H := Option.bind_eq_some_iff.mp H
                        obtain ⟨t107, A170, H⟩ := H
                        replace H : (some t107) = some r := H
                        have A17 := Aside0.mk A170
                        clear A170
                        obtain rfl := Option.some.inj H
                        try go_wp2
                        have n0_ := Aside0.mk (below_drew1 HB.out)
                        clear HB
                        have HB := n0_
                        clear n0_
                        have p101 : 0 ≤ (0 : Int) := (by omega)
                        have q101 : 0 < (l0.length : Int) := of_decide_eq_true (by first | (with_reducible assumption) | assumption)
                        obtain ⟨ad101, e101, hx101_0⟩ := Kd.at_int HR0.out 0 p101 q101
                        have hw101_0 := hx101_0
                        (try rw [show ((0 : Int)).toNat = 0 from rfl] at hw101_0)
                        (try rw [show 0 * 1 = 0 from rfl] at hw101_0)
                        (try rw [Addr.add_zero'] at hw101_0)
                        cases e101
                        have qi101 : (0 < l0.length) = True := eq_true (by omega)
                        (try rw [show ((0 : Int)).toNat = 0 from rfl] at hx101_0)
                        (try rw [Addr.add_zero'] at hx101_0)
                        replace hx101_0 := (HB.out.cell (World.block_lt_of_cell? w _ hx101_0)).trans hx101_0
                        replace p101 := eq_true p101
                        replace q101 := eq_true q101
                        have p102 : 0 ≤ (0 : Int) := (by omega)
                        have q102 : 0 < (l1.length : Int) := of_decide_eq_true (by first | (with_reducible assumption) | assumption)
                        obtain ⟨ad102, e102, hx102_0⟩ := Kd.at_int HR1.out 0 p102 q102
                        have hw102_0 := hx102_0
                        (try rw [show ((0 : Int)).toNat = 0 from rfl] at hw102_0)
                        (try rw [show 0 * 1 = 0 from rfl] at hw102_0)
                        (try rw [Addr.add_zero'] at hw102_0)
                        cases e102
                        have qi102 : (0 < l1.length) = True := eq_true (by omega)
                        (try rw [show ((0 : Int)).toNat = 0 from rfl] at hx102_0)
                        (try rw [Addr.add_zero'] at hx102_0)
                        replace hx102_0 := (HB.out.cell (World.block_lt_of_cell? w _ hx102_0)).trans hx102_0
                        replace p102 := eq_true p102
                        replace q102 := eq_true q102
                        refine start_ (n := 8) (S := fun w' => w'.cell? ad101 = some (.int .i64 (rd l0 0)) ∧ w'.cell? ad102 = some (.int .i64 (rd l1 0))) (ds := []) #[false, false, false, false, false, false, false, false] (by kernel_rfl) rfl rfl ⟨((HB.out.cell (World.block_lt_of_cell? w _ hw101_0)).trans hw101_0), ((HB.out.cell (World.block_lt_of_cell? w _ hw102_0)).trans hw102_0)⟩ (fun hHeld => ?_); refine with_tabW spinneyref19_Compare.tab7 spinneyref19_Compare.bits7 (fun HT_ HW_ => ?_)
                        generalize wc.drew = w18 at HB hx101_0 hx102_0 hHeld ⊢
                        refine pure_ (i := 0) (N := some 23) (v := ?_) (a' := ?_) #[true, false, false, false, false, false, false, false] rfl rfl (any_of HT_.out (by kernel_rfl)) (fun _ _ _ h => h) (Or.inl ⟨by rfl, ?_⟩) ?_ ?_
                        rotate_left
                        · intro w'
                          go_simp
                          with_reducible rfl
                        rotate_left
                        · simp only [Act.put, List.setIfInBounds_toArray, List.set_cons_zero, List.set_cons_succ, i64_w, i32_w]
                          rfl
                        refine pure_ (i := 1) (N := some 24) (v := ?_) (a' := ?_) #[true, true, false, false, false, false, false, false] rfl rfl (any_of HT_.out (by kernel_rfl)) (fun _ _ _ h => h) (Or.inl ⟨by rfl, ?_⟩) ?_ ?_
                        rotate_left
                        · intro w'
                          go_simp
                          with_reducible rfl
                        rotate_left
                        · simp only [Act.put, List.setIfInBounds_toArray, List.set_cons_zero, List.set_cons_succ, i64_w, i32_w]
                          rfl
                        refine pure_ (i := 3) (N := some 26) (v := ?_) (a' := ?_) #[true, true, false, true, false, false, false, false] rfl rfl (any_of HT_.out (by kernel_rfl)) (fun _ _ _ h => h) (Or.inl ⟨by rfl, ?_⟩) ?_ ?_
                        rotate_left
                        · intro w'
                          go_simp
                          with_reducible rfl
                        rotate_left
                        · simp only [Act.put, List.setIfInBounds_toArray, List.set_cons_zero, List.set_cons_succ, i64_w, i32_w]
                          rfl
                        refine pure_ (i := 4) (N := some 27) (v := ?_) (a' := ?_) #[true, true, false, true, true, false, false, false] rfl rfl (any_of HT_.out (by kernel_rfl)) (fun _ _ _ h => h) (Or.inl ⟨by rfl, ?_⟩) ?_ ?_
                        rotate_left
                        · intro w'
                          go_simp
                          with_reducible rfl
                        rotate_left
                        · simp only [Act.put, List.setIfInBounds_toArray, List.set_cons_zero, List.set_cons_succ, i64_w, i32_w]
                          rfl
                        refine take_ (i := 2) (N := some 25) (v := ?_) (a' := ?_) #[true, true, true, true, true, false, false, false] rfl rfl (take_ofW HT_.out HW_.out (by kernel_rfl)) (fun _ _ _ h => h) (Or.inl ⟨by rfl, ?_⟩) hHeld ?_ ?_
                        rotate_left
                        · rintro w' ⟨s0, s1⟩
                          go_simp
                          with_reducible rfl
                        rotate_left
                        · simp only [Act.put, List.setIfInBounds_toArray, List.set_cons_zero, List.set_cons_succ, i64_w, i32_w]
                          rfl
                        refine take_ (i := 5) (N := some 28) (v := ?_) (a' := ?_) #[true, true, true, true, true, true, false, false] rfl rfl (take_ofW HT_.out HW_.out (by kernel_rfl)) (fun _ _ _ h => h) (Or.inl ⟨by rfl, ?_⟩) hHeld ?_ ?_
                        rotate_left
                        · rintro w' ⟨s0, s1⟩
                          go_simp
                          with_reducible rfl
                        rotate_left
                        · simp only [Act.put, List.setIfInBounds_toArray, List.set_cons_zero, List.set_cons_succ, i64_w, i32_w]
                          rfl
                        refine pure_ (i := 6) (N := some 29) (v := ?_) (a' := ?_) #[true, true, true, true, true, true, true, false] rfl rfl (any_of HT_.out (by kernel_rfl)) (fun _ _ _ h => h) (Or.inl ⟨by rfl, ?_⟩) ?_ ?_
                        rotate_left
                        · intro w'
                          go_simp
                          with_reducible rfl
                        rotate_left
                        · simp only [Act.put, List.setIfInBounds_toArray, List.set_cons_zero, List.set_cons_succ, i64_w, i32_w]
                          rfl
                        refine pure_ (i := 7) (N := some 22) (v := ?_) (a' := ?_) #[true, true, true, true, true, true, true, true] rfl rfl (any_of HT_.out (by kernel_rfl)) (fun _ _ _ h => h) (Or.inl ⟨by rfl, ?_⟩) ?_ ?_
                        rotate_left
                        · intro w'
                          go_simp
                          with_reducible rfl
                        rotate_left
                        · simp only [Act.put, List.setIfInBounds_toArray, List.set_cons_zero, List.set_cons_succ, i64_w, i32_w]
                          rfl
                        refine done_ (done_of HT_.out (by kernel_rfl)) ?_
                        try go_wp2
                        have n0_ := Aside0.mk (below_drew1 HB.out)
                        clear HB
                        have HB := n0_
                        clear n0_
                        have p103 : 0 ≤ (0 : Int) := (by omega)
                        have q103 : 0 < (l0.length : Int) := of_decide_eq_true (by first | (with_reducible assumption) | assumption)
                        obtain ⟨ad103, e103, hx103_0⟩ := Kd.at_int HR0.out 0 p103 q103
                        have hw103_0 := hx103_0
                        (try rw [show ((0 : Int)).toNat = 0 from rfl] at hw103_0)
                        (try rw [show 0 * 1 = 0 from rfl] at hw103_0)
                        (try rw [Addr.add_zero'] at hw103_0)
                        obtain rfl : ad101 = ad103 := (by injection e103)
                        have qi103 : (0 < l0.length) = True := eq_true (by omega)
                        (try rw [show ((0 : Int)).toNat = 0 from rfl] at hx103_0)
                        (try rw [Addr.add_zero'] at hx103_0)
                        replace hx103_0 := (HB.out.cell (World.block_lt_of_cell? w _ hx103_0)).trans hx103_0
                        replace p103 := eq_true p103
                        replace q103 := eq_true q103
                        have p104 : 0 ≤ (0 : Int) := (by omega)
                        have q104 : 0 < (l1.length : Int) := of_decide_eq_true (by first | (with_reducible assumption) | assumption)
                        obtain ⟨ad104, e104, hx104_0⟩ := Kd.at_int HR1.out 0 p104 q104
                        have hw104_0 := hx104_0
                        (try rw [show ((0 : Int)).toNat = 0 from rfl] at hw104_0)
                        (try rw [show 0 * 1 = 0 from rfl] at hw104_0)
                        (try rw [Addr.add_zero'] at hw104_0)
                        obtain rfl : ad102 = ad104 := (by injection e104)
                        have qi104 : (0 < l1.length) = True := eq_true (by omega)
                        (try rw [show ((0 : Int)).toNat = 0 from rfl] at hx104_0)
                        (try rw [Addr.add_zero'] at hx104_0)
                        replace hx104_0 := (HB.out.cell (World.block_lt_of_cell? w _ hx104_0)).trans hx104_0
                        replace p104 := eq_true p104
                        replace q104 := eq_true q104
                        refine start_ (n := 8) (S := fun w' => w'.cell? ad101 = some (.int .i64 (rd l0 0)) ∧ w'.cell? ad102 = some (.int .i64 (rd l1 0))) (ds := []) #[false, false, false, false, false, false, false, false] (by kernel_rfl) rfl rfl ⟨((HB.out.cell (World.block_lt_of_cell? w _ hw103_0)).trans hw103_0), ((HB.out.cell (World.block_lt_of_cell? w _ hw104_0)).trans hw104_0)⟩ (fun hHeld => ?_); refine with_tabW spinneyref19_Compare.tab9 spinneyref19_Compare.bits9 (fun HT_ HW_ => ?_)
                        generalize w18.drew = w19 at HB hx103_0 hx104_0 hHeld ⊢
                        refine pure_ (i := 0) (N := some 31) (v := ?_) (a' := ?_) #[true, false, false, false, false, false, false, false] rfl rfl (any_of HT_.out (by kernel_rfl)) (fun _ _ _ h => h) (Or.inl ⟨by rfl, ?_⟩) ?_ ?_
                        rotate_left
                        · intro w'
                          go_simp
                          with_reducible rfl
                        rotate_left
                        · simp only [Act.put, List.setIfInBounds_toArray, List.set_cons_zero, List.set_cons_succ, i64_w, i32_w]
                          rfl
                        refine pure_ (i := 1) (N := some 32) (v := ?_) (a' := ?_) #[true, true, false, false, false, false, false, false] rfl rfl (any_of HT_.out (by kernel_rfl)) (fun _ _ _ h => h) (Or.inl ⟨by rfl, ?_⟩) ?_ ?_
                        rotate_left
                        · intro w'
                          go_simp
                          with_reducible rfl
                        rotate_left
                        · simp only [Act.put, List.setIfInBounds_toArray, List.set_cons_zero, List.set_cons_succ, i64_w, i32_w]
                          rfl
                        refine pure_ (i := 3) (N := some 34) (v := ?_) (a' := ?_) #[true, true, false, true, false, false, false, false] rfl rfl (any_of HT_.out (by kernel_rfl)) (fun _ _ _ h => h) (Or.inl ⟨by rfl, ?_⟩) ?_ ?_
                        rotate_left
                        · intro w'
                          go_simp
                          with_reducible rfl
                        rotate_left
                        · simp only [Act.put, List.setIfInBounds_toArray, List.set_cons_zero, List.set_cons_succ, i64_w, i32_w]
                          rfl
                        refine pure_ (i := 4) (N := some 35) (v := ?_) (a' := ?_) #[true, true, false, true, true, false, false, false] rfl rfl (any_of HT_.out (by kernel_rfl)) (fun _ _ _ h => h) (Or.inl ⟨by rfl, ?_⟩) ?_ ?_
                        rotate_left
                        · intro w'
                          go_simp
                          with_reducible rfl
                        rotate_left
                        · simp only [Act.put, List.setIfInBounds_toArray, List.set_cons_zero, List.set_cons_succ, i64_w, i32_w]
                          rfl
                        refine take_ (i := 2) (N := some 33) (v := ?_) (a' := ?_) #[true, true, true, true, true, false, false, false] rfl rfl (take_ofW HT_.out HW_.out (by kernel_rfl)) (fun _ _ _ h => h) (Or.inl ⟨by rfl, ?_⟩) hHeld ?_ ?_
                        rotate_left
                        · rintro w' ⟨s0, s1⟩
                          go_simp
                          with_reducible rfl
                        rotate_left
                        · simp only [Act.put, List.setIfInBounds_toArray, List.set_cons_zero, List.set_cons_succ, i64_w, i32_w]
                          rfl
                        refine take_ (i := 5) (N := some 36) (v := ?_) (a' := ?_) #[true, true, true, true, true, true, false, false] rfl rfl (take_ofW HT_.out HW_.out (by kernel_rfl)) (fun _ _ _ h => h) (Or.inl ⟨by rfl, ?_⟩) hHeld ?_ ?_
                        rotate_left
                        · rintro w' ⟨s0, s1⟩
                          go_simp
                          with_reducible rfl
                        rotate_left
                        · simp only [Act.put, List.setIfInBounds_toArray, List.set_cons_zero, List.set_cons_succ, i64_w, i32_w]
                          rfl
                        refine pure_ (i := 6) (N := some 37) (v := ?_) (a' := ?_) #[true, true, true, true, true, true, true, false] rfl rfl (any_of HT_.out (by kernel_rfl)) (fun _ _ _ h => h) (Or.inl ⟨by rfl, ?_⟩) ?_ ?_
                        rotate_left
                        · intro w'
                          go_simp
                          with_reducible rfl
                        rotate_left
                        · simp only [Act.put, List.setIfInBounds_toArray, List.set_cons_zero, List.set_cons_succ, i64_w, i32_w]
                          rfl
                        refine pure_ (i := 7) (N := some 30) (v := ?_) (a' := ?_) #[true, true, true, true, true, true, true, true] rfl rfl (any_of HT_.out (by kernel_rfl)) (fun _ _ _ h => h) (Or.inl ⟨by rfl, ?_⟩) ?_ ?_
                        rotate_left
                        · intro w'
                          go_simp
                          with_reducible rfl
                        rotate_left
                        · simp only [Act.put, List.setIfInBounds_toArray, List.set_cons_zero, List.set_cons_succ, i64_w, i32_w]
                          rfl
                        refine done_ (done_of HT_.out (by kernel_rfl)) ?_
                        try go_wp2
                        have n0_ := Aside0.mk (below_drew1 HB.out)
                        clear HB
                        have HB := n0_
                        clear n0_
                        obtain ⟨i021, hi021, _, hsz21, _⟩ := info_parts info3
                        obtain ⟨A21, hcut21, hA21, hC21⟩ := print_drop_of (P := Try.prog) (Value.int .i64) 0 23 3 .i64 Try.underlying23 hi021 hsz21 (some ad101) c0 l0 1 (by omega) (of_decide_eq_true (by first | (with_reducible assumption) | assumption)) HC0.out
                        have HR105 := Aside0.mk (Kd.C_of_reads (h1 := fun _ => rfl) (hA21 _ (Kd.reads_of_C HR0.out)))
                        have HC105 := Aside0.mk hC21
                        clear hA21 hC21 hi021 hsz21
                        obtain ⟨i022, hi022, _, hsz22, _⟩ := info_parts info3
                        obtain ⟨A22, hcut22, hA22, hC22⟩ := print_drop_of (P := Try.prog) (Value.int .i64) 0 23 3 .i64 Try.underlying23 hi022 hsz22 (some ad102) c1 l1 1 (by omega) (of_decide_eq_true (by first | (with_reducible assumption) | assumption)) HC1.out
                        have HR106 := Aside0.mk (Kd.C_of_reads (h1 := fun _ => rfl) (hA22 _ (Kd.reads_of_C HR1.out)))
                        have HC106 := Aside0.mk hC22
                        clear hA22 hC22 hi022 hsz22
                        refine start_ (n := 6) (S := fun w' => True) (ds := []) #[false, false, false, false, false, false] (by kernel_rfl) rfl rfl trivial (fun hHeld => ?_)
                        generalize w19.drew = w20 at HB HR105 HR106 hHeld ⊢
                        refine pure_ (i := 0) (N := some 38) (v := ?_) (a' := ?_) #[true, false, false, false, false, false] rfl rfl (by kernel_rfl) (fun _ _ _ h => h) (Or.inl ⟨by rfl, ?_⟩) ?_ ?_
                        rotate_left
                        · intro w'
                          go_simp
                          with_reducible rfl
                        rotate_left
                        · simp only [Act.put, List.setIfInBounds_toArray, List.set_cons_zero, List.set_cons_succ, i64_w, i32_w]
                          rfl
                        refine pure_ (i := 1) (N := some 39) (v := ?_) (a' := ?_) #[true, true, false, false, false, false] rfl rfl (by kernel_rfl) (fun _ _ _ h => h) (Or.inl ⟨by rfl, ?_⟩) ?_ ?_
                        rotate_left
                        · intro w'
                          go_simp
                          with_reducible rfl
                        rotate_left
                        · simp only [Act.put, List.setIfInBounds_toArray, List.set_cons_zero, List.set_cons_succ, i64_w, i32_w]
                          rfl
                        refine pure_ (i := 2) (N := some 40) (v := ?_) (a' := ?_) #[true, true, true, false, false, false] rfl rfl (by kernel_rfl) (fun _ _ _ h => h) (Or.inl ⟨by rfl, ?_⟩) ?_ ?_
                        rotate_left
                        · intro w'
                          go_simp
                          with_reducible rfl
                        rotate_left
                        · simp only [Act.put, List.setIfInBounds_toArray, List.set_cons_zero, List.set_cons_succ, i64_w, i32_w]
                          rfl
                        refine pure_ (i := 3) (N := some 41) (v := ?_) (a' := ?_) #[true, true, true, true, false, false] rfl rfl (by kernel_rfl) (fun _ _ _ h => h) (Or.inl ⟨by rfl, ?_⟩) ?_ ?_
                        rotate_left
                        · intro w'
                          go_simp
                          with_reducible rfl
                        rotate_left
                        · simp only [Act.put, List.setIfInBounds_toArray, List.set_cons_zero, List.set_cons_succ, i64_w, i32_w]
                          rfl
                        refine one_ (i := 4) (N := some 42) #[true, true, true, true, true, false] rfl rfl (by kernel_rfl) (by decide) (fun K hK => ?_)
                        refine goes_ Try.func13 (by kernel_rfl) rfl #[.slice A21 (l0.drop 1).length (c0 - 1), .slice A22 (l1.drop 1).length (c1 - 1)] (by rfl) rfl rfl (by (try simp only [List.map_toArray, List.map_cons, List.map_nil]); first | done | (rw [show (l0.drop 1).length = (l0.length - 1) from List.length_drop] <;> rfl) | (rw [show (l1.drop 1).length = (l1.length - 1) from List.length_drop] <;> rfl) | rfl | (simp only [List.length_drop, List.length_take]; rfl)) ?_
                        with_reducible refine (ih kj2 (by have := HJ2.out; omega) _ _ (l0.drop 1) _ _ (l1.drop 1) t107 _ ?side1 ?side2 ?side3 ?side4 A17.out).mono ?_
                        (case side1 => repeat (first | exact (Kd.C_below HR105.out HB.out) | (with_reducible refine Kd.C_alloc ?_ _) | (with_reducible refine Kd.C_drewN ?_ _) | (with_reducible refine Kd.C_drew ?_)))
                        (case side2 => exact HC105.out)
                        (case side3 => repeat (first | exact (Kd.C_below HR106.out HB.out) | (with_reducible refine Kd.C_alloc ?_ _) | (with_reducible refine Kd.C_drewN ?_ _) | (with_reducible refine Kd.C_drew ?_)))
                        (case side4 => exact HC106.out)
                        rintro e w23 ⟨rfl, hb⟩
                        refine ⟨_, rfl, ?_⟩
                        have n0_ := Aside0.mk (below_step (by repeat (first | (with_reducible first | exact HB.out | apply below_alloc | apply pw_below_drewN | apply below_drew1) | exact HB.out)) hb)
                        clear HB
                        have HB := n0_
                        clear n0_
                        (try clear hb)
                        (try clear hb2)
                        (try clear hk)
                        (try clear hi)
                        refine hK.out _ _ trivial (fun hHeld => ?_)
                        clear hK K
                        refine norm_ (a' := ?_) ?_ ?_
                        rotate_left
                        · show Act.put _ (some 42) _ = _
                          simp only [Act.put, List.setIfInBounds_toArray, List.set_cons_zero, List.set_cons_succ, i64_w, i32_w]
                          rfl
                        refine pure_ (i := 5) (N := some 4) (v := ?_) (a' := ?_) #[true, true, true, true, true, true] rfl rfl (by kernel_rfl) (fun _ _ _ h => h) (Or.inl ⟨by rfl, ?_⟩) ?_ ?_
                        rotate_left
                        · intro w'
                          go_simp
                          with_reducible rfl
                        rotate_left
                        · simp only [Act.put, List.setIfInBounds_toArray, List.set_cons_zero, List.set_cons_succ, i64_w, i32_w]
                          rfl
                        refine done_ (by kernel_rfl) ?_
                        try go_wp2
                        go_ret
                        exact ⟨by first | rfl | (simp [errW_none, errW_some] <;> rfl) | (simp [*, errW_none, errW_some] <;> rfl), by repeat (first | (with_reducible first | exact HB.out | apply below_alloc | apply pw_below_drewN | apply below_drew1) | exact HB.out)⟩
                      · rw [if_neg c16] at H
                        exact absurd H (by simp)
                    · rw [if_neg c15] at H
                      exact absurd H (by simp)
              · rw [if_neg c9] at H
                exact absurd H (by simp)
            · rw [if_neg c8] at H
              exact absurd H (by simp)

end Go.Proofs.Ytlapiebnmbbemaa.A
end
section
/- Places (layer 19): what the printed functions of label and of its reference come to, xs plain functions on lists of numbers. -/
namespace Go.Proofs.Ytlapiebnmbbemaa.A
open Go.RowKit Go.Proofs.YtlapiebnmbbemaaW.PrintWords Go.Proofs.YtlapiebnmbbemaaW.PrintLast Go.Proofs.YtlapiebnmbbemaaW.PrintMore

theorem Ev.pos {α : Type} {c : Prop} [Decidable c] {f g : Nat → Option α} {r : α} (h : c) (k : Ev f r) : Ev (fun n => if c then f n else g n) r := Ev.congr (fun _ => if_pos h) k
theorem Ev.neg {α : Type} {c : Prop} [Decidable c] {f g : Nat → Option α} {r : α} (h : ¬ c) (k : Ev g r) : Ev (fun n => if c then f n else g n) r := Ev.congr (fun _ => if_neg h) k
theorem Ev.eq {α : Type} {f : Nat → Option α} {r r' : α} (k : Ev f r) (h : r = r') : Ev f r' := h ▸ k
/-- The order of places. -/
def cmpL : List Int → List Int → Int
  | [], [] => 0
  | [], _ :: _ => -1
  | _ :: _, [] => 1
  | a :: xs, b :: ys => if a < b then -1 else if a > b then 1 else cmpL xs ys
def leftL : List Int → List Int → Bool
  | [], _ => false
  | _ :: _, [] => false
  | a :: xs, b :: ys => if a = b then leftL xs ys else decide (a < b)
def underL : List Int → List Int → Bool
  | _, [] => true
  | [], _ :: _ => false
  | a :: xs, b :: ys => if a = b then underL xs ys else false
def prunedL (a by_ : List Int) (depth : Int) : Bool := underL a (by_.take (mn (mx depth 0) (by_.length : Int)).toNat) && leftL by_ a
def partsL : List Int → List Int → Nat
  | a :: xs, b :: ys => if a = b then partsL xs ys + 1 else 0
  | _, _ => 0

theorem partsL_le (a : List Int) : ∀ b : List Int, partsL a b ≤ a.length ∧ partsL a b ≤ b.length := by
  induction a with
  | nil => intro b; simp [partsL]
  | cons x xs ih =>
    intro b
    cases b with
    | nil => simp [partsL]
    | cons y ys =>
      simp only [partsL]
      split
      · have := ih ys; simp; omega
      · simp
theorem partsL_at (a : List Int) : ∀ (b : List Int) (n : Nat), n ≤ a.length → n ≤ b.length → (∀ j, j < n → a.getD j 0 = b.getD j 0) → (n < a.length → n < b.length → a.getD n 0 ≠ b.getD n 0) → partsL a b = n := by
  induction a with
  | nil => intro b n h _ _ _; simp at h; simp [partsL, h]
  | cons x xs ih =>
    intro b n h1 h2 h3 h4
    cases b with
    | nil => simp at h2; simp [partsL, h2]
    | cons y ys =>
      cases n with
      | zero =>
        have := h4 (by simp) (by simp)
        simp at this
        simp [partsL, this]
      | succ n =>
        have h5 := h3 0 (by omega)
        simp at h5
        simp only [partsL, h5, if_true]
        rw [ih ys n (by simpa using h1) (by simpa using h2) (fun j hj => by have := h3 (j + 1) (by omega); simpa using this) (fun h6 h7 => by have := h4 (by simpa using h6) (by simpa using h7); simpa using this)]
theorem partsL_same (a : List Int) : ∀ b : List Int, partsL a b < a.length → partsL a b < b.length → a.getD (partsL a b) 0 ≠ b.getD (partsL a b) 0 := by
  induction a with
  | nil => intro b h; simp at h
  | cons x xs ih =>
    intro b h1 h2
    cases b with
    | nil => simp at h2
    | cons y ys =>
      simp only [partsL] at h1 h2 ⊢
      split at h1
      · rename_i e
        simp only [e, if_true] at h2 ⊢
        simpa using ih ys (by simpa using h1) (by simpa using h2)
      · rename_i e
        simp [e]
theorem rd_nat (xs : List Int) (n : Nat) : rd xs (n : Int) = xs.getD n 0 := by simp [rd]
theorem parts_ev (a b : List Int) (ha : a.length ≤ 9223372036854775807) (hb : b.length ≤ 9223372036854775807) : Ev (fun k => label_parts.f k a b) (partsL a b : Int) := by
  have hm : mn (a.length : Int) (b.length : Int) = ((min a.length b.length : Nat) : Int) := by unfold mn; split <;> omega
  have key : ∀ (d n : Nat), min a.length b.length - n = d → n ≤ min a.length b.length → (∀ j, j < n → a.getD j 0 = b.getD j 0) → Ev (fun k => label_parts.l0 k a b (mn (a.length : Int) (b.length : Int)) (n : Int)) (partsL a b : Int) := by
    intro d
    induction d with
    | zero =>
      intro n h1 h2 h3
      refine Ev.step (fun k => by simp only [label_parts.l0]; rfl) ?_
      refine Ev.neg (by rw [hm]; omega) ?_
      rw [hm, partsL_at a b n (by omega) (by omega) h3 (fun _ _ => by omega)]
      exact Ev.eq (Ev.now _) (by omega)
    | succ d ih =>
      intro n h1 h2 h3
      refine Ev.step (fun k => by simp only [label_parts.l0]; rfl) ?_
      refine Ev.pos (by rw [hm]; omega) (Ev.pos (by omega) (Ev.pos (by omega) (Ev.pos (by omega) ?_)))
      rw [rd_nat, rd_nat]
      by_cases e : a.getD n 0 = b.getD n 0
      · refine Ev.pos e ?_
        rw [show wrap64 ((n : Int) + 1) = ((n + 1 : Nat) : Int) from by unfold wrap64; omega]
        exact ih (n + 1) (by omega) (by omega) (fun j hj => by
          rcases Nat.lt_or_ge j n with h | h
          · exact h3 j h
          · obtain rfl : j = n := by omega
            exact e)
      · refine Ev.neg e ?_
        rw [partsL_at a b n (by omega) (by omega) h3 (fun _ _ => e)]
        exact Ev.now _
  exact key _ 0 rfl (by omega) (fun j hj => by omega)
theorem cmp_int (x y : Int) : cmp_Compare_int.f x y = some (if x < y then -1 else if x > y then 1 else 0) := by
  simp only [cmp_Compare_int.f, cmp_isNaN_int.f, bne_self_eq_false, Option.bind_some, Bool.false_eq_true, if_false]
  by_cases h1 : x < y
  · rw [if_pos h1, if_pos h1]
  · rw [if_neg h1, if_neg h1]
    by_cases h2 : x > y
    · rw [if_pos h2, if_pos h2]
    · rw [if_neg h2, if_neg h2]
theorem cmpL_parts (a : List Int) : ∀ b : List Int, cmpL a b = if partsL a b < a.length ∧ partsL a b < b.length then (if a.getD (partsL a b) 0 < b.getD (partsL a b) 0 then -1 else if a.getD (partsL a b) 0 > b.getD (partsL a b) 0 then 1 else 0) else (if (a.length : Int) < b.length then -1 else if (a.length : Int) > b.length then 1 else 0) := by
  induction a with
  | nil => intro b; cases b <;> simp [cmpL, partsL]
  | cons x xs ih =>
    intro b
    cases b with
    | nil => simp [cmpL, partsL]; omega
    | cons y ys =>
      simp only [cmpL, partsL]
      by_cases e : x = y
      · subst e
        simp only [Int.lt_irrefl, if_false, gt_iff_lt, ih ys, if_true, List.length_cons, Nat.add_lt_add_iff_right, List.getD_cons_succ]
        split
        · rfl
        · congr 1
          · simp
          · congr 1; simp
      · simp only [e, if_false, List.length_cons, Nat.zero_lt_succ, and_self, if_true, List.getD_cons_zero]
        rcases Int.lt_trichotomy x y with h | h | h
        · simp [h]
        · exact absurd h e
        · rw [if_neg (by omega), if_pos h, if_neg (by omega), if_pos h]
theorem compare_ev (a b : List Int) (ha : a.length ≤ 9223372036854775807) (hb : b.length ≤ 9223372036854775807) : Ev (fun k => label_Compare.f k a b) (cmpL a b) := by
  have hl := partsL_le a b
  refine Ev.bind (parts_ev a b ha hb) ?_
  have hT : partsL a b < a.length → partsL a b < b.length → Ev (fun k => label_Compare.j0 k a b (partsL a b : Int) true) (if a.getD (partsL a b) 0 < b.getD (partsL a b) 0 then -1 else if a.getD (partsL a b) 0 > b.getD (partsL a b) 0 then 1 else 0) := by
    intro h1 h2
    refine Ev.step (fun k => by simp only [label_Compare.j0]; rfl) (Ev.pos (rfl : true = true) (Ev.pos (by omega) (Ev.pos (by omega) (Ev.pos (by omega) ?_))))
    rw [rd_nat, rd_nat, cmp_int]
    exact Ev.now _
  have hF : Ev (fun k => label_Compare.j0 k a b (partsL a b : Int) false) (if (a.length : Int) < b.length then -1 else if (a.length : Int) > b.length then 1 else 0) := by
    refine Ev.step (fun k => by simp only [label_Compare.j0]; rfl) (Ev.neg (by simp) ?_)
    rw [cmp_int]
    exact Ev.now _
  rw [cmpL_parts]
  by_cases h1 : partsL a b < a.length
  · refine Ev.pos (by omega) ?_
    by_cases h2 : partsL a b < b.length
    · rw [decide_eq_true (show (partsL a b : Int) < (b.length : Int) by omega), if_pos ⟨h1, h2⟩]
      exact hT h1 h2
    · rw [decide_eq_false (show ¬ (partsL a b : Int) < (b.length : Int) by omega), if_neg (fun h => h2 h.2)]
      exact hF
  · refine Ev.neg (by omega) ?_
    rw [if_neg (fun h => h1 h.1)]
    exact hF
theorem left_ev (a b : List Int) (ha : a.length ≤ 9223372036854775807) (hb : b.length ≤ 9223372036854775807) : Ev (fun k => label_Left.f k a b) (leftL a b) := by
  have hl := partsL_le a b
  refine Ev.bind (parts_ev a b ha hb) ?_
  have hp : ∀ a b : List Int, leftL a b = if partsL a b < a.length then (if partsL a b < b.length then decide (a.getD (partsL a b) 0 < b.getD (partsL a b) 0) else false) else false := by
    intro a
    induction a with
    | nil => intro b; simp [leftL, partsL]
    | cons x xs ih =>
      intro b
      cases b with
      | nil => simp [leftL, partsL]
      | cons y ys =>
        simp only [leftL, partsL]
        by_cases e : x = y
        · simp only [e, if_true, ih ys, List.length_cons, Nat.add_lt_add_iff_right, List.getD_cons_succ]
        · simp [e]
  rw [hp]
  by_cases h1 : partsL a b < a.length
  · by_cases h2 : partsL a b < b.length
    · rw [if_pos h1, if_pos h2]
      refine Ev.congr (fun k => ?_) (Ev.now _)
      rw [if_pos (by omega), if_pos (by omega), if_pos (by omega), rd_nat, rd_nat]
    · rw [if_pos h1, if_neg h2]
      refine Ev.congr (fun k => ?_) (Ev.now _)
      rw [if_pos (by omega), if_neg (by omega)]
  · rw [if_neg h1]
    refine Ev.congr (fun k => ?_) (Ev.now _)
    rw [if_neg (by omega)]
theorem underL_parts (a : List Int) : ∀ (b : List Int) (m : Nat), m ≤ b.length → underL a (b.take m) = decide (m ≤ partsL a b) := by
  induction a with
  | nil => intro b m h; cases b <;> cases m <;> simp_all [underL, partsL]
  | cons x xs ih =>
    intro b m h
    cases b with
    | nil => cases m <;> simp_all [underL, partsL]
    | cons y ys =>
      cases m with
      | zero => simp [underL]
      | succ m =>
        simp only [List.take_succ_cons, underL, partsL]
        by_cases e : x = y
        · simp only [e, if_true, ih ys m (by simpa using h), Nat.add_le_add_iff_right]
        · simp [e]
theorem pruned_ev (a b : List Int) (d : Int) (ha : a.length ≤ 9223372036854775807) (hb : b.length ≤ 9223372036854775807) : Ev (fun k => label_Pruned.f k a b d) (prunedL a b d) := by
  have hl := partsL_le a b
  refine Ev.bind (left_ev b a hb ha) ?_
  unfold prunedL
  rw [underL_parts a b _ (by unfold mn mx; split <;> split <;> omega)]
  cases leftL b a with
  | false => simp; exact Ev.now _
  | true =>
    simp only [if_true, Bool.and_true]
    refine Ev.bind (parts_ev a b ha hb) ?_
    refine Ev.congr (fun k => ?_) (Ev.now _)
    congr 2
    apply propext
    unfold mn mx
    repeat' split
    all_goals omega

theorem rcompare_ev (a : List Int) : ∀ b : List Int, Ev (fun k => spinneyref19_Compare.f k a b) (cmpL a b) := by
  induction a with
  | nil =>
    intro b
    refine Ev.step (fun k => by simp only [spinneyref19_Compare.f]; rfl) (Ev.pos (by simp) ?_)
    refine Ev.step (fun k => by simp only [spinneyref19_Compare.j0]; rfl) ?_
    cases b with
    | nil => exact Ev.pos (by simp) (Ev.now _)
    | cons y ys => exact Ev.neg (by first | (simp; done) | (simp; omega)) (Ev.pos (by simp) (Ev.now _))
  | cons x xs ih =>
    intro b
    refine Ev.step (fun k => by simp only [spinneyref19_Compare.f]; rfl) (Ev.neg (by first | (simp; done) | (simp; omega)) ?_)
    refine Ev.step (fun k => by simp only [spinneyref19_Compare.j0]; rfl) (Ev.neg (by simp) (Ev.neg (by first | (simp; done) | (simp; omega)) ?_))
    cases b with
    | nil => exact Ev.pos (by simp) (Ev.now _)
    | cons y ys =>
      refine Ev.neg (by first | (simp; done) | (simp; omega)) (Ev.pos (by first | (simp; done) | (simp; omega)) (Ev.pos (by first | (simp; done) | (simp; omega)) ?_))
      simp only [rd, Int.toNat_zero, List.getD_cons_zero, cmpL, List.drop_succ_cons, List.drop_zero]
      by_cases h1 : x < y
      · rw [if_pos h1]; exact Ev.pos h1 (Ev.now _)
      · rw [if_neg h1]; refine Ev.neg h1 ?_
        by_cases h2 : x > y
        · rw [if_pos h2]; exact Ev.pos h2 (Ev.now _)
        · rw [if_neg h2]; exact Ev.neg h2 (Ev.pos (by first | (simp; done) | (simp; omega)) (Ev.pos (by first | (simp; done) | (simp; omega)) (Ev.bind (ih ys) (Ev.now _))))
theorem rleft_ev (a : List Int) : ∀ b : List Int, Ev (fun k => spinneyref19_Left.f k a b) (leftL a b) := by
  induction a with
  | nil =>
    intro b
    refine Ev.step (fun k => by simp only [spinneyref19_Left.f]; rfl) (Ev.pos (by simp) ?_)
    exact Ev.step (fun k => by simp only [spinneyref19_Left.j0]; rfl) (Ev.pos (rfl : true = true) (Ev.now _))
  | cons x xs ih =>
    intro b
    refine Ev.step (fun k => by simp only [spinneyref19_Left.f]; rfl) (Ev.neg (by first | (simp; done) | (simp; omega)) ?_)
    refine Ev.step (fun k => by simp only [spinneyref19_Left.j0]; rfl) ?_
    cases b with
    | nil => exact Ev.pos (by simp) (Ev.now _)
    | cons y ys =>
      refine Ev.neg (by first | (simp; done) | (simp; omega)) (Ev.pos (by first | (simp; done) | (simp; omega)) (Ev.pos (by first | (simp; done) | (simp; omega)) ?_))
      simp only [rd, Int.toNat_zero, List.getD_cons_zero, leftL, List.drop_succ_cons, List.drop_zero]
      by_cases h1 : x = y
      · rw [if_pos h1]; exact Ev.pos h1 (Ev.pos (by first | (simp; done) | (simp; omega)) (Ev.pos (by first | (simp; done) | (simp; omega)) (Ev.bind (ih ys) (Ev.now _))))
      · rw [if_neg h1]; exact Ev.neg h1 (Ev.now _)
theorem runder_ev (a : List Int) : ∀ b : List Int, Ev (fun k => spinneyref19_Under.f k a b) (underL a b) := by
  induction a with
  | nil =>
    intro b
    refine Ev.step (fun k => by simp only [spinneyref19_Under.f]; rfl) ?_
    cases b with
    | nil => exact Ev.pos (by simp) (Ev.now _)
    | cons y ys => exact Ev.neg (by first | (simp; done) | (simp; omega)) (Ev.neg (by simp) (Ev.now _))
  | cons x xs ih =>
    intro b
    refine Ev.step (fun k => by simp only [spinneyref19_Under.f]; rfl) ?_
    cases b with
    | nil => exact Ev.pos (by simp) (Ev.now _)
    | cons y ys =>
      refine Ev.neg (by first | (simp; done) | (simp; omega)) (Ev.pos (by first | (simp; done) | (simp; omega)) (Ev.pos (by first | (simp; done) | (simp; omega)) (Ev.pos (by first | (simp; done) | (simp; omega)) ?_)))
      simp only [rd, Int.toNat_zero, List.getD_cons_zero, underL, List.drop_succ_cons, List.drop_zero]
      by_cases h1 : x = y
      · rw [if_pos h1]; exact Ev.pos h1 (Ev.pos (by first | (simp; done) | (simp; omega)) (Ev.pos (by first | (simp; done) | (simp; omega)) (Ev.bind (ih ys) (Ev.now _))))
      · rw [if_neg h1]; exact Ev.neg h1 (Ev.now _)
theorem rpruned_ev (a b : List Int) (d : Int) : Ev (fun k => spinneyref19_Pruned.f k a b d) (prunedL a b d) := by
  unfold spinneyref19_Pruned.f prunedL
  refine Ev.pos (by unfold mn mx; split <;> split <;> omega) (Ev.pos (by unfold mn mx; split <;> split <;> omega) ?_)
  refine Ev.bind (runder_ev _ _) ?_
  cases underL a (b.take (mn (mx d 0) (b.length : Int)).toNat) with
  | false => simp; exact Ev.now _
  | true => simp; exact rleft_ev b a

/-! The contracts in which the callers take these functions. -/
def label_CompareW.f (l0 l1 : List Int) : Option Int := some (cmpL l0 l1)
theorem label_CompareW.calls (A0 : Option Addr) (c0 : Nat) (l0 : List Int) (A1 : Option Addr) (c1 : Nat) (l1 : List Int) (r : Int) (w : World) (hr0 : Kd.C (Kd.int .i64) w A0 l0.length l0) (hc0 : l0.length ≤ c0) (hr1 : Kd.C (Kd.int .i64) w A1 l1.length l1) (hc1 : l1.length ≤ c1) (h : label_CompareW.f l0 l1 = some r) :
    Calls Try.prog 37 #[.slice A0 l0.length c0, .slice A1 l1.length c1] w fun e w' => e = .returned (.int .i64 r) ∧ Below w.heap.size w w' := by
  obtain ⟨k, hk⟩ := (compare_ev l0 l1 hr0.2.1 hr1.2.1).rounds
  exact label_Compare.calls k A0 c0 l0 A1 c1 l1 r w hr0 hc0 hr1 hc1 (hk.trans h)
def label_PrunedW.f (l0 l1 : List Int) (a2 : Int) : Option Bool := some (prunedL l0 l1 a2)
theorem label_PrunedW.calls (A0 : Option Addr) (c0 : Nat) (l0 : List Int) (A1 : Option Addr) (c1 : Nat) (l1 : List Int) (a2 : Int) (r : Bool) (w : World) (hr0 : Kd.C (Kd.int .i64) w A0 l0.length l0) (hc0 : l0.length ≤ c0) (hr1 : Kd.C (Kd.int .i64) w A1 l1.length l1) (hc1 : l1.length ≤ c1) (h : label_PrunedW.f l0 l1 a2 = some r) :
    Calls Try.prog 33 #[.slice A0 l0.length c0, .slice A1 l1.length c1, .int .i64 a2] w fun e w' => e = .returned (.bool r) ∧ Below w.heap.size w w' := by
  obtain ⟨k, hk⟩ := (pruned_ev l0 l1 a2 hr0.2.1 hr1.2.1).rounds
  exact label_Pruned.calls k A0 c0 l0 A1 c1 l1 a2 r w hr0 hc0 hr1 hc1 (hk.trans h)
def spinneyref19_CompareW.f (l0 l1 : List Int) : Option Int := some (cmpL l0 l1)
theorem spinneyref19_CompareW.calls (A0 : Option Addr) (c0 : Nat) (l0 : List Int) (A1 : Option Addr) (c1 : Nat) (l1 : List Int) (r : Int) (w : World) (hr0 : Kd.C (Kd.int .i64) w A0 l0.length l0) (hc0 : l0.length ≤ c0) (hr1 : Kd.C (Kd.int .i64) w A1 l1.length l1) (hc1 : l1.length ≤ c1) (h : spinneyref19_CompareW.f l0 l1 = some r) :
    Calls Try.prog 13 #[.slice A0 l0.length c0, .slice A1 l1.length c1] w fun e w' => e = .returned (.int .i64 r) ∧ Below w.heap.size w w' := by
  obtain ⟨k, hk⟩ := (rcompare_ev l0 l1).rounds
  exact spinneyref19_Compare.calls k A0 c0 l0 A1 c1 l1 r w hr0 hc0 hr1 hc1 (hk.trans h)
def spinneyref19_PrunedW.f (l0 l1 : List Int) (a2 : Int) : Option Bool := some (prunedL l0 l1 a2)
theorem spinneyref19_PrunedW.calls (A0 : Option Addr) (c0 : Nat) (l0 : List Int) (A1 : Option Addr) (c1 : Nat) (l1 : List Int) (a2 : Int) (r : Bool) (w : World) (hr0 : Kd.C (Kd.int .i64) w A0 l0.length l0) (hc0 : l0.length ≤ c0) (hr1 : Kd.C (Kd.int .i64) w A1 l1.length l1) (hc1 : l1.length ≤ c1) (h : spinneyref19_PrunedW.f l0 l1 a2 = some r) :
    Calls Try.prog 39 #[.slice A0 l0.length c0, .slice A1 l1.length c1, .int .i64 a2] w fun e w' => e = .returned (.bool r) ∧ Below w.heap.size w w' := by
  obtain ⟨k, hk⟩ := (rpruned_ev l0 l1 a2).rounds
  exact spinneyref19_Pruned.calls k A0 c0 l0 A1 c1 l1 a2 r w hr0 hc0 hr1 hc1 (hk.trans h)
end Go.Proofs.Ytlapiebnmbbemaa.A
end
section
-- Written by my drive.py over the kit's print program. Not trusted: Lean checks it.
namespace Go.Proofs.Ytlapiebnmbbemaa.A
open Go.RowKit Go.Proofs.YtlapiebnmbbemaaW.PrintWords Go.Proofs.YtlapiebnmbbemaaW.PrintLast Go.Proofs.YtlapiebnmbbemaaW.PrintMore
attribute [local go_sem] max2_int min2_int max_two min_two max_three min_three max_four min_four   -- for this text's walks alone
set_option linter.unusedVariables false
set_option linter.unusedSimpArgs false

/-! ### spinneyref20_Drop: function 14 -/
def spinneyref20_Drop.l0 : Nat → List Int → Int → List (S29) → List (S29) → Int → Int → Option ((List (S29)))
  | 0, _, _, _, _, _, _ => none
  | k + 1, x1, x2, x7, x10, x11, x12 => if x12 < x11 then (if 0 ≤ x12 then (if x12 < (x10.length : Int) then ((spinneyref19_PrunedW.f ((rd_T29 x10 x12).f0) x1 x2).bind fun t103 => (if t103 = true then (spinneyref20_Drop.l0 k x1 x2 x7 x10 x11 (wrap64 (x12 + 1))) else (if x7.length < 2199023255552 then (spinneyref20_Drop.l0 k x1 x2 (x7 ++ [(⟨(rd_T29 x10 x12).f0, (⟨(rd_T29 x10 x12).f1.f0, (rd_T29 x10 x12).f1.f1, (rd_T29 x10 x12).f1.f2⟩ : S27)⟩ : S29)]) x10 x11 (wrap64 (x12 + 1))) else (none)))) else (none)) else (none)) else (some x7)
def spinneyref20_Drop.f (k : Nat) (l0 : List (S29)) (l1 : List Int) (a2 : Int) : Option ((List (S29))) := spinneyref20_Drop.l0 k l1 a2 ([] : List (S29)) l0 (l0.length : Int) 0
theorem spinneyref20_Drop.mono_l : ∀ k, (∀ y0 y1 y2 y3 y4 y5, LeO (spinneyref20_Drop.l0 k y0 y1 y2 y3 y4 y5) (spinneyref20_Drop.l0 (k + 1) y0 y1 y2 y3 y4 y5))
  | 0 => fun _ _ _ _ _ _ r h => by simp [spinneyref20_Drop.l0] at h
  | k + 1 => by
    have ih0 := spinneyref20_Drop.mono_l k
    · intro y0 y1 y2 y3 y4 y5
      unfold spinneyref20_Drop.l0
      repeat' first
      | (with_reducible exact ih0 _ _ _ _ _ _)
      | (with_reducible exact LeO.refl _)
      | (with_reducible exact LeO.none _)
      | (with_reducible refine LeO.ite ?_ ?_)
      | (with_reducible refine LeO.bind ?_ (fun _ => ?_))
      | exact ih0 _ _ _ _ _ _
      | exact LeO.none _
      | refine LeO.ite ?_ ?_
      | refine LeO.bind ?_ (fun _ => ?_)
theorem spinneyref20_Drop.mono : ∀ a0 a1 a2 k, LeO (spinneyref20_Drop.f k a0 a1 a2) (spinneyref20_Drop.f (k + 1) a0 a1 a2) := by
  intro a0 a1 a2 k
  have ih0 := spinneyref20_Drop.mono_l k
  unfold spinneyref20_Drop.f
  repeat' first
      | (with_reducible exact ih0 _ _ _ _ _ _)
      | (with_reducible exact LeO.refl _)
      | (with_reducible exact LeO.none _)
      | (with_reducible refine LeO.ite ?_ ?_)
      | (with_reducible refine LeO.bind ?_ (fun _ => ?_))
      | exact ih0 _ _ _ _ _ _
      | exact LeO.none _
      | refine LeO.ite ?_ ?_
      | refine LeO.bind ?_ (fun _ => ?_)
set_option maxHeartbeats 8000000 in
set_option maxRecDepth 100000 in
theorem spinneyref20_Drop.calls (k : Nat) (P0_ : Nat → Prop) (A0 : Option Addr) (c0 : Nat) (l0 : List (S29)) (A1 : Option Addr) (c1 : Nat) (l1 : List Int) (a2 : Int) (r : List (S29)) (w : World) (hs0 : Kd.V k29 29 w w.heap.size (fun k_ => P0_ k_) (.slice A0 l0.length c0) l0) (hr1 : Kd.C (Kd.int .i64) w A1 l1.length l1) (hc1 : l1.length ≤ c1) (h : spinneyref20_Drop.f k l0 l1 a2 = some r) :
    Calls Try.prog 14 #[.slice A0 l0.length c0, .slice A1 l1.length c1, .int .i64 a2] w fun e w' => ∃ v0_ : Value, e = .returned (v0_) ∧ Kd.N k29 29 w' w.heap.size (fun k_ => (P0_ k_ ∨ w.heap.size ≤ k_)) v0_ r ∧ Below w.heap.size w w' := by
  have hu29 := Try.underlying29
  have HO0 := Aside0.mk (show Kd.V k29 29 w w.heap.size (fun k_ => (P0_ k_ ∨ w.heap.size ≤ k_)) (.slice A0 l0.length c0) l0 from Kd.V_mono hs0 (fun k_ hk => .inl hk))
  have HR1 := Aside0.mk hr1
  have HC1 := Aside0.mk hc1
  clear hr1 hc1
  have HB := Aside0.mk (Below.refl w.heap.size w)
  have H : (spinneyref20_Drop.l0 k l1 a2 ([] : List (S29)) l0 (l0.length : Int) 0) = some r := h
  clear h
  have H' := Aside0.mk H
  clear H
  go_enter Try.func14, Try.ntmps14
  go_wp2
  go_loopg [7, 12] k (fun kq v7 v12 w' => ∃ (x7_1 : List (S29)) (x12_1 : Int), v12 = .int .i64 x12_1 ∧ Aside0 (spinneyref20_Drop.l0 kq l1 a2 x7_1 l0 (l0.length : Int) x12_1 = some r) ∧ Aside0 (kq ≤ k) ∧ Aside0 (Kd.N k29 29 w' w.heap.size (fun k_ => (P0_ k_ ∨ w.heap.size ≤ k_)) v7 x7_1) ∧ Aside0 (Kd.V k29 29 w' w.heap.size (fun k_ => (P0_ k_ ∨ w.heap.size ≤ k_) ∧ some k_ ≠ (v7 : Value).ownBlock) (.slice A0 l0.length c0) l0) ∧ Aside0 (Below w.heap.size w w'))
  case atStart => exact ⟨(([] : List (S29))), (0), (by first | rfl | (simp; done) | (simp [*]; done)), H', ⟨Nat.le_refl _⟩, ⟨by first | exact Kd.R_nil _ _ _ _ _ | exact Kd.N_nil _ _ _ _ _ | exact Kd.V_nil _ _ _ _ _ | exact Kd.Q_nil _ _ _ _ _ | exact Kd.S_nil _ _ _ _ _⟩, ⟨by (with_reducible repeat (first | apply Kd.V_alloc | apply Kd.V_drewN | apply Kd.V_drew)); exact Kd.V_mono HO0.out (fun _ hk => ⟨hk, (by simp [Value.ownBlock])⟩)⟩, ⟨by repeat (first | (with_reducible first | exact HB.out | apply below_alloc | apply pw_below_drewN | apply below_drew1) | exact HB.out)⟩⟩
  case round =>
    clear H'
    try clear c1
    try clear p2
    obtain ⟨x7_1, x12_1, rfl, HA, HK1, HO_7, HO_10, HB⟩ := hrel
    cases gk with
    | zero => exact absurd HA.out (by simp [spinneyref20_Drop.l0])
    | succ k1 =>
      have H := HA.out
      clear HA
      simp only [spinneyref20_Drop.l0] at H
      by_cases c4 : x12_1 < (l0.length : Int)
      · rw [if_pos c4] at H
        have c4b0 : decide (x12_1 < (l0.length : Int)) = true := decide_eq_true c4
        clear c4
        by_cases c5 : 0 ≤ x12_1
        · rw [if_pos c5] at H
          have c5b0 : decide (0 ≤ x12_1) = true := decide_eq_true c5
          clear c5
          by_cases c6 : x12_1 < (l0.length : Int)
          · rw [if_pos c6] at H
            have c6b0 : decide (x12_1 < (l0.length : Int)) = true := decide_eq_true c6
            clear c6
            replace H := Option.bind_eq_some_iff.mp H
            obtain ⟨t103, A70, H⟩ := H
            replace H : (if t103 = true then (spinneyref20_Drop.l0 k1 l1 a2 x7_1 l0 (l0.length : Int) (wrap64 (x12_1 + 1))) else (if x7_1.length < 2199023255552 then (spinneyref20_Drop.l0 k1 l1 a2 (x7_1 ++ [(⟨(rd_T29 l0 x12_1).f0, (⟨(rd_T29 l0 x12_1).f1.f0, (rd_T29 l0 x12_1).f1.f1, (rd_T29 l0 x12_1).f1.f2⟩ : S27)⟩ : S29)]) l0 (l0.length : Int) (wrap64 (x12_1 + 1))) else (none))) = some r := H
            have A7 := Aside0.mk A70
            clear A70
            by_cases c8 : t103 = true
            · subst c8
              have H1 : (spinneyref20_Drop.l0 k1 l1 a2 x7_1 l0 (l0.length : Int) (wrap64 (x12_1 + 1))) = some r := by rw [if_pos rfl] at H; exact H
              clear H
              have H := H1
              clear H1
              have H' := Aside0.mk H
              clear H
              have p101 : 0 ≤ (x12_1 : Int) := of_decide_eq_true (by first | (with_reducible assumption) | assumption)
              have q101 : x12_1 < (l0.length : Int) := of_decide_eq_true (by first | (with_reducible assumption) | assumption)
              obtain ⟨ad101, A101_0, c101_0, A101_2, c101_2, e101, hx101_0, hx101_1, hx101_2, hx101_3, hl101_0, hi101_0, hl101_2, hi101_2⟩ := at_T29 (Kd.V_reads' HO_10.out).2.2 x12_1 p101 q101
              cases e101
              obtain ⟨ce101, hce101, hMe101, hcc101⟩ := Kd.V_get HO_10.out z29 x12_1 p101 (by first | exact q101 | exact of_decide_eq_true (by first | (with_reducible assumption) | assumption) | (have e_ := (Kd.V_reads' HO_10.out).1; omega))
              obtain ⟨ua101_0, uc101_0, ua101_2, uc101_2, rfl, ul101_0, ge101_0, ul101_2, ge101_2⟩ := k29_openF hMe101
              have hv101_0 := hcc101 0 _ rfl
              rw [Nat.add_zero] at hv101_0
              replace hv101_0 := Option.some.inj (hv101_0.symm.trans hx101_0)
              injection hv101_0 with hva_ hvn_ hvc_
              rw [hva_] at ge101_0
              rw [hvc_] at ul101_0
              have HL101_0 := Aside0.mk (show Kd.V (Kd.int .i64) 3 _ w.heap.size _ _ ((rd_T29 l0 x12_1).f0) from Kd.V_mk ul101_0 ge101_0)
              clear hva_ hvn_ hvc_ ge101_0 ul101_0
              have hv101_2 := hcc101 2 _ rfl
              rw [add_field _ _ 2 (by omega)] at hv101_2
              replace hv101_2 := Option.some.inj (hv101_2.symm.trans hx101_2)
              injection hv101_2 with hva_ hvn_ hvc_
              rw [hva_] at ge101_2
              rw [hvc_] at ul101_2
              have HL101_2 := Aside0.mk (show Kd.V k47 47 _ w.heap.size _ _ ((rd_T29 l0 x12_1).f1.f1) from Kd.V_mk ul101_2 ge101_2)
              clear hva_ hvn_ hvc_ ge101_2 ul101_2
              clear hcc101 hce101
              have HR101_0 := Aside0.mk hi101_0
              have HC101_0 := Aside0.mk hl101_0
              clear hi101_0 hl101_0
              have HR101_2 := Aside0.mk hi101_2
              have HC101_2 := Aside0.mk hl101_2
              clear hi101_2 hl101_2
              replace p101 := eq_true p101
              replace q101 := eq_true q101
              go_wp2_with (first | ((with_reducible refine gate_dst (N := 9) rfl ?_); refine box_event ?hg (N := 9) ?hd (cs := #[.slice none 0 0, .int .i64 0, .slice none 0 0, .int .i64 0]) (t := 29) ?hr ?_; (case hd => rfl); (case hg => rfl); (case hr => first | (go_simp; done) | (go_simp; rfl)); intro gb102 hg w9 hbox hb; have n0_ := Aside0.mk (Kd.N_below (Kd.N_elderB (by (with_reducible repeat (first | apply Kd.N_alloc | apply Kd.N_drewN | apply Kd.N_drew)); exact HO_7.out) gb102 (Nat.le_of_eq hg.symm)) hb); have n1_ := Aside0.mk (Kd.V_below (Kd.V_elderB (by (with_reducible repeat (first | apply Kd.V_alloc | apply Kd.V_drewN | apply Kd.V_drew)); exact HO_10.out) gb102 (Nat.le_of_eq hg.symm)) hb); have n2_ := Aside0.mk (Kd.V_below (Kd.V_elderB (by (with_reducible repeat (first | apply Kd.V_alloc | apply Kd.V_drewN | apply Kd.V_drew)); exact HL101_0.out) gb102 (Nat.le_of_eq hg.symm)) hb); have n3_ := Aside0.mk (Kd.V_below (Kd.V_elderB (by (with_reducible repeat (first | apply Kd.V_alloc | apply Kd.V_drewN | apply Kd.V_drew)); exact HL101_2.out) gb102 (Nat.le_of_eq hg.symm)) hb); have n4_ := Aside0.mk (Kd.C_below (by repeat (first | (with_reducible exact HR101_0.out) | (with_reducible refine Kd.C_alloc ?_ _) | (with_reducible refine Kd.C_drewN ?_ _) | (with_reducible refine Kd.C_drew ?_) | exact HR101_0.out)) hb); have n5_ := Aside0.mk (Kd.C_below (by repeat (first | (with_reducible exact HR101_2.out) | (with_reducible refine Kd.C_alloc ?_ _) | (with_reducible refine Kd.C_drewN ?_ _) | (with_reducible refine Kd.C_drew ?_) | exact HR101_2.out)) hb); have n6_ := Aside0.mk (below_step (by repeat (first | (with_reducible first | exact HB.out | apply below_alloc | apply pw_below_drewN | apply below_drew1) | exact HB.out)) hb); have n7_ := Aside0.mk (hbox); have n8_ := Aside0.mk ((by rw [hg]; exact (below_size (by repeat (first | (with_reducible first | exact HB.out | apply below_alloc | apply pw_below_drewN | apply below_drew1) | exact HB.out))) : w.heap.size ≤ gb102)); have n9_ := Aside0.mk ((by rw [hg]; exact (below_size (by repeat (first | (with_reducible first | exact HB.out | apply below_alloc | apply pw_below_drewN | apply below_drew1) | exact HB.out))) : w.heap.size ≤ gb102)); clear HO_7; clear HO_10; clear HL101_0; clear HL101_2; clear HR101_0; clear HR101_2; clear HB; have HO_7 := n0_; have HO_10 := n1_; have HL101_0 := n2_; have HL101_2 := n3_; have HR101_0 := n4_; have HR101_2 := n5_; have HB := n6_; have BK102 := n7_; have GW102 := n8_; have GE102 := n9_; clear n0_ n1_ n2_ n3_ n4_ n5_ n6_ n7_ n8_ n9_; clear hb hbox hg; have hcz10_0 : w9.cell? ⟨gb102, 0, none⟩ = some (.slice none 0 0) := (blk_cell BK102.out 0).trans rfl; have hcz10_1 : w9.cell? ⟨gb102, 1, none⟩ = some (.int .i64 0) := (blk_cell BK102.out 1).trans rfl; have hcz10_2 : w9.cell? ⟨gb102, 2, none⟩ = some (.slice none 0 0) := (blk_cell BK102.out 2).trans rfl; have hcz10_3 : w9.cell? ⟨gb102, 3, none⟩ = some (.int .i64 0) := (blk_cell BK102.out 3).trans rfl; have hfz10_0 := blk_frozen BK102.out 0; have hfz10_1 := blk_frozen BK102.out 1; have hfz10_2 := blk_frozen BK102.out 2; have hfz10_3 := blk_frozen BK102.out 3) | ((with_reducible refine gate_callee (f := 39) rfl ?_); refine goesL_ (some 20) rfl rfl Try.func39 (by kernel_rfl) rfl #[.slice A101_0 ((rd_T29 l0 x12_1).f0).length c101_0, .slice A1 l1.length c1, .int .i64 a2] rfl (by (try simp only [List.map_toArray, List.map_cons, List.map_nil]); first | done | rfl | (simp only [List.length_drop, List.length_take]; rfl)) ?_; (with_reducible refine (spinneyref19_PrunedW.calls _ _ ((rd_T29 l0 x12_1).f0) _ _ l1 a2 true _ ?side1 ?side2 ?side3 ?side4 A7.out).mono ?_); (case side1 => repeat (first | exact ((Kd.V_reads' (by (with_reducible repeat (first | apply Kd.V_alloc | apply Kd.V_drewN | apply Kd.V_drew)); exact (Kd.V_mono (Kd.V_far (p := ⟨gb102, 3, none⟩) (Kd.V_far (p := ⟨gb102, 2, none⟩) (Kd.V_far (p := ⟨gb102, 1, none⟩) (Kd.V_far (p := ⟨gb102, 0, none⟩) (Kd.V_mono HL101_0.out (fun k_ hk => (⟨hk, hk.2⟩ : _ ∧ k_ ≠ gb102))) (fun _ hk => hk.2) (.slice A101_0 ((rd_T29 l0 x12_1).f0).length c101_0)) (fun _ hk => hk.2) (.int .i64 ((rd_T29 l0 x12_1).f1.f0))) (fun _ hk => hk.2) (.slice A101_2 ((rd_T29 l0 x12_1).f1.f1).length c101_2)) (fun _ hk => hk.2) (.int .i64 ((rd_T29 l0 x12_1).f1.f2))) (fun _ h_ => h_.1)))).2.2) | (with_reducible refine Kd.C_alloc ?_ _) | (with_reducible refine Kd.C_drewN ?_ _) | (with_reducible refine Kd.C_drew ?_))); (case side2 => exact HC101_0.out); (case side3 => exact Kd.C_below HR1.out (by repeat (first | (with_reducible first | exact HB.out | apply below_alloc | apply pw_below_drewN | apply below_drew1 | refine below_set ?_ GE102.out) | exact HB.out))); (case side4 => exact HC1.out); rintro e w11 ⟨rfl, hb⟩; refine ⟨_, rfl, ?_⟩; have n0_ := Aside0.mk (Kd.N_below (by (with_reducible repeat (first | apply Kd.N_alloc | apply Kd.N_drewN | apply Kd.N_drew)); exact (Kd.N_mono (Kd.N_far (p := ⟨gb102, 3, none⟩) (Kd.N_far (p := ⟨gb102, 2, none⟩) (Kd.N_far (p := ⟨gb102, 1, none⟩) (Kd.N_far (p := ⟨gb102, 0, none⟩) (Kd.N_mono HO_7.out (fun k_ hk => (⟨hk, hk.2⟩ : _ ∧ k_ ≠ gb102))) (fun _ hk => hk.2) (.slice A101_0 ((rd_T29 l0 x12_1).f0).length c101_0)) (fun _ hk => hk.2) (.int .i64 ((rd_T29 l0 x12_1).f1.f0))) (fun _ hk => hk.2) (.slice A101_2 ((rd_T29 l0 x12_1).f1.f1).length c101_2)) (fun _ hk => hk.2) (.int .i64 ((rd_T29 l0 x12_1).f1.f2))) (fun _ h_ => h_.1))) hb); have n1_ := Aside0.mk (Kd.V_below (by (with_reducible repeat (first | apply Kd.V_alloc | apply Kd.V_drewN | apply Kd.V_drew)); exact (Kd.V_mono (Kd.V_far (p := ⟨gb102, 3, none⟩) (Kd.V_far (p := ⟨gb102, 2, none⟩) (Kd.V_far (p := ⟨gb102, 1, none⟩) (Kd.V_far (p := ⟨gb102, 0, none⟩) (Kd.V_mono HO_10.out (fun k_ hk => (⟨hk, hk.2⟩ : _ ∧ k_ ≠ gb102))) (fun _ hk => hk.2) (.slice A101_0 ((rd_T29 l0 x12_1).f0).length c101_0)) (fun _ hk => hk.2) (.int .i64 ((rd_T29 l0 x12_1).f1.f0))) (fun _ hk => hk.2) (.slice A101_2 ((rd_T29 l0 x12_1).f1.f1).length c101_2)) (fun _ hk => hk.2) (.int .i64 ((rd_T29 l0 x12_1).f1.f2))) (fun _ h_ => h_.1))) hb); have n2_ := Aside0.mk (Kd.V_below (by (with_reducible repeat (first | apply Kd.V_alloc | apply Kd.V_drewN | apply Kd.V_drew)); exact (Kd.V_mono (Kd.V_far (p := ⟨gb102, 3, none⟩) (Kd.V_far (p := ⟨gb102, 2, none⟩) (Kd.V_far (p := ⟨gb102, 1, none⟩) (Kd.V_far (p := ⟨gb102, 0, none⟩) (Kd.V_mono HL101_0.out (fun k_ hk => (⟨hk, hk.2⟩ : _ ∧ k_ ≠ gb102))) (fun _ hk => hk.2) (.slice A101_0 ((rd_T29 l0 x12_1).f0).length c101_0)) (fun _ hk => hk.2) (.int .i64 ((rd_T29 l0 x12_1).f1.f0))) (fun _ hk => hk.2) (.slice A101_2 ((rd_T29 l0 x12_1).f1.f1).length c101_2)) (fun _ hk => hk.2) (.int .i64 ((rd_T29 l0 x12_1).f1.f2))) (fun _ h_ => h_.1))) hb); have n3_ := Aside0.mk (Kd.V_below (by (with_reducible repeat (first | apply Kd.V_alloc | apply Kd.V_drewN | apply Kd.V_drew)); exact (Kd.V_mono (Kd.V_far (p := ⟨gb102, 3, none⟩) (Kd.V_far (p := ⟨gb102, 2, none⟩) (Kd.V_far (p := ⟨gb102, 1, none⟩) (Kd.V_far (p := ⟨gb102, 0, none⟩) (Kd.V_mono HL101_2.out (fun k_ hk => (⟨hk, hk.2⟩ : _ ∧ k_ ≠ gb102))) (fun _ hk => hk.2) (.slice A101_0 ((rd_T29 l0 x12_1).f0).length c101_0)) (fun _ hk => hk.2) (.int .i64 ((rd_T29 l0 x12_1).f1.f0))) (fun _ hk => hk.2) (.slice A101_2 ((rd_T29 l0 x12_1).f1.f1).length c101_2)) (fun _ hk => hk.2) (.int .i64 ((rd_T29 l0 x12_1).f1.f2))) (fun _ h_ => h_.1))) hb); have n4_ := Aside0.mk (Kd.C_below ((Kd.V_reads' (by (with_reducible repeat (first | apply Kd.V_alloc | apply Kd.V_drewN | apply Kd.V_drew)); exact (Kd.V_mono (Kd.V_far (p := ⟨gb102, 3, none⟩) (Kd.V_far (p := ⟨gb102, 2, none⟩) (Kd.V_far (p := ⟨gb102, 1, none⟩) (Kd.V_far (p := ⟨gb102, 0, none⟩) (Kd.V_mono HL101_0.out (fun k_ hk => (⟨hk, hk.2⟩ : _ ∧ k_ ≠ gb102))) (fun _ hk => hk.2) (.slice A101_0 ((rd_T29 l0 x12_1).f0).length c101_0)) (fun _ hk => hk.2) (.int .i64 ((rd_T29 l0 x12_1).f1.f0))) (fun _ hk => hk.2) (.slice A101_2 ((rd_T29 l0 x12_1).f1.f1).length c101_2)) (fun _ hk => hk.2) (.int .i64 ((rd_T29 l0 x12_1).f1.f2))) (fun _ h_ => h_.1)))).2.2) hb); have n5_ := Aside0.mk (Kd.C_below ((Kd.V_reads' (by (with_reducible repeat (first | apply Kd.V_alloc | apply Kd.V_drewN | apply Kd.V_drew)); exact (Kd.V_mono (Kd.V_far (p := ⟨gb102, 3, none⟩) (Kd.V_far (p := ⟨gb102, 2, none⟩) (Kd.V_far (p := ⟨gb102, 1, none⟩) (Kd.V_far (p := ⟨gb102, 0, none⟩) (Kd.V_mono HL101_2.out (fun k_ hk => (⟨hk, hk.2⟩ : _ ∧ k_ ≠ gb102))) (fun _ hk => hk.2) (.slice A101_0 ((rd_T29 l0 x12_1).f0).length c101_0)) (fun _ hk => hk.2) (.int .i64 ((rd_T29 l0 x12_1).f1.f0))) (fun _ hk => hk.2) (.slice A101_2 ((rd_T29 l0 x12_1).f1.f1).length c101_2)) (fun _ hk => hk.2) (.int .i64 ((rd_T29 l0 x12_1).f1.f2))) (fun _ h_ => h_.1)))).2.2) hb); have n6_ := Aside0.mk (blk_below (g := gb102) (o := .cells #[.slice A101_0 ((rd_T29 l0 x12_1).f0).length c101_0, .int .i64 ((rd_T29 l0 x12_1).f1.f0), .slice A101_2 ((rd_T29 l0 x12_1).f1.f1).length c101_2, .int .i64 ((rd_T29 l0 x12_1).f1.f2)] 29 (0, 0)) (by (with_reducible repeat (first | refine blk_drewN ?_ _ | refine blk_drew ?_ | refine blk_alloc ?_ _)); refine blk_put (cs := #[.slice A101_0 ((rd_T29 l0 x12_1).f0).length c101_0, .int .i64 ((rd_T29 l0 x12_1).f1.f0), .slice A101_2 ((rd_T29 l0 x12_1).f1.f1).length c101_2, .int .i64 0]) ?_ 3 _ rfl; (with_reducible repeat (first | refine blk_drewN ?_ _ | refine blk_drew ?_ | refine blk_alloc ?_ _)); refine blk_put (cs := #[.slice A101_0 ((rd_T29 l0 x12_1).f0).length c101_0, .int .i64 ((rd_T29 l0 x12_1).f1.f0), .slice none 0 0, .int .i64 0]) ?_ 2 _ rfl; (with_reducible repeat (first | refine blk_drewN ?_ _ | refine blk_drew ?_ | refine blk_alloc ?_ _)); refine blk_put (cs := #[.slice A101_0 ((rd_T29 l0 x12_1).f0).length c101_0, .int .i64 0, .slice none 0 0, .int .i64 0]) ?_ 1 _ rfl; (with_reducible repeat (first | refine blk_drewN ?_ _ | refine blk_drew ?_ | refine blk_alloc ?_ _)); refine blk_put (cs := #[.slice none 0 0, .int .i64 0, .slice none 0 0, .int .i64 0]) ?_ 0 _ rfl; (with_reducible repeat (first | refine blk_drewN ?_ _ | refine blk_drew ?_ | refine blk_alloc ?_ _)); exact BK102.out) hb); have n7_ := Aside0.mk (below_step (by repeat (first | (with_reducible first | exact HB.out | apply below_alloc | apply pw_below_drewN | apply below_drew1 | refine below_set ?_ GE102.out) | exact HB.out)) hb); clear HO_7; clear HO_10; clear HL101_0; clear HL101_2; clear HR101_0; clear HR101_2; clear BK102; clear HB; have HO_7 := n0_; have HO_10 := n1_; have HL101_0 := n2_; have HL101_2 := n3_; have HR101_0 := n4_; have HR101_2 := n5_; have BK102 := n6_; have HB := n7_; clear n0_ n1_ n2_ n3_ n4_ n5_ n6_ n7_; (try clear hb); (try clear hb2); (try clear hk); (try clear hi)))
              go_roundg k1
              case measure => have := HK1.out; omega
              case rel => exact ⟨(x7_1), (wrap64 (x12_1 + 1)), (by first | rfl | (simp; done) | (simp [*]; done)), H', ⟨by have := HK1.out; omega⟩, ⟨by (with_reducible repeat (first | apply Kd.N_alloc | apply Kd.N_drewN | apply Kd.N_drew)); exact Kd.N_mono HO_7.out (fun _ hk => hk.1)⟩, ⟨by (with_reducible repeat (first | apply Kd.V_alloc | apply Kd.V_drewN | apply Kd.V_drew)); exact Kd.V_mono HO_10.out (fun _ hk => ⟨hk.1.1, hk.1.2⟩)⟩, ⟨by repeat (first | (with_reducible first | exact HB.out | apply below_alloc | apply pw_below_drewN | apply below_drew1 | refine below_set ?_ GE102.out) | exact HB.out)⟩⟩
            · replace c8 := Bool.eq_false_iff.mpr c8
              subst c8
              have H1 : (if x7_1.length < 2199023255552 then (spinneyref20_Drop.l0 k1 l1 a2 (x7_1 ++ [(⟨(rd_T29 l0 x12_1).f0, (⟨(rd_T29 l0 x12_1).f1.f0, (rd_T29 l0 x12_1).f1.f1, (rd_T29 l0 x12_1).f1.f2⟩ : S27)⟩ : S29)]) l0 (l0.length : Int) (wrap64 (x12_1 + 1))) else (none)) = some r := by rw [if_neg (show ¬ (false = true) by decide)] at H; exact H
              clear H
              have H := H1
              clear H1
              by_cases c12 : x7_1.length < 2199023255552
              · rw [if_pos c12] at H
                have LMc12 := Aside0.mk c12
                clear c12
                obtain ⟨y104, hy104⟩ : ∃ y_ : List (S29), y_ = (x7_1 ++ [(⟨(rd_T29 l0 x12_1).f0, (⟨(rd_T29 l0 x12_1).f1.f0, (rd_T29 l0 x12_1).f1.f1, (rd_T29 l0 x12_1).f1.f2⟩ : S27)⟩ : S29)]) := ⟨_, rfl⟩
                replace H : (spinneyref20_Drop.l0 k1 l1 a2 y104 l0 (l0.length : Int) (wrap64 (x12_1 + 1))) = some r := by first | (rw [hy104]; with_reducible exact H) | (have H2_ := (Option.bind_some _ _).symm.trans H; rw [hy104]; with_reducible exact H2_) | (have H2_ := (Option.bind_some _ _).symm.trans H; with_reducible exact H2_) | with_reducible exact H | (rw [hy104]; exact H) | exact H
                have Ny104 := Aside0.mk hy104
                clear hy104
                have H' := Aside0.mk H
                clear H
                have p101 : 0 ≤ (x12_1 : Int) := of_decide_eq_true (by first | (with_reducible assumption) | assumption)
                have q101 : x12_1 < (l0.length : Int) := of_decide_eq_true (by first | (with_reducible assumption) | assumption)
                obtain ⟨ad101, A101_0, c101_0, A101_2, c101_2, e101, hx101_0, hx101_1, hx101_2, hx101_3, hl101_0, hi101_0, hl101_2, hi101_2⟩ := at_T29 (Kd.V_reads' HO_10.out).2.2 x12_1 p101 q101
                cases e101
                obtain ⟨ce101, hce101, hMe101, hcc101⟩ := Kd.V_get HO_10.out z29 x12_1 p101 (by first | exact q101 | exact of_decide_eq_true (by first | (with_reducible assumption) | assumption) | (have e_ := (Kd.V_reads' HO_10.out).1; omega))
                obtain ⟨ua101_0, uc101_0, ua101_2, uc101_2, rfl, ul101_0, ge101_0, ul101_2, ge101_2⟩ := k29_openF hMe101
                have hv101_0 := hcc101 0 _ rfl
                rw [Nat.add_zero] at hv101_0
                replace hv101_0 := Option.some.inj (hv101_0.symm.trans hx101_0)
                injection hv101_0 with hva_ hvn_ hvc_
                rw [hva_] at ge101_0
                rw [hvc_] at ul101_0
                have HL101_0 := Aside0.mk (show Kd.V (Kd.int .i64) 3 _ w.heap.size _ _ ((rd_T29 l0 x12_1).f0) from Kd.V_mk ul101_0 ge101_0)
                clear hva_ hvn_ hvc_ ge101_0 ul101_0
                have hv101_2 := hcc101 2 _ rfl
                rw [add_field _ _ 2 (by omega)] at hv101_2
                replace hv101_2 := Option.some.inj (hv101_2.symm.trans hx101_2)
                injection hv101_2 with hva_ hvn_ hvc_
                rw [hva_] at ge101_2
                rw [hvc_] at ul101_2
                have HL101_2 := Aside0.mk (show Kd.V k47 47 _ w.heap.size _ _ ((rd_T29 l0 x12_1).f1.f1) from Kd.V_mk ul101_2 ge101_2)
                clear hva_ hvn_ hvc_ ge101_2 ul101_2
                clear hcc101 hce101
                have HR101_0 := Aside0.mk hi101_0
                have HC101_0 := Aside0.mk hl101_0
                clear hi101_0 hl101_0
                have HR101_2 := Aside0.mk hi101_2
                have HC101_2 := Aside0.mk hl101_2
                clear hi101_2 hl101_2
                replace p101 := eq_true p101
                replace q101 := eq_true q101
                go_wp2_with (first | ((with_reducible refine gate_dst (N := 9) rfl ?_); refine box_event ?hg (N := 9) ?hd (cs := #[.slice none 0 0, .int .i64 0, .slice none 0 0, .int .i64 0]) (t := 29) ?hr ?_; (case hd => rfl); (case hg => rfl); (case hr => first | (go_simp; done) | (go_simp; rfl)); intro gb102 hg w13 hbox hb; have n0_ := Aside0.mk (Kd.N_below (Kd.N_elderB (by (with_reducible repeat (first | apply Kd.N_alloc | apply Kd.N_drewN | apply Kd.N_drew)); exact HO_7.out) gb102 (Nat.le_of_eq hg.symm)) hb); have n1_ := Aside0.mk (Kd.V_below (Kd.V_elderB (by (with_reducible repeat (first | apply Kd.V_alloc | apply Kd.V_drewN | apply Kd.V_drew)); exact HO_10.out) gb102 (Nat.le_of_eq hg.symm)) hb); have n2_ := Aside0.mk (Kd.V_below (Kd.V_elderB (by (with_reducible repeat (first | apply Kd.V_alloc | apply Kd.V_drewN | apply Kd.V_drew)); exact HL101_0.out) gb102 (Nat.le_of_eq hg.symm)) hb); have n3_ := Aside0.mk (Kd.V_below (Kd.V_elderB (by (with_reducible repeat (first | apply Kd.V_alloc | apply Kd.V_drewN | apply Kd.V_drew)); exact HL101_2.out) gb102 (Nat.le_of_eq hg.symm)) hb); have n4_ := Aside0.mk (Kd.C_below (by repeat (first | (with_reducible exact HR101_0.out) | (with_reducible refine Kd.C_alloc ?_ _) | (with_reducible refine Kd.C_drewN ?_ _) | (with_reducible refine Kd.C_drew ?_) | exact HR101_0.out)) hb); have n5_ := Aside0.mk (Kd.C_below (by repeat (first | (with_reducible exact HR101_2.out) | (with_reducible refine Kd.C_alloc ?_ _) | (with_reducible refine Kd.C_drewN ?_ _) | (with_reducible refine Kd.C_drew ?_) | exact HR101_2.out)) hb); have n6_ := Aside0.mk (below_step (by repeat (first | (with_reducible first | exact HB.out | apply below_alloc | apply pw_below_drewN | apply below_drew1) | exact HB.out)) hb); have n7_ := Aside0.mk (hbox); have n8_ := Aside0.mk ((by rw [hg]; exact (below_size (by repeat (first | (with_reducible first | exact HB.out | apply below_alloc | apply pw_below_drewN | apply below_drew1) | exact HB.out))) : w.heap.size ≤ gb102)); have n9_ := Aside0.mk ((by rw [hg]; exact (below_size (by repeat (first | (with_reducible first | exact HB.out | apply below_alloc | apply pw_below_drewN | apply below_drew1) | exact HB.out))) : w.heap.size ≤ gb102)); clear HO_7; clear HO_10; clear HL101_0; clear HL101_2; clear HR101_0; clear HR101_2; clear HB; have HO_7 := n0_; have HO_10 := n1_; have HL101_0 := n2_; have HL101_2 := n3_; have HR101_0 := n4_; have HR101_2 := n5_; have HB := n6_; have BK102 := n7_; have GW102 := n8_; have GE102 := n9_; clear n0_ n1_ n2_ n3_ n4_ n5_ n6_ n7_ n8_ n9_; clear hb hbox hg; have hcz14_0 : w13.cell? ⟨gb102, 0, none⟩ = some (.slice none 0 0) := (blk_cell BK102.out 0).trans rfl; have hcz14_1 : w13.cell? ⟨gb102, 1, none⟩ = some (.int .i64 0) := (blk_cell BK102.out 1).trans rfl; have hcz14_2 : w13.cell? ⟨gb102, 2, none⟩ = some (.slice none 0 0) := (blk_cell BK102.out 2).trans rfl; have hcz14_3 : w13.cell? ⟨gb102, 3, none⟩ = some (.int .i64 0) := (blk_cell BK102.out 3).trans rfl; have hfz14_0 := blk_frozen BK102.out 0; have hfz14_1 := blk_frozen BK102.out 1; have hfz14_2 := blk_frozen BK102.out 2; have hfz14_3 := blk_frozen BK102.out 3) | ((with_reducible refine gate_callee (f := 39) rfl ?_); refine goesL_ (some 20) rfl rfl Try.func39 (by kernel_rfl) rfl #[.slice A101_0 ((rd_T29 l0 x12_1).f0).length c101_0, .slice A1 l1.length c1, .int .i64 a2] rfl (by (try simp only [List.map_toArray, List.map_cons, List.map_nil]); first | done | rfl | (simp only [List.length_drop, List.length_take]; rfl)) ?_; (with_reducible refine (spinneyref19_PrunedW.calls _ _ ((rd_T29 l0 x12_1).f0) _ _ l1 a2 false _ ?side1 ?side2 ?side3 ?side4 A7.out).mono ?_); (case side1 => repeat (first | exact ((Kd.V_reads' (by (with_reducible repeat (first | apply Kd.V_alloc | apply Kd.V_drewN | apply Kd.V_drew)); exact (Kd.V_mono (Kd.V_far (p := ⟨gb102, 3, none⟩) (Kd.V_far (p := ⟨gb102, 2, none⟩) (Kd.V_far (p := ⟨gb102, 1, none⟩) (Kd.V_far (p := ⟨gb102, 0, none⟩) (Kd.V_mono HL101_0.out (fun k_ hk => (⟨hk, hk.2⟩ : _ ∧ k_ ≠ gb102))) (fun _ hk => hk.2) (.slice A101_0 ((rd_T29 l0 x12_1).f0).length c101_0)) (fun _ hk => hk.2) (.int .i64 ((rd_T29 l0 x12_1).f1.f0))) (fun _ hk => hk.2) (.slice A101_2 ((rd_T29 l0 x12_1).f1.f1).length c101_2)) (fun _ hk => hk.2) (.int .i64 ((rd_T29 l0 x12_1).f1.f2))) (fun _ h_ => h_.1)))).2.2) | (with_reducible refine Kd.C_alloc ?_ _) | (with_reducible refine Kd.C_drewN ?_ _) | (with_reducible refine Kd.C_drew ?_))); (case side2 => exact HC101_0.out); (case side3 => exact Kd.C_below HR1.out (by repeat (first | (with_reducible first | exact HB.out | apply below_alloc | apply pw_below_drewN | apply below_drew1 | refine below_set ?_ GE102.out) | exact HB.out))); (case side4 => exact HC1.out); rintro e w15 ⟨rfl, hb⟩; refine ⟨_, rfl, ?_⟩; have n0_ := Aside0.mk (Kd.N_below (by (with_reducible repeat (first | apply Kd.N_alloc | apply Kd.N_drewN | apply Kd.N_drew)); exact (Kd.N_mono (Kd.N_far (p := ⟨gb102, 3, none⟩) (Kd.N_far (p := ⟨gb102, 2, none⟩) (Kd.N_far (p := ⟨gb102, 1, none⟩) (Kd.N_far (p := ⟨gb102, 0, none⟩) (Kd.N_mono HO_7.out (fun k_ hk => (⟨hk, hk.2⟩ : _ ∧ k_ ≠ gb102))) (fun _ hk => hk.2) (.slice A101_0 ((rd_T29 l0 x12_1).f0).length c101_0)) (fun _ hk => hk.2) (.int .i64 ((rd_T29 l0 x12_1).f1.f0))) (fun _ hk => hk.2) (.slice A101_2 ((rd_T29 l0 x12_1).f1.f1).length c101_2)) (fun _ hk => hk.2) (.int .i64 ((rd_T29 l0 x12_1).f1.f2))) (fun _ h_ => h_.1))) hb); have n1_ := Aside0.mk (Kd.V_below (by (with_reducible repeat (first | apply Kd.V_alloc | apply Kd.V_drewN | apply Kd.V_drew)); exact (Kd.V_mono (Kd.V_far (p := ⟨gb102, 3, none⟩) (Kd.V_far (p := ⟨gb102, 2, none⟩) (Kd.V_far (p := ⟨gb102, 1, none⟩) (Kd.V_far (p := ⟨gb102, 0, none⟩) (Kd.V_mono HO_10.out (fun k_ hk => (⟨hk, hk.2⟩ : _ ∧ k_ ≠ gb102))) (fun _ hk => hk.2) (.slice A101_0 ((rd_T29 l0 x12_1).f0).length c101_0)) (fun _ hk => hk.2) (.int .i64 ((rd_T29 l0 x12_1).f1.f0))) (fun _ hk => hk.2) (.slice A101_2 ((rd_T29 l0 x12_1).f1.f1).length c101_2)) (fun _ hk => hk.2) (.int .i64 ((rd_T29 l0 x12_1).f1.f2))) (fun _ h_ => h_.1))) hb); have n2_ := Aside0.mk (Kd.V_below (by (with_reducible repeat (first | apply Kd.V_alloc | apply Kd.V_drewN | apply Kd.V_drew)); exact (Kd.V_mono (Kd.V_far (p := ⟨gb102, 3, none⟩) (Kd.V_far (p := ⟨gb102, 2, none⟩) (Kd.V_far (p := ⟨gb102, 1, none⟩) (Kd.V_far (p := ⟨gb102, 0, none⟩) (Kd.V_mono HL101_0.out (fun k_ hk => (⟨hk, hk.2⟩ : _ ∧ k_ ≠ gb102))) (fun _ hk => hk.2) (.slice A101_0 ((rd_T29 l0 x12_1).f0).length c101_0)) (fun _ hk => hk.2) (.int .i64 ((rd_T29 l0 x12_1).f1.f0))) (fun _ hk => hk.2) (.slice A101_2 ((rd_T29 l0 x12_1).f1.f1).length c101_2)) (fun _ hk => hk.2) (.int .i64 ((rd_T29 l0 x12_1).f1.f2))) (fun _ h_ => h_.1))) hb); have n3_ := Aside0.mk (Kd.V_below (by (with_reducible repeat (first | apply Kd.V_alloc | apply Kd.V_drewN | apply Kd.V_drew)); exact (Kd.V_mono (Kd.V_far (p := ⟨gb102, 3, none⟩) (Kd.V_far (p := ⟨gb102, 2, none⟩) (Kd.V_far (p := ⟨gb102, 1, none⟩) (Kd.V_far (p := ⟨gb102, 0, none⟩) (Kd.V_mono HL101_2.out (fun k_ hk => (⟨hk, hk.2⟩ : _ ∧ k_ ≠ gb102))) (fun _ hk => hk.2) (.slice A101_0 ((rd_T29 l0 x12_1).f0).length c101_0)) (fun _ hk => hk.2) (.int .i64 ((rd_T29 l0 x12_1).f1.f0))) (fun _ hk => hk.2) (.slice A101_2 ((rd_T29 l0 x12_1).f1.f1).length c101_2)) (fun _ hk => hk.2) (.int .i64 ((rd_T29 l0 x12_1).f1.f2))) (fun _ h_ => h_.1))) hb); have n4_ := Aside0.mk (Kd.C_below ((Kd.V_reads' (by (with_reducible repeat (first | apply Kd.V_alloc | apply Kd.V_drewN | apply Kd.V_drew)); exact (Kd.V_mono (Kd.V_far (p := ⟨gb102, 3, none⟩) (Kd.V_far (p := ⟨gb102, 2, none⟩) (Kd.V_far (p := ⟨gb102, 1, none⟩) (Kd.V_far (p := ⟨gb102, 0, none⟩) (Kd.V_mono HL101_0.out (fun k_ hk => (⟨hk, hk.2⟩ : _ ∧ k_ ≠ gb102))) (fun _ hk => hk.2) (.slice A101_0 ((rd_T29 l0 x12_1).f0).length c101_0)) (fun _ hk => hk.2) (.int .i64 ((rd_T29 l0 x12_1).f1.f0))) (fun _ hk => hk.2) (.slice A101_2 ((rd_T29 l0 x12_1).f1.f1).length c101_2)) (fun _ hk => hk.2) (.int .i64 ((rd_T29 l0 x12_1).f1.f2))) (fun _ h_ => h_.1)))).2.2) hb); have n5_ := Aside0.mk (Kd.C_below ((Kd.V_reads' (by (with_reducible repeat (first | apply Kd.V_alloc | apply Kd.V_drewN | apply Kd.V_drew)); exact (Kd.V_mono (Kd.V_far (p := ⟨gb102, 3, none⟩) (Kd.V_far (p := ⟨gb102, 2, none⟩) (Kd.V_far (p := ⟨gb102, 1, none⟩) (Kd.V_far (p := ⟨gb102, 0, none⟩) (Kd.V_mono HL101_2.out (fun k_ hk => (⟨hk, hk.2⟩ : _ ∧ k_ ≠ gb102))) (fun _ hk => hk.2) (.slice A101_0 ((rd_T29 l0 x12_1).f0).length c101_0)) (fun _ hk => hk.2) (.int .i64 ((rd_T29 l0 x12_1).f1.f0))) (fun _ hk => hk.2) (.slice A101_2 ((rd_T29 l0 x12_1).f1.f1).length c101_2)) (fun _ hk => hk.2) (.int .i64 ((rd_T29 l0 x12_1).f1.f2))) (fun _ h_ => h_.1)))).2.2) hb); have n6_ := Aside0.mk (blk_below (g := gb102) (o := .cells #[.slice A101_0 ((rd_T29 l0 x12_1).f0).length c101_0, .int .i64 ((rd_T29 l0 x12_1).f1.f0), .slice A101_2 ((rd_T29 l0 x12_1).f1.f1).length c101_2, .int .i64 ((rd_T29 l0 x12_1).f1.f2)] 29 (0, 0)) (by (with_reducible repeat (first | refine blk_drewN ?_ _ | refine blk_drew ?_ | refine blk_alloc ?_ _)); refine blk_put (cs := #[.slice A101_0 ((rd_T29 l0 x12_1).f0).length c101_0, .int .i64 ((rd_T29 l0 x12_1).f1.f0), .slice A101_2 ((rd_T29 l0 x12_1).f1.f1).length c101_2, .int .i64 0]) ?_ 3 _ rfl; (with_reducible repeat (first | refine blk_drewN ?_ _ | refine blk_drew ?_ | refine blk_alloc ?_ _)); refine blk_put (cs := #[.slice A101_0 ((rd_T29 l0 x12_1).f0).length c101_0, .int .i64 ((rd_T29 l0 x12_1).f1.f0), .slice none 0 0, .int .i64 0]) ?_ 2 _ rfl; (with_reducible repeat (first | refine blk_drewN ?_ _ | refine blk_drew ?_ | refine blk_alloc ?_ _)); refine blk_put (cs := #[.slice A101_0 ((rd_T29 l0 x12_1).f0).length c101_0, .int .i64 0, .slice none 0 0, .int .i64 0]) ?_ 1 _ rfl; (with_reducible repeat (first | refine blk_drewN ?_ _ | refine blk_drew ?_ | refine blk_alloc ?_ _)); refine blk_put (cs := #[.slice none 0 0, .int .i64 0, .slice none 0 0, .int .i64 0]) ?_ 0 _ rfl; (with_reducible repeat (first | refine blk_drewN ?_ _ | refine blk_drew ?_ | refine blk_alloc ?_ _)); exact BK102.out) hb); have n7_ := Aside0.mk (below_step (by repeat (first | (with_reducible first | exact HB.out | apply below_alloc | apply pw_below_drewN | apply below_drew1 | refine below_set ?_ GE102.out) | exact HB.out)) hb); clear HO_7; clear HO_10; clear HL101_0; clear HL101_2; clear HR101_0; clear HR101_2; clear BK102; clear HB; have HO_7 := n0_; have HO_10 := n1_; have HL101_0 := n2_; have HL101_2 := n3_; have HR101_0 := n4_; have HR101_2 := n5_; have BK102 := n6_; have HB := n7_; clear n0_ n1_ n2_ n3_ n4_ n5_ n6_ n7_; (try clear hb); (try clear hb2); (try clear hk); (try clear hi); have hcz16_0 : w15.cell? ⟨gb102, 0, none⟩ = some (.slice A101_0 ((rd_T29 l0 x12_1).f0).length c101_0) := (blk_cell BK102.out 0).trans rfl; have hcz16_1 : w15.cell? ⟨gb102, 1, none⟩ = some (.int .i64 ((rd_T29 l0 x12_1).f1.f0)) := (blk_cell BK102.out 1).trans rfl; have hcz16_2 : w15.cell? ⟨gb102, 2, none⟩ = some (.slice A101_2 ((rd_T29 l0 x12_1).f1.f1).length c101_2) := (blk_cell BK102.out 2).trans rfl; have hcz16_3 : w15.cell? ⟨gb102, 3, none⟩ = some (.int .i64 ((rd_T29 l0 x12_1).f1.f2)) := (blk_cell BK102.out 3).trans rfl; have hfz16_0 := blk_frozen BK102.out 0; have hfz16_1 := blk_frozen BK102.out 1; have hfz16_2 := blk_frozen BK102.out 2; have hfz16_3 := blk_frozen BK102.out 3) | ((with_reducible refine gate_builtin (b := .append) (xs := #[.tmp 22, .tmp 24]) rfl ?_); at_builtin; refine Kd.N_append k29 (w0 := w) w.heap.size rfl (.tmp 22) (.tmp 24) 22 29 (.agg #[(.slice none 0 0), (.int .i64 0), (.slice none 0 0), (.int .i64 0)]) 64 rfl Try.underlying22 info29 rfl (by decide) (by omega) u7 x7_1 (⟨(rd_T29 l0 x12_1).f0, (⟨(rd_T29 l0 x12_1).f1.f0, (rd_T29 l0 x12_1).f1.f1, (rd_T29 l0 x12_1).f1.f2⟩ : S27)⟩ : S29) [.slice A101_0 ((rd_T29 l0 x12_1).f0).length c101_0, .int .i64 ((rd_T29 l0 x12_1).f1.f0), .slice A101_2 ((rd_T29 l0 x12_1).f1.f1).length c101_2, .int .i64 ((rd_T29 l0 x12_1).f1.f2)] (fun k_ => (P0_ k_ ∨ w.heap.size ≤ k_) ∧ k_ ≠ gb102) (fun k_ => ((fun k_ => (P0_ k_ ∨ w.heap.size ≤ k_) ∧ k_ ≠ gb102)) k_ ∧ some k_ ≠ (u7 : Value).ownBlock) rfl rfl ?aP (fun _ hk => hk) ?aF ?aO ?aB ?aS ?aL ?_; (case aP => exact (k29_mkF _ _ (⟨(rd_T29 l0 x12_1).f0, (⟨(rd_T29 l0 x12_1).f1.f0, (rd_T29 l0 x12_1).f1.f1, (rd_T29 l0 x12_1).f1.f2⟩ : S27)⟩ : S29) (Kd.V_reads' (Kd.V_mono (ok' := (fun k_ => ((fun k_ => (P0_ k_ ∨ w.heap.size ≤ k_) ∧ k_ ≠ gb102)) k_ ∧ some k_ ≠ (u7 : Value).ownBlock)) (HL101_0.out) (fun k_ hk => ⟨⟨hk.1.1, hk.2⟩, hk.1.2⟩))).2.1 (Kd.V_F (Kd.V_mono (ok' := (fun k_ => ((fun k_ => (P0_ k_ ∨ w.heap.size ≤ k_) ∧ k_ ≠ gb102)) k_ ∧ some k_ ≠ (u7 : Value).ownBlock)) (HL101_0.out) (fun k_ hk => ⟨⟨hk.1.1, hk.2⟩, hk.1.2⟩))) (Kd.V_reads' (Kd.V_mono (ok' := (fun k_ => ((fun k_ => (P0_ k_ ∨ w.heap.size ≤ k_) ∧ k_ ≠ gb102)) k_ ∧ some k_ ≠ (u7 : Value).ownBlock)) (HL101_2.out) (fun k_ hk => ⟨⟨hk.1.1, hk.2⟩, hk.1.2⟩))).2.1 (Kd.V_F (Kd.V_mono (ok' := (fun k_ => ((fun k_ => (P0_ k_ ∨ w.heap.size ≤ k_) ∧ k_ ≠ gb102)) k_ ∧ some k_ ≠ (u7 : Value).ownBlock)) (HL101_2.out) (fun k_ hk => ⟨⟨hk.1.1, hk.2⟩, hk.1.2⟩))))); (case aB => exact (by repeat (first | (with_reducible first | exact HB.out | apply below_alloc | apply pw_below_drewN | apply below_drew1 | refine below_set ?_ GE102.out) | exact HB.out))); (case aF => exact (fun k_ hk => ⟨(.inr (Nat.le_trans (below_size (by repeat (first | (with_reducible first | exact HB.out | apply below_alloc | apply pw_below_drewN | apply below_drew1 | refine below_set ?_ GE102.out) | exact HB.out))) hk)), Kd.freshB (g := gb102) (o := .cells #[.slice A101_0 ((rd_T29 l0 x12_1).f0).length c101_0, .int .i64 ((rd_T29 l0 x12_1).f1.f0), .slice A101_2 ((rd_T29 l0 x12_1).f1.f1).length c101_2, .int .i64 ((rd_T29 l0 x12_1).f1.f2)] 29 (0, 0)) (by (with_reducible repeat (first | refine blk_drewN ?_ _ | refine blk_drew ?_ | refine blk_alloc ?_ _)); exact BK102.out) k_ hk⟩)); (case aO => exact (by (with_reducible repeat (first | apply Kd.N_alloc | apply Kd.N_drewN | apply Kd.N_drew)); exact HO_7.out)); (case aS => exact (below_size (by repeat (first | (with_reducible first | exact HB.out | apply below_alloc | apply pw_below_drewN | apply below_drew1 | refine below_set ?_ GE102.out) | exact HB.out)))); (case aL => have := LMc12.out; omega); intro v105 w17 ho hb hg hat; rw [← Ny104.out] at ho; have n0_ := Aside0.mk (Kd.V_afterv (ok := (fun k_ => (P0_ k_ ∨ w.heap.size ≤ k_) ∧ k_ ≠ gb102)) (by (with_reducible repeat (first | apply Kd.V_alloc | apply Kd.V_drewN | apply Kd.V_drew)); exact Kd.V_mono HO_10.out (fun _ hk => ⟨⟨hk.1.1, hk.2⟩, hk.1.2⟩)) hg hat); have n1_ := Aside0.mk (Kd.V_afterv (ok := (fun k_ => (P0_ k_ ∨ w.heap.size ≤ k_) ∧ k_ ≠ gb102)) (by (with_reducible repeat (first | apply Kd.V_alloc | apply Kd.V_drewN | apply Kd.V_drew)); exact Kd.V_mono HL101_0.out (fun _ hk => ⟨⟨hk.1.1, hk.2⟩, hk.1.2⟩)) hg hat); have n2_ := Aside0.mk (Kd.V_afterv (ok := (fun k_ => (P0_ k_ ∨ w.heap.size ≤ k_) ∧ k_ ≠ gb102)) (by (with_reducible repeat (first | apply Kd.V_alloc | apply Kd.V_drewN | apply Kd.V_drew)); exact Kd.V_mono HL101_2.out (fun _ hk => ⟨⟨hk.1.1, hk.2⟩, hk.1.2⟩)) hg hat); have n3_ := Aside0.mk (blk_grown (g := gb102) (o := .cells #[.slice A101_0 ((rd_T29 l0 x12_1).f0).length c101_0, .int .i64 ((rd_T29 l0 x12_1).f1.f0), .slice A101_2 ((rd_T29 l0 x12_1).f1.f1).length c101_2, .int .i64 ((rd_T29 l0 x12_1).f1.f2)] 29 (0, 0)) (by (with_reducible repeat (first | refine blk_drewN ?_ _ | refine blk_drew ?_ | refine blk_alloc ?_ _)); exact BK102.out) hg (Kd.N_away HO_7.out (fun _ hk => hk.2))); have n4_ := Aside0.mk (hb); have n5_ := Aside0.mk (ho); clear HO_10; clear HL101_0; clear HL101_2; clear BK102; clear HB; clear HO_7; have HO_10 := n0_; have HL101_0 := n1_; have HL101_2 := n2_; have BK102 := n3_; have HB := n4_; have HO106 := n5_; clear n0_ n1_ n2_ n3_ n4_ n5_; clear ho hb hg hat))
                go_roundg k1
                case measure => have := HK1.out; omega
                case rel => exact ⟨(y104), (wrap64 (x12_1 + 1)), (by first | rfl | (simp; done) | (simp [*]; done)), H', ⟨by have := HK1.out; omega⟩, ⟨by (with_reducible repeat (first | apply Kd.N_alloc | apply Kd.N_drewN | apply Kd.N_drew)); exact Kd.N_mono HO106.out (fun _ hk => hk.1)⟩, ⟨by (with_reducible repeat (first | apply Kd.V_alloc | apply Kd.V_drewN | apply Kd.V_drew)); exact Kd.V_mono HO_10.out (fun _ hk => ⟨hk.1.1, hk.2⟩)⟩, ⟨by repeat (first | (with_reducible first | exact HB.out | apply below_alloc | apply pw_below_drewN | apply below_drew1 | refine below_set ?_ GE102.out) | exact HB.out)⟩⟩
              · rw [if_neg c12] at H
                exact absurd H (by simp)
          · rw [if_neg c6] at H
            exact absurd H (by simp)
        · rw [if_neg c5] at H
          exact absurd H (by simp)
      · rw [if_neg c4] at H
        have c4b0 : decide (x12_1 < (l0.length : Int)) = false := decide_eq_false c4
        clear c4
        obtain rfl := Option.some.inj H
        go_wp2
        go_ret
        exact ⟨_, by first | rfl | (simp [errW_none, errW_some] <;> rfl) | (simp [*, errW_none, errW_some] <;> rfl), by (with_reducible repeat (first | apply Kd.N_alloc | apply Kd.N_drewN | apply Kd.N_drew)); exact HO_7.out, by repeat (first | (with_reducible first | exact HB.out | apply below_alloc | apply pw_below_drewN | apply below_drew1) | exact HB.out)⟩

end Go.Proofs.Ytlapiebnmbbemaa.A
end
section
-- Written by my drive.py over the kit's print program. Not trusted: Lean checks it.
namespace Go.Proofs.Ytlapiebnmbbemaa.A
open Go.RowKit Go.Proofs.YtlapiebnmbbemaaW.PrintWords Go.Proofs.YtlapiebnmbbemaaW.PrintLast Go.Proofs.YtlapiebnmbbemaaW.PrintMore
attribute [local go_sem] max2_int min2_int max_two min_two max_three min_three max_four min_four   -- for this text's walks alone
set_option linter.unusedVariables false
set_option linter.unusedSimpArgs false

/-! ### spinneyref20_Events: function 19 -/
def spinneyref20_Events.l0 : Nat → List (S27) → List (S29) → Int → Int → Option ((List (S27)))
  | 0, _, _, _, _ => none
  | k + 1, x3, x6, x7, x8 => if x8 < x7 then (if 0 ≤ x8 then (if x8 < (x6.length : Int) then (if x3.length < 3518437208883 then ((some (x3 ++ [(⟨(rd_T29 x6 x8).f1.f0, (rd_T29 x6 x8).f1.f1, (rd_T29 x6 x8).f1.f2⟩ : S27)] : List (S27))).bind fun y103 => (if ((rd_T29 x6 x8).f1.f0) = 3 then (some y103) else (spinneyref20_Events.l0 k y103 x6 x7 (wrap64 (x8 + 1))))) else (none)) else (none)) else (none)) else (some x3)
def spinneyref20_Events.f (k : Nat) (l0 : List (S29)) : Option ((List (S27))) := spinneyref20_Events.l0 k ([] : List (S27)) l0 (l0.length : Int) 0
theorem spinneyref20_Events.mono_l : ∀ k, (∀ y0 y1 y2 y3, LeO (spinneyref20_Events.l0 k y0 y1 y2 y3) (spinneyref20_Events.l0 (k + 1) y0 y1 y2 y3))
  | 0 => fun _ _ _ _ r h => by simp [spinneyref20_Events.l0] at h
  | k + 1 => by
    have ih0 := spinneyref20_Events.mono_l k
    · intro y0 y1 y2 y3
      unfold spinneyref20_Events.l0
      repeat' first
      | (with_reducible exact ih0 _ _ _ _)
      | (with_reducible exact LeO.refl _)
      | (with_reducible exact LeO.none _)
      | (with_reducible refine LeO.ite ?_ ?_)
      | (with_reducible refine LeO.bind ?_ (fun _ => ?_))
      | exact ih0 _ _ _ _
      | exact LeO.none _
      | refine LeO.ite ?_ ?_
      | refine LeO.bind ?_ (fun _ => ?_)
theorem spinneyref20_Events.mono : ∀ a0 k, LeO (spinneyref20_Events.f k a0) (spinneyref20_Events.f (k + 1) a0) := by
  intro a0 k
  have ih0 := spinneyref20_Events.mono_l k
  unfold spinneyref20_Events.f
  repeat' first
      | (with_reducible exact ih0 _ _ _ _)
      | (with_reducible exact LeO.refl _)
      | (with_reducible exact LeO.none _)
      | (with_reducible refine LeO.ite ?_ ?_)
      | (with_reducible refine LeO.bind ?_ (fun _ => ?_))
      | exact ih0 _ _ _ _
      | exact LeO.none _
      | refine LeO.ite ?_ ?_
      | refine LeO.bind ?_ (fun _ => ?_)
set_option maxHeartbeats 8000000 in
set_option maxRecDepth 100000 in
theorem spinneyref20_Events.calls (k : Nat) (P0_ : Nat → Prop) (A0 : Option Addr) (c0 : Nat) (l0 : List (S29)) (r : List (S27)) (w : World) (hs0 : Kd.V k29 29 w w.heap.size (fun k_ => P0_ k_) (.slice A0 l0.length c0) l0) (h : spinneyref20_Events.f k l0 = some r) :
    Calls Try.prog 19 #[.slice A0 l0.length c0] w fun e w' => ∃ v0_ : Value, e = .returned (v0_) ∧ Kd.N k27 27 w' w.heap.size (fun k_ => (P0_ k_ ∨ w.heap.size ≤ k_)) v0_ r ∧ Below w.heap.size w w' := by
  have hu29 := Try.underlying29
  have hu27 := Try.underlying27
  have HO0 := Aside0.mk (show Kd.V k29 29 w w.heap.size (fun k_ => (P0_ k_ ∨ w.heap.size ≤ k_)) (.slice A0 l0.length c0) l0 from Kd.V_mono hs0 (fun k_ hk => .inl hk))
  have HB := Aside0.mk (Below.refl w.heap.size w)
  have H : (spinneyref20_Events.l0 k ([] : List (S27)) l0 (l0.length : Int) 0) = some r := h
  clear h
  have H' := Aside0.mk H
  clear H
  go_enter Try.func19, Try.ntmps19
  go_wp2
  go_loopg [3, 8] k (fun kq v3 v8 w' => ∃ (x3_1 : List (S27)) (x8_1 : Int), v8 = .int .i64 x8_1 ∧ Aside0 (spinneyref20_Events.l0 kq x3_1 l0 (l0.length : Int) x8_1 = some r) ∧ Aside0 (kq ≤ k) ∧ Aside0 (Kd.N k27 27 w' w.heap.size (fun k_ => (P0_ k_ ∨ w.heap.size ≤ k_)) v3 x3_1) ∧ Aside0 (Kd.V k29 29 w' w.heap.size (fun k_ => (P0_ k_ ∨ w.heap.size ≤ k_) ∧ some k_ ≠ (v3 : Value).ownBlock) (.slice A0 l0.length c0) l0) ∧ Aside0 (Below w.heap.size w w'))
  case atStart => exact ⟨(([] : List (S27))), (0), (by first | rfl | (simp; done) | (simp [*]; done)), H', ⟨Nat.le_refl _⟩, ⟨by first | exact Kd.R_nil _ _ _ _ _ | exact Kd.N_nil _ _ _ _ _ | exact Kd.V_nil _ _ _ _ _ | exact Kd.Q_nil _ _ _ _ _ | exact Kd.S_nil _ _ _ _ _⟩, ⟨by (with_reducible repeat (first | apply Kd.V_alloc | apply Kd.V_drewN | apply Kd.V_drew)); exact Kd.V_mono HO0.out (fun _ hk => ⟨hk, (by simp [Value.ownBlock])⟩)⟩, ⟨by repeat (first | (with_reducible first | exact HB.out | apply below_alloc | apply pw_below_drewN | apply below_drew1) | exact HB.out)⟩⟩
  case round =>
    clear H'
    try clear c1
    obtain ⟨x3_1, x8_1, rfl, HA, HK1, HO_3, HO_6, HB⟩ := hrel
    cases gk with
    | zero => exact absurd HA.out (by simp [spinneyref20_Events.l0])
    | succ k1 =>
      have H := HA.out
      clear HA
      simp only [spinneyref20_Events.l0] at H
      by_cases c2 : x8_1 < (l0.length : Int)
      · rw [if_pos c2] at H
        have c2b0 : decide (x8_1 < (l0.length : Int)) = true := decide_eq_true c2
        clear c2
        by_cases c3 : 0 ≤ x8_1
        · rw [if_pos c3] at H
          have c3b0 : decide (0 ≤ x8_1) = true := decide_eq_true c3
          clear c3
          by_cases c4 : x8_1 < (l0.length : Int)
          · rw [if_pos c4] at H
            have c4b0 : decide (x8_1 < (l0.length : Int)) = true := decide_eq_true c4
            clear c4
            by_cases c5 : x3_1.length < 3518437208883
            · rw [if_pos c5] at H
              have LMc5 := Aside0.mk c5
              clear c5
              obtain ⟨y103, hy103⟩ : ∃ y_ : List (S27), y_ = (x3_1 ++ [(⟨(rd_T29 l0 x8_1).f1.f0, (rd_T29 l0 x8_1).f1.f1, (rd_T29 l0 x8_1).f1.f2⟩ : S27)]) := ⟨_, rfl⟩
              replace H : (if ((rd_T29 l0 x8_1).f1.f0) = 3 then (some y103) else (spinneyref20_Events.l0 k1 y103 l0 (l0.length : Int) (wrap64 (x8_1 + 1)))) = some r := by first | (rw [hy103]; with_reducible exact H) | (have H2_ := (Option.bind_some _ _).symm.trans H; rw [hy103]; with_reducible exact H2_) | (have H2_ := (Option.bind_some _ _).symm.trans H; with_reducible exact H2_) | with_reducible exact H | (rw [hy103]; exact H) | exact H
              have Ny103 := Aside0.mk hy103
              clear hy103
              by_cases c6 : ((rd_T29 l0 x8_1).f1.f0) = 3
              · rw [if_pos c6] at H
                have c6b0 : (((rd_T29 l0 x8_1).f1.f0) == 3) = true := beq_iff_eq.mpr c6
                have c6b1 : (((rd_T29 l0 x8_1).f1.f0) != 3) = false := bne_eq_false_iff_eq.mpr c6
                clear c6
                obtain rfl := Option.some.inj H
                have p101 : 0 ≤ (x8_1 : Int) := of_decide_eq_true (by first | (with_reducible assumption) | assumption)
                have q101 : x8_1 < (l0.length : Int) := of_decide_eq_true (by first | (with_reducible assumption) | assumption)
                obtain ⟨ad101, A101_0, c101_0, A101_2, c101_2, e101, hx101_0, hx101_1, hx101_2, hx101_3, hl101_0, hi101_0, hl101_2, hi101_2⟩ := at_T29 (Kd.V_reads' HO_6.out).2.2 x8_1 p101 q101
                cases e101
                obtain ⟨ce101, hce101, hMe101, hcc101⟩ := Kd.V_get HO_6.out z29 x8_1 p101 (by first | exact q101 | exact of_decide_eq_true (by first | (with_reducible assumption) | assumption) | (have e_ := (Kd.V_reads' HO_6.out).1; omega))
                obtain ⟨ua101_0, uc101_0, ua101_2, uc101_2, rfl, ul101_0, ge101_0, ul101_2, ge101_2⟩ := k29_openF hMe101
                have hv101_0 := hcc101 0 _ rfl
                rw [Nat.add_zero] at hv101_0
                replace hv101_0 := Option.some.inj (hv101_0.symm.trans hx101_0)
                injection hv101_0 with hva_ hvn_ hvc_
                rw [hva_] at ge101_0
                rw [hvc_] at ul101_0
                have HL101_0 := Aside0.mk (show Kd.V (Kd.int .i64) 3 _ w.heap.size _ _ ((rd_T29 l0 x8_1).f0) from Kd.V_mk ul101_0 ge101_0)
                clear hva_ hvn_ hvc_ ge101_0 ul101_0
                have hv101_2 := hcc101 2 _ rfl
                rw [add_field _ _ 2 (by omega)] at hv101_2
                replace hv101_2 := Option.some.inj (hv101_2.symm.trans hx101_2)
                injection hv101_2 with hva_ hvn_ hvc_
                rw [hva_] at ge101_2
                rw [hvc_] at ul101_2
                have HL101_2 := Aside0.mk (show Kd.V k47 47 _ w.heap.size _ _ ((rd_T29 l0 x8_1).f1.f1) from Kd.V_mk ul101_2 ge101_2)
                clear hva_ hvn_ hvc_ ge101_2 ul101_2
                clear hcc101 hce101
                have HR101_0 := Aside0.mk hi101_0
                have HC101_0 := Aside0.mk hl101_0
                clear hi101_0 hl101_0
                have HR101_2 := Aside0.mk hi101_2
                have HC101_2 := Aside0.mk hl101_2
                clear hi101_2 hl101_2
                replace p101 := eq_true p101
                replace q101 := eq_true q101
                go_wp2_with (first | ((with_reducible refine gate_dst (N := 5) rfl ?_); refine box_event ?hg (N := 5) ?hd (cs := #[.slice none 0 0, .int .i64 0, .slice none 0 0, .int .i64 0]) (t := 29) ?hr ?_; (case hd => rfl); (case hg => rfl); (case hr => first | (go_simp; done) | (go_simp; rfl)); intro gb102 hg w7 hbox hb; have n0_ := Aside0.mk (Kd.N_below (Kd.N_elderB (by (with_reducible repeat (first | apply Kd.N_alloc | apply Kd.N_drewN | apply Kd.N_drew)); exact HO_3.out) gb102 (Nat.le_of_eq hg.symm)) hb); have n1_ := Aside0.mk (Kd.V_below (Kd.V_elderB (by (with_reducible repeat (first | apply Kd.V_alloc | apply Kd.V_drewN | apply Kd.V_drew)); exact HO_6.out) gb102 (Nat.le_of_eq hg.symm)) hb); have n2_ := Aside0.mk (Kd.V_below (Kd.V_elderB (by (with_reducible repeat (first | apply Kd.V_alloc | apply Kd.V_drewN | apply Kd.V_drew)); exact HL101_0.out) gb102 (Nat.le_of_eq hg.symm)) hb); have n3_ := Aside0.mk (Kd.V_below (Kd.V_elderB (by (with_reducible repeat (first | apply Kd.V_alloc | apply Kd.V_drewN | apply Kd.V_drew)); exact HL101_2.out) gb102 (Nat.le_of_eq hg.symm)) hb); have n4_ := Aside0.mk (Kd.C_below (by repeat (first | (with_reducible exact HR101_0.out) | (with_reducible refine Kd.C_alloc ?_ _) | (with_reducible refine Kd.C_drewN ?_ _) | (with_reducible refine Kd.C_drew ?_) | exact HR101_0.out)) hb); have n5_ := Aside0.mk (Kd.C_below (by repeat (first | (with_reducible exact HR101_2.out) | (with_reducible refine Kd.C_alloc ?_ _) | (with_reducible refine Kd.C_drewN ?_ _) | (with_reducible refine Kd.C_drew ?_) | exact HR101_2.out)) hb); have n6_ := Aside0.mk (below_step (by repeat (first | (with_reducible first | exact HB.out | apply below_alloc | apply pw_below_drewN | apply below_drew1) | exact HB.out)) hb); have n7_ := Aside0.mk (hbox); have n8_ := Aside0.mk ((by rw [hg]; exact (below_size (by repeat (first | (with_reducible first | exact HB.out | apply below_alloc | apply pw_below_drewN | apply below_drew1) | exact HB.out))) : w.heap.size ≤ gb102)); have n9_ := Aside0.mk ((by rw [hg]; exact (below_size (by repeat (first | (with_reducible first | exact HB.out | apply below_alloc | apply pw_below_drewN | apply below_drew1) | exact HB.out))) : w.heap.size ≤ gb102)); clear HO_3; clear HO_6; clear HL101_0; clear HL101_2; clear HR101_0; clear HR101_2; clear HB; have HO_3 := n0_; have HO_6 := n1_; have HL101_0 := n2_; have HL101_2 := n3_; have HR101_0 := n4_; have HR101_2 := n5_; have HB := n6_; have BK102 := n7_; have GW102 := n8_; have GE102 := n9_; clear n0_ n1_ n2_ n3_ n4_ n5_ n6_ n7_ n8_ n9_; clear hb hbox hg; have hcz8_0 : w7.cell? ⟨gb102, 0, none⟩ = some (.slice none 0 0) := (blk_cell BK102.out 0).trans rfl; have hcz8_1 : w7.cell? ⟨gb102, 1, none⟩ = some (.int .i64 0) := (blk_cell BK102.out 1).trans rfl; have hcz8_2 : w7.cell? ⟨gb102, 2, none⟩ = some (.slice none 0 0) := (blk_cell BK102.out 2).trans rfl; have hcz8_3 : w7.cell? ⟨gb102, 3, none⟩ = some (.int .i64 0) := (blk_cell BK102.out 3).trans rfl; have hfz8_0 := blk_frozen BK102.out 0; have hfz8_1 := blk_frozen BK102.out 1; have hfz8_2 := blk_frozen BK102.out 2; have hfz8_3 := blk_frozen BK102.out 3) | ((with_reducible refine gate_store (t := 29) (p := 5) rfl ?_); refine store_event (t := 29) (p := 5) (v := ?vo_w9) (w1 := ((((w7.setCell ⟨gb102, 0, none⟩ (.slice A101_0 ((rd_T29 l0 x8_1).f0).length c101_0)).setCell ⟨gb102, 1, none⟩ (.int .i64 ((rd_T29 l0 x8_1).f1.f0))).setCell ⟨gb102, 2, none⟩ (.slice A101_2 ((rd_T29 l0 x8_1).f1.f1).length c101_2)).setCell ⟨gb102, 3, none⟩ (.int .i64 ((rd_T29 l0 x8_1).f1.f2)))) ?hg ?ho ?hn ?hr ?_; (case ho => rfl); (case hg => rfl); (case hn => rfl); (case hr => first | (go_simp; done) | (go_simp; rfl)); intro w9 hw; have n0_ : Aside0 (Kd.N k27 27 w9 w.heap.size (fun k_ => (P0_ k_ ∨ w.heap.size ≤ k_) ∧ k_ ≠ gb102) u3 x3_1) := ⟨(by rw [hw]; exact (by (with_reducible repeat (first | apply Kd.N_alloc | apply Kd.N_drewN | apply Kd.N_drew)); exact Kd.N_mono (Kd.N_far (p := ⟨gb102, 3, none⟩) (Kd.N_far (p := ⟨gb102, 2, none⟩) (Kd.N_far (p := ⟨gb102, 1, none⟩) (Kd.N_far (p := ⟨gb102, 0, none⟩) (Kd.N_mono HO_3.out (fun k_ hk => (⟨hk, hk.2⟩ : _ ∧ k_ ≠ gb102))) (fun _ hk => hk.2) (.slice A101_0 ((rd_T29 l0 x8_1).f0).length c101_0)) (fun _ hk => hk.2) (.int .i64 ((rd_T29 l0 x8_1).f1.f0))) (fun _ hk => hk.2) (.slice A101_2 ((rd_T29 l0 x8_1).f1.f1).length c101_2)) (fun _ hk => hk.2) (.int .i64 ((rd_T29 l0 x8_1).f1.f2))) (fun _ hk => ⟨hk.1.1, hk.1.2⟩)))⟩; have n1_ : Aside0 (Kd.V k29 29 w9 w.heap.size (fun k_ => (P0_ k_ ∨ w.heap.size ≤ k_) ∧ some k_ ≠ (u3 : Value).ownBlock ∧ k_ ≠ gb102) (.slice (some ad101) l0.length c0) l0) := ⟨(by rw [hw]; exact (by (with_reducible repeat (first | apply Kd.V_alloc | apply Kd.V_drewN | apply Kd.V_drew)); exact Kd.V_mono (Kd.V_far (p := ⟨gb102, 3, none⟩) (Kd.V_far (p := ⟨gb102, 2, none⟩) (Kd.V_far (p := ⟨gb102, 1, none⟩) (Kd.V_far (p := ⟨gb102, 0, none⟩) (Kd.V_mono HO_6.out (fun k_ hk => (⟨hk, hk.2⟩ : _ ∧ k_ ≠ gb102))) (fun _ hk => hk.2) (.slice A101_0 ((rd_T29 l0 x8_1).f0).length c101_0)) (fun _ hk => hk.2) (.int .i64 ((rd_T29 l0 x8_1).f1.f0))) (fun _ hk => hk.2) (.slice A101_2 ((rd_T29 l0 x8_1).f1.f1).length c101_2)) (fun _ hk => hk.2) (.int .i64 ((rd_T29 l0 x8_1).f1.f2))) (fun _ hk => ⟨hk.1.1.1, ⟨hk.1.1.2, hk.1.2⟩⟩)))⟩; have n2_ : Aside0 (Kd.V (Kd.int .i64) 3 w9 w.heap.size (fun k_ => (P0_ k_ ∨ w.heap.size ≤ k_) ∧ some k_ ≠ (u3 : Value).ownBlock ∧ k_ ≠ gb102) (.slice A101_0 ((rd_T29 l0 x8_1).f0).length c101_0) ((rd_T29 l0 x8_1).f0)) := ⟨(by rw [hw]; exact (by (with_reducible repeat (first | apply Kd.V_alloc | apply Kd.V_drewN | apply Kd.V_drew)); exact Kd.V_mono (Kd.V_far (p := ⟨gb102, 3, none⟩) (Kd.V_far (p := ⟨gb102, 2, none⟩) (Kd.V_far (p := ⟨gb102, 1, none⟩) (Kd.V_far (p := ⟨gb102, 0, none⟩) (Kd.V_mono HL101_0.out (fun k_ hk => (⟨hk, hk.2⟩ : _ ∧ k_ ≠ gb102))) (fun _ hk => hk.2) (.slice A101_0 ((rd_T29 l0 x8_1).f0).length c101_0)) (fun _ hk => hk.2) (.int .i64 ((rd_T29 l0 x8_1).f1.f0))) (fun _ hk => hk.2) (.slice A101_2 ((rd_T29 l0 x8_1).f1.f1).length c101_2)) (fun _ hk => hk.2) (.int .i64 ((rd_T29 l0 x8_1).f1.f2))) (fun _ hk => ⟨hk.1.1.1, ⟨hk.1.1.2, hk.1.2⟩⟩)))⟩; have n3_ : Aside0 (Kd.V k47 47 w9 w.heap.size (fun k_ => (P0_ k_ ∨ w.heap.size ≤ k_) ∧ some k_ ≠ (u3 : Value).ownBlock ∧ k_ ≠ gb102) (.slice A101_2 ((rd_T29 l0 x8_1).f1.f1).length c101_2) ((rd_T29 l0 x8_1).f1.f1)) := ⟨(by rw [hw]; exact (by (with_reducible repeat (first | apply Kd.V_alloc | apply Kd.V_drewN | apply Kd.V_drew)); exact Kd.V_mono (Kd.V_far (p := ⟨gb102, 3, none⟩) (Kd.V_far (p := ⟨gb102, 2, none⟩) (Kd.V_far (p := ⟨gb102, 1, none⟩) (Kd.V_far (p := ⟨gb102, 0, none⟩) (Kd.V_mono HL101_2.out (fun k_ hk => (⟨hk, hk.2⟩ : _ ∧ k_ ≠ gb102))) (fun _ hk => hk.2) (.slice A101_0 ((rd_T29 l0 x8_1).f0).length c101_0)) (fun _ hk => hk.2) (.int .i64 ((rd_T29 l0 x8_1).f1.f0))) (fun _ hk => hk.2) (.slice A101_2 ((rd_T29 l0 x8_1).f1.f1).length c101_2)) (fun _ hk => hk.2) (.int .i64 ((rd_T29 l0 x8_1).f1.f2))) (fun _ hk => ⟨hk.1.1.1, ⟨hk.1.1.2, hk.1.2⟩⟩)))⟩; have n4_ : Aside0 (w9.heap[gb102]? = some (.cells #[.slice A101_0 ((rd_T29 l0 x8_1).f0).length c101_0, .int .i64 ((rd_T29 l0 x8_1).f1.f0), .slice A101_2 ((rd_T29 l0 x8_1).f1.f1).length c101_2, .int .i64 ((rd_T29 l0 x8_1).f1.f2)] 29 (0, 0))) := ⟨(by rw [hw]; exact (by (with_reducible repeat (first | refine blk_drewN ?_ _ | refine blk_drew ?_ | refine blk_alloc ?_ _)); refine blk_put (cs := #[.slice A101_0 ((rd_T29 l0 x8_1).f0).length c101_0, .int .i64 ((rd_T29 l0 x8_1).f1.f0), .slice A101_2 ((rd_T29 l0 x8_1).f1.f1).length c101_2, .int .i64 0]) ?_ 3 _ rfl; (with_reducible repeat (first | refine blk_drewN ?_ _ | refine blk_drew ?_ | refine blk_alloc ?_ _)); refine blk_put (cs := #[.slice A101_0 ((rd_T29 l0 x8_1).f0).length c101_0, .int .i64 ((rd_T29 l0 x8_1).f1.f0), .slice none 0 0, .int .i64 0]) ?_ 2 _ rfl; (with_reducible repeat (first | refine blk_drewN ?_ _ | refine blk_drew ?_ | refine blk_alloc ?_ _)); refine blk_put (cs := #[.slice A101_0 ((rd_T29 l0 x8_1).f0).length c101_0, .int .i64 0, .slice none 0 0, .int .i64 0]) ?_ 1 _ rfl; (with_reducible repeat (first | refine blk_drewN ?_ _ | refine blk_drew ?_ | refine blk_alloc ?_ _)); refine blk_put (cs := #[.slice none 0 0, .int .i64 0, .slice none 0 0, .int .i64 0]) ?_ 0 _ rfl; (with_reducible repeat (first | refine blk_drewN ?_ _ | refine blk_drew ?_ | refine blk_alloc ?_ _)); exact BK102.out))⟩; have n5_ : Aside0 (Below w.heap.size w w9) := ⟨(by rw [hw]; exact (by repeat (first | (with_reducible first | exact HB.out | apply below_alloc | apply pw_below_drewN | apply below_drew1 | refine below_set ?_ GE102.out) | exact HB.out)))⟩; clear hw; clear HO_3; clear HO_6; clear HL101_0; clear HL101_2; clear BK102; clear HB; have HO_3 := n0_; have HO_6 := n1_; have HL101_0 := n2_; have HL101_2 := n3_; have BK102 := n4_; have HB := n5_; clear n0_ n1_ n2_ n3_ n4_ n5_; have hcz10_0 : w9.cell? ⟨gb102, 0, none⟩ = some (.slice A101_0 ((rd_T29 l0 x8_1).f0).length c101_0) := (blk_cell BK102.out 0).trans rfl; have hcz10_1 : w9.cell? ⟨gb102, 1, none⟩ = some (.int .i64 ((rd_T29 l0 x8_1).f1.f0)) := (blk_cell BK102.out 1).trans rfl; have hcz10_2 : w9.cell? ⟨gb102, 2, none⟩ = some (.slice A101_2 ((rd_T29 l0 x8_1).f1.f1).length c101_2) := (blk_cell BK102.out 2).trans rfl; have hcz10_3 : w9.cell? ⟨gb102, 3, none⟩ = some (.int .i64 ((rd_T29 l0 x8_1).f1.f2)) := (blk_cell BK102.out 3).trans rfl; have hfz10_0 := blk_frozen BK102.out 0; have hfz10_1 := blk_frozen BK102.out 1; have hfz10_2 := blk_frozen BK102.out 2; have hfz10_3 := blk_frozen BK102.out 3) | ((with_reducible refine gate_builtin (b := .append) (xs := #[.tmp 12, .tmp 15]) rfl ?_); at_builtin; refine Kd.N_append k27 (w0 := w) w.heap.size rfl (.tmp 12) (.tmp 15) 42 27 (.agg #[(.int .i64 0), (.slice none 0 0), (.int .i64 0)]) 40 rfl Try.underlying42 info27 rfl (by decide) (by omega) u3 x3_1 (⟨(rd_T29 l0 x8_1).f1.f0, (rd_T29 l0 x8_1).f1.f1, (rd_T29 l0 x8_1).f1.f2⟩ : S27) [.int .i64 ((rd_T29 l0 x8_1).f1.f0), .slice A101_2 ((rd_T29 l0 x8_1).f1.f1).length c101_2, .int .i64 ((rd_T29 l0 x8_1).f1.f2)] (fun k_ => (P0_ k_ ∨ w.heap.size ≤ k_) ∧ k_ ≠ gb102) (fun k_ => ((fun k_ => (P0_ k_ ∨ w.heap.size ≤ k_) ∧ k_ ≠ gb102)) k_ ∧ some k_ ≠ (u3 : Value).ownBlock) rfl rfl ?aP (fun _ hk => hk) ?aF ?aO ?aB ?aS ?aL ?_; (case aP => exact (k27_mkF _ _ (⟨(rd_T29 l0 x8_1).f1.f0, (rd_T29 l0 x8_1).f1.f1, (rd_T29 l0 x8_1).f1.f2⟩ : S27) (Kd.V_reads' (Kd.V_mono (ok' := (fun k_ => ((fun k_ => (P0_ k_ ∨ w.heap.size ≤ k_) ∧ k_ ≠ gb102)) k_ ∧ some k_ ≠ (u3 : Value).ownBlock)) (HL101_2.out) (fun k_ hk => ⟨⟨hk.1, hk.2.2⟩, hk.2.1⟩))).2.1 (Kd.V_F (Kd.V_mono (ok' := (fun k_ => ((fun k_ => (P0_ k_ ∨ w.heap.size ≤ k_) ∧ k_ ≠ gb102)) k_ ∧ some k_ ≠ (u3 : Value).ownBlock)) (HL101_2.out) (fun k_ hk => ⟨⟨hk.1, hk.2.2⟩, hk.2.1⟩))))); (case aB => exact (by repeat (first | (with_reducible first | exact HB.out | apply below_alloc | apply pw_below_drewN | apply below_drew1 | refine below_set ?_ GE102.out) | exact HB.out))); (case aF => exact (fun k_ hk => ⟨(.inr (Nat.le_trans (below_size (by repeat (first | (with_reducible first | exact HB.out | apply below_alloc | apply pw_below_drewN | apply below_drew1 | refine below_set ?_ GE102.out) | exact HB.out))) hk)), Kd.freshB (g := gb102) (o := .cells #[.slice A101_0 ((rd_T29 l0 x8_1).f0).length c101_0, .int .i64 ((rd_T29 l0 x8_1).f1.f0), .slice A101_2 ((rd_T29 l0 x8_1).f1.f1).length c101_2, .int .i64 ((rd_T29 l0 x8_1).f1.f2)] 29 (0, 0)) (by (with_reducible repeat (first | refine blk_drewN ?_ _ | refine blk_drew ?_ | refine blk_alloc ?_ _)); exact BK102.out) k_ hk⟩)); (case aO => exact (by (with_reducible repeat (first | apply Kd.N_alloc | apply Kd.N_drewN | apply Kd.N_drew)); exact HO_3.out)); (case aS => exact (below_size (by repeat (first | (with_reducible first | exact HB.out | apply below_alloc | apply pw_below_drewN | apply below_drew1 | refine below_set ?_ GE102.out) | exact HB.out)))); (case aL => have := LMc5.out; omega); intro v104 w11 ho hb hg hat; rw [← Ny103.out] at ho; have n0_ := Aside0.mk (Kd.V_afterv (ok := (fun k_ => (P0_ k_ ∨ w.heap.size ≤ k_) ∧ k_ ≠ gb102)) (by (with_reducible repeat (first | apply Kd.V_alloc | apply Kd.V_drewN | apply Kd.V_drew)); exact Kd.V_mono HO_6.out (fun _ hk => ⟨⟨hk.1, hk.2.2⟩, hk.2.1⟩)) hg hat); have n1_ := Aside0.mk (Kd.V_afterv (ok := (fun k_ => (P0_ k_ ∨ w.heap.size ≤ k_) ∧ k_ ≠ gb102)) (by (with_reducible repeat (first | apply Kd.V_alloc | apply Kd.V_drewN | apply Kd.V_drew)); exact Kd.V_mono HL101_0.out (fun _ hk => ⟨⟨hk.1, hk.2.2⟩, hk.2.1⟩)) hg hat); have n2_ := Aside0.mk (Kd.V_afterv (ok := (fun k_ => (P0_ k_ ∨ w.heap.size ≤ k_) ∧ k_ ≠ gb102)) (by (with_reducible repeat (first | apply Kd.V_alloc | apply Kd.V_drewN | apply Kd.V_drew)); exact Kd.V_mono HL101_2.out (fun _ hk => ⟨⟨hk.1, hk.2.2⟩, hk.2.1⟩)) hg hat); have n3_ := Aside0.mk (blk_grown (g := gb102) (o := .cells #[.slice A101_0 ((rd_T29 l0 x8_1).f0).length c101_0, .int .i64 ((rd_T29 l0 x8_1).f1.f0), .slice A101_2 ((rd_T29 l0 x8_1).f1.f1).length c101_2, .int .i64 ((rd_T29 l0 x8_1).f1.f2)] 29 (0, 0)) (by (with_reducible repeat (first | refine blk_drewN ?_ _ | refine blk_drew ?_ | refine blk_alloc ?_ _)); exact BK102.out) hg (Kd.N_ne HO_3.out BK102.out (by decide))); have n4_ := Aside0.mk (hb); have n5_ := Aside0.mk (ho); clear HO_6; clear HL101_0; clear HL101_2; clear BK102; clear HB; clear HO_3; have HO_6 := n0_; have HL101_0 := n1_; have HL101_2 := n2_; have BK102 := n3_; have HB := n4_; have HO105 := n5_; clear n0_ n1_ n2_ n3_ n4_ n5_; clear ho hb hg hat; have hcz12_0 : w11.cell? ⟨gb102, 0, none⟩ = some (.slice A101_0 ((rd_T29 l0 x8_1).f0).length c101_0) := (blk_cell BK102.out 0).trans rfl; have hcz12_1 : w11.cell? ⟨gb102, 1, none⟩ = some (.int .i64 ((rd_T29 l0 x8_1).f1.f0)) := (blk_cell BK102.out 1).trans rfl; have hcz12_2 : w11.cell? ⟨gb102, 2, none⟩ = some (.slice A101_2 ((rd_T29 l0 x8_1).f1.f1).length c101_2) := (blk_cell BK102.out 2).trans rfl; have hcz12_3 : w11.cell? ⟨gb102, 3, none⟩ = some (.int .i64 ((rd_T29 l0 x8_1).f1.f2)) := (blk_cell BK102.out 3).trans rfl; have hfz12_0 := blk_frozen BK102.out 0; have hfz12_1 := blk_frozen BK102.out 1; have hfz12_2 := blk_frozen BK102.out 2; have hfz12_3 := blk_frozen BK102.out 3))
                go_ret
                exact ⟨_, by first | rfl | (simp [errW_none, errW_some] <;> rfl) | (simp [*, errW_none, errW_some] <;> rfl), by (with_reducible repeat (first | apply Kd.N_alloc | apply Kd.N_drewN | apply Kd.N_drew)); exact Kd.N_mono HO105.out (fun _ hk => hk.1), by repeat (first | (with_reducible first | exact HB.out | apply below_alloc | apply pw_below_drewN | apply below_drew1 | refine below_set ?_ GE102.out) | exact HB.out)⟩
              · rw [if_neg c6] at H
                have c6b0 : (((rd_T29 l0 x8_1).f1.f0) == 3) = false := beq_eq_false_iff_ne.mpr c6
                have c6b1 : (((rd_T29 l0 x8_1).f1.f0) != 3) = true := bne_iff_ne.mpr c6
                have H' := Aside0.mk H
                clear H
                have p101 : 0 ≤ (x8_1 : Int) := of_decide_eq_true (by first | (with_reducible assumption) | assumption)
                have q101 : x8_1 < (l0.length : Int) := of_decide_eq_true (by first | (with_reducible assumption) | assumption)
                obtain ⟨ad101, A101_0, c101_0, A101_2, c101_2, e101, hx101_0, hx101_1, hx101_2, hx101_3, hl101_0, hi101_0, hl101_2, hi101_2⟩ := at_T29 (Kd.V_reads' HO_6.out).2.2 x8_1 p101 q101
                cases e101
                obtain ⟨ce101, hce101, hMe101, hcc101⟩ := Kd.V_get HO_6.out z29 x8_1 p101 (by first | exact q101 | exact of_decide_eq_true (by first | (with_reducible assumption) | assumption) | (have e_ := (Kd.V_reads' HO_6.out).1; omega))
                obtain ⟨ua101_0, uc101_0, ua101_2, uc101_2, rfl, ul101_0, ge101_0, ul101_2, ge101_2⟩ := k29_openF hMe101
                have hv101_0 := hcc101 0 _ rfl
                rw [Nat.add_zero] at hv101_0
                replace hv101_0 := Option.some.inj (hv101_0.symm.trans hx101_0)
                injection hv101_0 with hva_ hvn_ hvc_
                rw [hva_] at ge101_0
                rw [hvc_] at ul101_0
                have HL101_0 := Aside0.mk (show Kd.V (Kd.int .i64) 3 _ w.heap.size _ _ ((rd_T29 l0 x8_1).f0) from Kd.V_mk ul101_0 ge101_0)
                clear hva_ hvn_ hvc_ ge101_0 ul101_0
                have hv101_2 := hcc101 2 _ rfl
                rw [add_field _ _ 2 (by omega)] at hv101_2
                replace hv101_2 := Option.some.inj (hv101_2.symm.trans hx101_2)
                injection hv101_2 with hva_ hvn_ hvc_
                rw [hva_] at ge101_2
                rw [hvc_] at ul101_2
                have HL101_2 := Aside0.mk (show Kd.V k47 47 _ w.heap.size _ _ ((rd_T29 l0 x8_1).f1.f1) from Kd.V_mk ul101_2 ge101_2)
                clear hva_ hvn_ hvc_ ge101_2 ul101_2
                clear hcc101 hce101
                have HR101_0 := Aside0.mk hi101_0
                have HC101_0 := Aside0.mk hl101_0
                clear hi101_0 hl101_0
                have HR101_2 := Aside0.mk hi101_2
                have HC101_2 := Aside0.mk hl101_2
                clear hi101_2 hl101_2
                replace p101 := eq_true p101
                replace q101 := eq_true q101
                go_wp2_with (first | ((with_reducible refine gate_dst (N := 5) rfl ?_); refine box_event ?hg (N := 5) ?hd (cs := #[.slice none 0 0, .int .i64 0, .slice none 0 0, .int .i64 0]) (t := 29) ?hr ?_; (case hd => rfl); (case hg => rfl); (case hr => first | (go_simp; done) | (go_simp; rfl)); intro gb102 hg w13 hbox hb; have n0_ := Aside0.mk (Kd.N_below (Kd.N_elderB (by (with_reducible repeat (first | apply Kd.N_alloc | apply Kd.N_drewN | apply Kd.N_drew)); exact HO_3.out) gb102 (Nat.le_of_eq hg.symm)) hb); have n1_ := Aside0.mk (Kd.V_below (Kd.V_elderB (by (with_reducible repeat (first | apply Kd.V_alloc | apply Kd.V_drewN | apply Kd.V_drew)); exact HO_6.out) gb102 (Nat.le_of_eq hg.symm)) hb); have n2_ := Aside0.mk (Kd.V_below (Kd.V_elderB (by (with_reducible repeat (first | apply Kd.V_alloc | apply Kd.V_drewN | apply Kd.V_drew)); exact HL101_0.out) gb102 (Nat.le_of_eq hg.symm)) hb); have n3_ := Aside0.mk (Kd.V_below (Kd.V_elderB (by (with_reducible repeat (first | apply Kd.V_alloc | apply Kd.V_drewN | apply Kd.V_drew)); exact HL101_2.out) gb102 (Nat.le_of_eq hg.symm)) hb); have n4_ := Aside0.mk (Kd.C_below (by repeat (first | (with_reducible exact HR101_0.out) | (with_reducible refine Kd.C_alloc ?_ _) | (with_reducible refine Kd.C_drewN ?_ _) | (with_reducible refine Kd.C_drew ?_) | exact HR101_0.out)) hb); have n5_ := Aside0.mk (Kd.C_below (by repeat (first | (with_reducible exact HR101_2.out) | (with_reducible refine Kd.C_alloc ?_ _) | (with_reducible refine Kd.C_drewN ?_ _) | (with_reducible refine Kd.C_drew ?_) | exact HR101_2.out)) hb); have n6_ := Aside0.mk (below_step (by repeat (first | (with_reducible first | exact HB.out | apply below_alloc | apply pw_below_drewN | apply below_drew1) | exact HB.out)) hb); have n7_ := Aside0.mk (hbox); have n8_ := Aside0.mk ((by rw [hg]; exact (below_size (by repeat (first | (with_reducible first | exact HB.out | apply below_alloc | apply pw_below_drewN | apply below_drew1) | exact HB.out))) : w.heap.size ≤ gb102)); have n9_ := Aside0.mk ((by rw [hg]; exact (below_size (by repeat (first | (with_reducible first | exact HB.out | apply below_alloc | apply pw_below_drewN | apply below_drew1) | exact HB.out))) : w.heap.size ≤ gb102)); clear HO_3; clear HO_6; clear HL101_0; clear HL101_2; clear HR101_0; clear HR101_2; clear HB; have HO_3 := n0_; have HO_6 := n1_; have HL101_0 := n2_; have HL101_2 := n3_; have HR101_0 := n4_; have HR101_2 := n5_; have HB := n6_; have BK102 := n7_; have GW102 := n8_; have GE102 := n9_; clear n0_ n1_ n2_ n3_ n4_ n5_ n6_ n7_ n8_ n9_; clear hb hbox hg; have hcz14_0 : w13.cell? ⟨gb102, 0, none⟩ = some (.slice none 0 0) := (blk_cell BK102.out 0).trans rfl; have hcz14_1 : w13.cell? ⟨gb102, 1, none⟩ = some (.int .i64 0) := (blk_cell BK102.out 1).trans rfl; have hcz14_2 : w13.cell? ⟨gb102, 2, none⟩ = some (.slice none 0 0) := (blk_cell BK102.out 2).trans rfl; have hcz14_3 : w13.cell? ⟨gb102, 3, none⟩ = some (.int .i64 0) := (blk_cell BK102.out 3).trans rfl; have hfz14_0 := blk_frozen BK102.out 0; have hfz14_1 := blk_frozen BK102.out 1; have hfz14_2 := blk_frozen BK102.out 2; have hfz14_3 := blk_frozen BK102.out 3) | ((with_reducible refine gate_store (t := 29) (p := 5) rfl ?_); refine store_event (t := 29) (p := 5) (v := ?vo_w15) (w1 := ((((w13.setCell ⟨gb102, 0, none⟩ (.slice A101_0 ((rd_T29 l0 x8_1).f0).length c101_0)).setCell ⟨gb102, 1, none⟩ (.int .i64 ((rd_T29 l0 x8_1).f1.f0))).setCell ⟨gb102, 2, none⟩ (.slice A101_2 ((rd_T29 l0 x8_1).f1.f1).length c101_2)).setCell ⟨gb102, 3, none⟩ (.int .i64 ((rd_T29 l0 x8_1).f1.f2)))) ?hg ?ho ?hn ?hr ?_; (case ho => rfl); (case hg => rfl); (case hn => rfl); (case hr => first | (go_simp; done) | (go_simp; rfl)); intro w15 hw; have n0_ : Aside0 (Kd.N k27 27 w15 w.heap.size (fun k_ => (P0_ k_ ∨ w.heap.size ≤ k_) ∧ k_ ≠ gb102) u3 x3_1) := ⟨(by rw [hw]; exact (by (with_reducible repeat (first | apply Kd.N_alloc | apply Kd.N_drewN | apply Kd.N_drew)); exact Kd.N_mono (Kd.N_far (p := ⟨gb102, 3, none⟩) (Kd.N_far (p := ⟨gb102, 2, none⟩) (Kd.N_far (p := ⟨gb102, 1, none⟩) (Kd.N_far (p := ⟨gb102, 0, none⟩) (Kd.N_mono HO_3.out (fun k_ hk => (⟨hk, hk.2⟩ : _ ∧ k_ ≠ gb102))) (fun _ hk => hk.2) (.slice A101_0 ((rd_T29 l0 x8_1).f0).length c101_0)) (fun _ hk => hk.2) (.int .i64 ((rd_T29 l0 x8_1).f1.f0))) (fun _ hk => hk.2) (.slice A101_2 ((rd_T29 l0 x8_1).f1.f1).length c101_2)) (fun _ hk => hk.2) (.int .i64 ((rd_T29 l0 x8_1).f1.f2))) (fun _ hk => ⟨hk.1.1, hk.1.2⟩)))⟩; have n1_ : Aside0 (Kd.V k29 29 w15 w.heap.size (fun k_ => (P0_ k_ ∨ w.heap.size ≤ k_) ∧ some k_ ≠ (u3 : Value).ownBlock ∧ k_ ≠ gb102) (.slice (some ad101) l0.length c0) l0) := ⟨(by rw [hw]; exact (by (with_reducible repeat (first | apply Kd.V_alloc | apply Kd.V_drewN | apply Kd.V_drew)); exact Kd.V_mono (Kd.V_far (p := ⟨gb102, 3, none⟩) (Kd.V_far (p := ⟨gb102, 2, none⟩) (Kd.V_far (p := ⟨gb102, 1, none⟩) (Kd.V_far (p := ⟨gb102, 0, none⟩) (Kd.V_mono HO_6.out (fun k_ hk => (⟨hk, hk.2⟩ : _ ∧ k_ ≠ gb102))) (fun _ hk => hk.2) (.slice A101_0 ((rd_T29 l0 x8_1).f0).length c101_0)) (fun _ hk => hk.2) (.int .i64 ((rd_T29 l0 x8_1).f1.f0))) (fun _ hk => hk.2) (.slice A101_2 ((rd_T29 l0 x8_1).f1.f1).length c101_2)) (fun _ hk => hk.2) (.int .i64 ((rd_T29 l0 x8_1).f1.f2))) (fun _ hk => ⟨hk.1.1.1, ⟨hk.1.1.2, hk.1.2⟩⟩)))⟩; have n2_ : Aside0 (Kd.V (Kd.int .i64) 3 w15 w.heap.size (fun k_ => (P0_ k_ ∨ w.heap.size ≤ k_) ∧ some k_ ≠ (u3 : Value).ownBlock ∧ k_ ≠ gb102) (.slice A101_0 ((rd_T29 l0 x8_1).f0).length c101_0) ((rd_T29 l0 x8_1).f0)) := ⟨(by rw [hw]; exact (by (with_reducible repeat (first | apply Kd.V_alloc | apply Kd.V_drewN | apply Kd.V_drew)); exact Kd.V_mono (Kd.V_far (p := ⟨gb102, 3, none⟩) (Kd.V_far (p := ⟨gb102, 2, none⟩) (Kd.V_far (p := ⟨gb102, 1, none⟩) (Kd.V_far (p := ⟨gb102, 0, none⟩) (Kd.V_mono HL101_0.out (fun k_ hk => (⟨hk, hk.2⟩ : _ ∧ k_ ≠ gb102))) (fun _ hk => hk.2) (.slice A101_0 ((rd_T29 l0 x8_1).f0).length c101_0)) (fun _ hk => hk.2) (.int .i64 ((rd_T29 l0 x8_1).f1.f0))) (fun _ hk => hk.2) (.slice A101_2 ((rd_T29 l0 x8_1).f1.f1).length c101_2)) (fun _ hk => hk.2) (.int .i64 ((rd_T29 l0 x8_1).f1.f2))) (fun _ hk => ⟨hk.1.1.1, ⟨hk.1.1.2, hk.1.2⟩⟩)))⟩; have n3_ : Aside0 (Kd.V k47 47 w15 w.heap.size (fun k_ => (P0_ k_ ∨ w.heap.size ≤ k_) ∧ some k_ ≠ (u3 : Value).ownBlock ∧ k_ ≠ gb102) (.slice A101_2 ((rd_T29 l0 x8_1).f1.f1).length c101_2) ((rd_T29 l0 x8_1).f1.f1)) := ⟨(by rw [hw]; exact (by (with_reducible repeat (first | apply Kd.V_alloc | apply Kd.V_drewN | apply Kd.V_drew)); exact Kd.V_mono (Kd.V_far (p := ⟨gb102, 3, none⟩) (Kd.V_far (p := ⟨gb102, 2, none⟩) (Kd.V_far (p := ⟨gb102, 1, none⟩) (Kd.V_far (p := ⟨gb102, 0, none⟩) (Kd.V_mono HL101_2.out (fun k_ hk => (⟨hk, hk.2⟩ : _ ∧ k_ ≠ gb102))) (fun _ hk => hk.2) (.slice A101_0 ((rd_T29 l0 x8_1).f0).length c101_0)) (fun _ hk => hk.2) (.int .i64 ((rd_T29 l0 x8_1).f1.f0))) (fun _ hk => hk.2) (.slice A101_2 ((rd_T29 l0 x8_1).f1.f1).length c101_2)) (fun _ hk => hk.2) (.int .i64 ((rd_T29 l0 x8_1).f1.f2))) (fun _ hk => ⟨hk.1.1.1, ⟨hk.1.1.2, hk.1.2⟩⟩)))⟩; have n4_ : Aside0 (w15.heap[gb102]? = some (.cells #[.slice A101_0 ((rd_T29 l0 x8_1).f0).length c101_0, .int .i64 ((rd_T29 l0 x8_1).f1.f0), .slice A101_2 ((rd_T29 l0 x8_1).f1.f1).length c101_2, .int .i64 ((rd_T29 l0 x8_1).f1.f2)] 29 (0, 0))) := ⟨(by rw [hw]; exact (by (with_reducible repeat (first | refine blk_drewN ?_ _ | refine blk_drew ?_ | refine blk_alloc ?_ _)); refine blk_put (cs := #[.slice A101_0 ((rd_T29 l0 x8_1).f0).length c101_0, .int .i64 ((rd_T29 l0 x8_1).f1.f0), .slice A101_2 ((rd_T29 l0 x8_1).f1.f1).length c101_2, .int .i64 0]) ?_ 3 _ rfl; (with_reducible repeat (first | refine blk_drewN ?_ _ | refine blk_drew ?_ | refine blk_alloc ?_ _)); refine blk_put (cs := #[.slice A101_0 ((rd_T29 l0 x8_1).f0).length c101_0, .int .i64 ((rd_T29 l0 x8_1).f1.f0), .slice none 0 0, .int .i64 0]) ?_ 2 _ rfl; (with_reducible repeat (first | refine blk_drewN ?_ _ | refine blk_drew ?_ | refine blk_alloc ?_ _)); refine blk_put (cs := #[.slice A101_0 ((rd_T29 l0 x8_1).f0).length c101_0, .int .i64 0, .slice none 0 0, .int .i64 0]) ?_ 1 _ rfl; (with_reducible repeat (first | refine blk_drewN ?_ _ | refine blk_drew ?_ | refine blk_alloc ?_ _)); refine blk_put (cs := #[.slice none 0 0, .int .i64 0, .slice none 0 0, .int .i64 0]) ?_ 0 _ rfl; (with_reducible repeat (first | refine blk_drewN ?_ _ | refine blk_drew ?_ | refine blk_alloc ?_ _)); exact BK102.out))⟩; have n5_ : Aside0 (Below w.heap.size w w15) := ⟨(by rw [hw]; exact (by repeat (first | (with_reducible first | exact HB.out | apply below_alloc | apply pw_below_drewN | apply below_drew1 | refine below_set ?_ GE102.out) | exact HB.out)))⟩; clear hw; clear HO_3; clear HO_6; clear HL101_0; clear HL101_2; clear BK102; clear HB; have HO_3 := n0_; have HO_6 := n1_; have HL101_0 := n2_; have HL101_2 := n3_; have BK102 := n4_; have HB := n5_; clear n0_ n1_ n2_ n3_ n4_ n5_; have hcz16_0 : w15.cell? ⟨gb102, 0, none⟩ = some (.slice A101_0 ((rd_T29 l0 x8_1).f0).length c101_0) := (blk_cell BK102.out 0).trans rfl; have hcz16_1 : w15.cell? ⟨gb102, 1, none⟩ = some (.int .i64 ((rd_T29 l0 x8_1).f1.f0)) := (blk_cell BK102.out 1).trans rfl; have hcz16_2 : w15.cell? ⟨gb102, 2, none⟩ = some (.slice A101_2 ((rd_T29 l0 x8_1).f1.f1).length c101_2) := (blk_cell BK102.out 2).trans rfl; have hcz16_3 : w15.cell? ⟨gb102, 3, none⟩ = some (.int .i64 ((rd_T29 l0 x8_1).f1.f2)) := (blk_cell BK102.out 3).trans rfl; have hfz16_0 := blk_frozen BK102.out 0; have hfz16_1 := blk_frozen BK102.out 1; have hfz16_2 := blk_frozen BK102.out 2; have hfz16_3 := blk_frozen BK102.out 3) | ((with_reducible refine gate_builtin (b := .append) (xs := #[.tmp 12, .tmp 15]) rfl ?_); at_builtin; refine Kd.N_append k27 (w0 := w) w.heap.size rfl (.tmp 12) (.tmp 15) 42 27 (.agg #[(.int .i64 0), (.slice none 0 0), (.int .i64 0)]) 40 rfl Try.underlying42 info27 rfl (by decide) (by omega) u3 x3_1 (⟨(rd_T29 l0 x8_1).f1.f0, (rd_T29 l0 x8_1).f1.f1, (rd_T29 l0 x8_1).f1.f2⟩ : S27) [.int .i64 ((rd_T29 l0 x8_1).f1.f0), .slice A101_2 ((rd_T29 l0 x8_1).f1.f1).length c101_2, .int .i64 ((rd_T29 l0 x8_1).f1.f2)] (fun k_ => (P0_ k_ ∨ w.heap.size ≤ k_) ∧ k_ ≠ gb102) (fun k_ => ((fun k_ => (P0_ k_ ∨ w.heap.size ≤ k_) ∧ k_ ≠ gb102)) k_ ∧ some k_ ≠ (u3 : Value).ownBlock) rfl rfl ?aP (fun _ hk => hk) ?aF ?aO ?aB ?aS ?aL ?_; (case aP => exact (k27_mkF _ _ (⟨(rd_T29 l0 x8_1).f1.f0, (rd_T29 l0 x8_1).f1.f1, (rd_T29 l0 x8_1).f1.f2⟩ : S27) (Kd.V_reads' (Kd.V_mono (ok' := (fun k_ => ((fun k_ => (P0_ k_ ∨ w.heap.size ≤ k_) ∧ k_ ≠ gb102)) k_ ∧ some k_ ≠ (u3 : Value).ownBlock)) (HL101_2.out) (fun k_ hk => ⟨⟨hk.1, hk.2.2⟩, hk.2.1⟩))).2.1 (Kd.V_F (Kd.V_mono (ok' := (fun k_ => ((fun k_ => (P0_ k_ ∨ w.heap.size ≤ k_) ∧ k_ ≠ gb102)) k_ ∧ some k_ ≠ (u3 : Value).ownBlock)) (HL101_2.out) (fun k_ hk => ⟨⟨hk.1, hk.2.2⟩, hk.2.1⟩))))); (case aB => exact (by repeat (first | (with_reducible first | exact HB.out | apply below_alloc | apply pw_below_drewN | apply below_drew1 | refine below_set ?_ GE102.out) | exact HB.out))); (case aF => exact (fun k_ hk => ⟨(.inr (Nat.le_trans (below_size (by repeat (first | (with_reducible first | exact HB.out | apply below_alloc | apply pw_below_drewN | apply below_drew1 | refine below_set ?_ GE102.out) | exact HB.out))) hk)), Kd.freshB (g := gb102) (o := .cells #[.slice A101_0 ((rd_T29 l0 x8_1).f0).length c101_0, .int .i64 ((rd_T29 l0 x8_1).f1.f0), .slice A101_2 ((rd_T29 l0 x8_1).f1.f1).length c101_2, .int .i64 ((rd_T29 l0 x8_1).f1.f2)] 29 (0, 0)) (by (with_reducible repeat (first | refine blk_drewN ?_ _ | refine blk_drew ?_ | refine blk_alloc ?_ _)); exact BK102.out) k_ hk⟩)); (case aO => exact (by (with_reducible repeat (first | apply Kd.N_alloc | apply Kd.N_drewN | apply Kd.N_drew)); exact HO_3.out)); (case aS => exact (below_size (by repeat (first | (with_reducible first | exact HB.out | apply below_alloc | apply pw_below_drewN | apply below_drew1 | refine below_set ?_ GE102.out) | exact HB.out)))); (case aL => have := LMc5.out; omega); intro v104 w17 ho hb hg hat; rw [← Ny103.out] at ho; have n0_ := Aside0.mk (Kd.V_afterv (ok := (fun k_ => (P0_ k_ ∨ w.heap.size ≤ k_) ∧ k_ ≠ gb102)) (by (with_reducible repeat (first | apply Kd.V_alloc | apply Kd.V_drewN | apply Kd.V_drew)); exact Kd.V_mono HO_6.out (fun _ hk => ⟨⟨hk.1, hk.2.2⟩, hk.2.1⟩)) hg hat); have n1_ := Aside0.mk (Kd.V_afterv (ok := (fun k_ => (P0_ k_ ∨ w.heap.size ≤ k_) ∧ k_ ≠ gb102)) (by (with_reducible repeat (first | apply Kd.V_alloc | apply Kd.V_drewN | apply Kd.V_drew)); exact Kd.V_mono HL101_0.out (fun _ hk => ⟨⟨hk.1, hk.2.2⟩, hk.2.1⟩)) hg hat); have n2_ := Aside0.mk (Kd.V_afterv (ok := (fun k_ => (P0_ k_ ∨ w.heap.size ≤ k_) ∧ k_ ≠ gb102)) (by (with_reducible repeat (first | apply Kd.V_alloc | apply Kd.V_drewN | apply Kd.V_drew)); exact Kd.V_mono HL101_2.out (fun _ hk => ⟨⟨hk.1, hk.2.2⟩, hk.2.1⟩)) hg hat); have n3_ := Aside0.mk (blk_grown (g := gb102) (o := .cells #[.slice A101_0 ((rd_T29 l0 x8_1).f0).length c101_0, .int .i64 ((rd_T29 l0 x8_1).f1.f0), .slice A101_2 ((rd_T29 l0 x8_1).f1.f1).length c101_2, .int .i64 ((rd_T29 l0 x8_1).f1.f2)] 29 (0, 0)) (by (with_reducible repeat (first | refine blk_drewN ?_ _ | refine blk_drew ?_ | refine blk_alloc ?_ _)); exact BK102.out) hg (Kd.N_ne HO_3.out BK102.out (by decide))); have n4_ := Aside0.mk (hb); have n5_ := Aside0.mk (ho); clear HO_6; clear HL101_0; clear HL101_2; clear BK102; clear HB; clear HO_3; have HO_6 := n0_; have HL101_0 := n1_; have HL101_2 := n2_; have BK102 := n3_; have HB := n4_; have HO105 := n5_; clear n0_ n1_ n2_ n3_ n4_ n5_; clear ho hb hg hat; have hcz18_0 : w17.cell? ⟨gb102, 0, none⟩ = some (.slice A101_0 ((rd_T29 l0 x8_1).f0).length c101_0) := (blk_cell BK102.out 0).trans rfl; have hcz18_1 : w17.cell? ⟨gb102, 1, none⟩ = some (.int .i64 ((rd_T29 l0 x8_1).f1.f0)) := (blk_cell BK102.out 1).trans rfl; have hcz18_2 : w17.cell? ⟨gb102, 2, none⟩ = some (.slice A101_2 ((rd_T29 l0 x8_1).f1.f1).length c101_2) := (blk_cell BK102.out 2).trans rfl; have hcz18_3 : w17.cell? ⟨gb102, 3, none⟩ = some (.int .i64 ((rd_T29 l0 x8_1).f1.f2)) := (blk_cell BK102.out 3).trans rfl; have hfz18_0 := blk_frozen BK102.out 0; have hfz18_1 := blk_frozen BK102.out 1; have hfz18_2 := blk_frozen BK102.out 2; have hfz18_3 := blk_frozen BK102.out 3))
                go_roundg k1
                case measure => have := HK1.out; omega
                case rel => exact ⟨(y103), (wrap64 (x8_1 + 1)), (by first | rfl | (simp; done) | (simp [*]; done)), H', ⟨by have := HK1.out; omega⟩, ⟨by (with_reducible repeat (first | apply Kd.N_alloc | apply Kd.N_drewN | apply Kd.N_drew)); exact Kd.N_mono HO105.out (fun _ hk => hk.1)⟩, ⟨by (with_reducible repeat (first | apply Kd.V_alloc | apply Kd.V_drewN | apply Kd.V_drew)); exact Kd.V_mono HO_6.out (fun _ hk => ⟨hk.1.1, hk.2⟩)⟩, ⟨by repeat (first | (with_reducible first | exact HB.out | apply below_alloc | apply pw_below_drewN | apply below_drew1 | refine below_set ?_ GE102.out) | exact HB.out)⟩⟩
            · rw [if_neg c5] at H
              exact absurd H (by simp)
          · rw [if_neg c4] at H
            exact absurd H (by simp)
        · rw [if_neg c3] at H
          exact absurd H (by simp)
      · rw [if_neg c2] at H
        have c2b0 : decide (x8_1 < (l0.length : Int)) = false := decide_eq_false c2
        clear c2
        obtain rfl := Option.some.inj H
        go_wp2
        go_ret
        exact ⟨_, by first | rfl | (simp [errW_none, errW_some] <;> rfl) | (simp [*, errW_none, errW_some] <;> rfl), by (with_reducible repeat (first | apply Kd.N_alloc | apply Kd.N_drewN | apply Kd.N_drew)); exact HO_3.out, by repeat (first | (with_reducible first | exact HB.out | apply below_alloc | apply pw_below_drewN | apply below_drew1) | exact HB.out)⟩

end Go.Proofs.Ytlapiebnmbbemaa.A
end
