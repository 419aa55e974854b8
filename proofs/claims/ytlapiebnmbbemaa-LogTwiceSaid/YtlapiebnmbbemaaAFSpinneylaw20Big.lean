-- Written by my drive.py over the kit's print program. Not trusted: Lean checks it.
import Derived.Test.YtlapiebnmbbemaaAKinds
namespace Go.Proofs.Ytlapiebnmbbemaa.A
open Go.RowKit Go.Proofs.YtlapiebnmbbemaaW.PrintWords Go.Proofs.YtlapiebnmbbemaaW.PrintLast Go.Proofs.YtlapiebnmbbemaaW.PrintMore
attribute [local go_sem] max2_int min2_int max_two min_two max_three min_three max_four min_four   -- for this text's walks alone
set_option linter.unusedVariables false
set_option linter.unusedSimpArgs false

/-! ### spinneylaw20_big: function 8 -/
mutual
def spinneylaw20_big.j0 : Nat → List (S29) → List (List Int) → Bool → Option (Bool)
  | 0, _, _, _ => none
  | k + 1, x0, x1, x16 => if x16 = true then (some true) else (spinneylaw20_big.l0 k x1 x0 (x0.length : Int) 0)
def spinneylaw20_big.l0 : Nat → List (List Int) → List (S29) → Int → Int → Option (Bool)
  | 0, _, _, _, _ => none
  | k + 1, x1, x17, x18, x19 => if x19 < x18 then (if 0 ≤ x19 then (if x19 < (x17.length : Int) then (if (((rd_T29 x17 x19).f0).length : Int) > 100 then (some true) else (if (((rd_T29 x17 x19).f1.f1).length : Int) > 0 then (some true) else (spinneylaw20_big.l0 k x1 x17 x18 (wrap64 (x19 + 1))))) else (none)) else (none)) else (spinneylaw20_big.l1 k x1 (x1.length : Int) 0)
def spinneylaw20_big.l1 : Nat → List (List Int) → Int → Int → Option (Bool)
  | 0, _, _, _ => none
  | k + 1, x35, x36, x37 => if x37 < x36 then (if 0 ≤ x37 then (if x37 < (x35.length : Int) then (if ((rd_L3 x35 x37).length : Int) > 100 then (some true) else (spinneylaw20_big.l1 k x35 x36 (wrap64 (x37 + 1)))) else (none)) else (none)) else (some false)
end
def spinneylaw20_big.f (k : Nat) (l0 : List (S29)) (l1 : List (List Int)) : Option (Bool) := if (l0.length : Int) > 200 then (spinneylaw20_big.j0 k l0 l1 true) else (spinneylaw20_big.j0 k l0 l1 (decide ((l1.length : Int) > 200)))
theorem spinneylaw20_big.mono_l : ∀ k, (∀ y0 y1 y2, LeO (spinneylaw20_big.j0 k y0 y1 y2) (spinneylaw20_big.j0 (k + 1) y0 y1 y2)) ∧ (∀ y0 y1 y2 y3, LeO (spinneylaw20_big.l0 k y0 y1 y2 y3) (spinneylaw20_big.l0 (k + 1) y0 y1 y2 y3)) ∧ (∀ y0 y1 y2, LeO (spinneylaw20_big.l1 k y0 y1 y2) (spinneylaw20_big.l1 (k + 1) y0 y1 y2))
  | 0 => ⟨fun _ _ _ r h => by simp [spinneylaw20_big.j0] at h, fun _ _ _ _ r h => by simp [spinneylaw20_big.l0] at h, fun _ _ _ r h => by simp [spinneylaw20_big.l1] at h⟩
  | k + 1 => by
    obtain ⟨ih0, ih1, ih2⟩ := spinneylaw20_big.mono_l k
    refine ⟨?_, ?_, ?_⟩
    · intro y0 y1 y2
      unfold spinneylaw20_big.j0
      repeat' first
      | (with_reducible exact ih0 _ _ _)
      | (with_reducible exact ih1 _ _ _ _)
      | (with_reducible exact ih2 _ _ _)
      | (with_reducible exact LeO.refl _)
      | (with_reducible exact LeO.none _)
      | (with_reducible refine LeO.ite ?_ ?_)
      | (with_reducible refine LeO.bind ?_ (fun _ => ?_))
      | exact ih0 _ _ _
      | exact ih1 _ _ _ _
      | exact ih2 _ _ _
      | exact LeO.none _
      | refine LeO.ite ?_ ?_
      | refine LeO.bind ?_ (fun _ => ?_)
    · intro y0 y1 y2 y3
      unfold spinneylaw20_big.l0
      repeat' first
      | (with_reducible exact ih0 _ _ _)
      | (with_reducible exact ih1 _ _ _ _)
      | (with_reducible exact ih2 _ _ _)
      | (with_reducible exact LeO.refl _)
      | (with_reducible exact LeO.none _)
      | (with_reducible refine LeO.ite ?_ ?_)
      | (with_reducible refine LeO.bind ?_ (fun _ => ?_))
      | exact ih0 _ _ _
      | exact ih1 _ _ _ _
      | exact ih2 _ _ _
      | exact LeO.none _
      | refine LeO.ite ?_ ?_
      | refine LeO.bind ?_ (fun _ => ?_)
    · intro y0 y1 y2
      unfold spinneylaw20_big.l1
      repeat' first
      | (with_reducible exact ih0 _ _ _)
      | (with_reducible exact ih1 _ _ _ _)
      | (with_reducible exact ih2 _ _ _)
      | (with_reducible exact LeO.refl _)
      | (with_reducible exact LeO.none _)
      | (with_reducible refine LeO.ite ?_ ?_)
      | (with_reducible refine LeO.bind ?_ (fun _ => ?_))
      | exact ih0 _ _ _
      | exact ih1 _ _ _ _
      | exact ih2 _ _ _
      | exact LeO.none _
      | refine LeO.ite ?_ ?_
      | refine LeO.bind ?_ (fun _ => ?_)
theorem spinneylaw20_big.mono : ∀ a0 a1 k, LeO (spinneylaw20_big.f k a0 a1) (spinneylaw20_big.f (k + 1) a0 a1) := by
  intro a0 a1 k
  obtain ⟨ih0, ih1, ih2⟩ := spinneylaw20_big.mono_l k
  unfold spinneylaw20_big.f
  repeat' first
      | (with_reducible exact ih0 _ _ _)
      | (with_reducible exact ih1 _ _ _ _)
      | (with_reducible exact ih2 _ _ _)
      | (with_reducible exact LeO.refl _)
      | (with_reducible exact LeO.none _)
      | (with_reducible refine LeO.ite ?_ ?_)
      | (with_reducible refine LeO.bind ?_ (fun _ => ?_))
      | exact ih0 _ _ _
      | exact ih1 _ _ _ _
      | exact ih2 _ _ _
      | exact LeO.none _
      | refine LeO.ite ?_ ?_
      | refine LeO.bind ?_ (fun _ => ?_)
set_option maxHeartbeats 8000000 in
set_option maxRecDepth 100000 in
theorem spinneylaw20_big.calls (k : Nat) (A0 : Option Addr) (c0 : Nat) (l0 : List (S29)) (A1 : Option Addr) (c1 : Nat) (l1 : List (List Int)) (r : Bool) (w : World) (hr0 : Kd.C k29 w A0 l0.length l0) (hc0 : l0.length ≤ c0) (hr1 : Kd.C (Kd.slice 3 (Kd.int .i64)) w A1 l1.length l1) (hc1 : l1.length ≤ c1) (h : spinneylaw20_big.f k l0 l1 = some r) :
    Calls Try.prog 8 #[.slice A0 l0.length c0, .slice A1 l1.length c1] w fun e w' => e = .returned (.bool r) ∧ Below w.heap.size w w' := by
  have hu29 := Try.underlying29
  have HR0 := Aside0.mk hr0
  have HC0 := Aside0.mk hc0
  clear hr0 hc0
  have HR1 := Aside0.mk hr1
  have HC1 := Aside0.mk hc1
  clear hr1 hc1
  have HB := Aside0.mk (Below.refl w.heap.size w)
  have H : (if (l0.length : Int) > 200 then (spinneylaw20_big.j0 k l0 l1 true) else (spinneylaw20_big.j0 k l0 l1 (decide ((l1.length : Int) > 200)))) = some r := h
  clear h
  have HC3 := Aside0.mk H
  clear H
  go_enter Try.func8, Try.ntmps8
  go_upto_region 1 with (fail)
  go_cut [16] (fun v16 wc => ∃ (kq : Nat) (x16_2 : Bool), v16 = .bool x16_2 ∧ Aside0 (spinneylaw20_big.j0 kq l0 l1 x16_2 = some r) ∧ Aside0 (kq ≤ k) ∧ Aside0 (Below w.heap.size w wc))
  case first =>
    have H := HC3.out
    clear HC3
    by_cases c4 : (l0.length : Int) > 200
    · rw [if_pos c4] at H
      have c4b0 : decide (200 < (l0.length : Int)) = true := decide_eq_true c4
      have c4b1 : decide (200 < l0.length) = true := decide_eq_true (by omega)
      clear c4
      (first | rw [c4b0] | (simp only [i64_w, i32_w]; rw [c4b0]) | skip)
      have H' := Aside0.mk H
      clear H
      go_wp2
      go_meet
      case rel => exact ⟨_, (true), (by first | rfl | (simp; done) | (simp [*]; done)), H', ⟨by first | omega | exact Nat.le_refl _⟩, ⟨by repeat (first | (with_reducible first | exact HB.out | apply below_alloc | apply pw_below_drewN | apply below_drew1) | exact HB.out)⟩⟩
    · rw [if_neg c4] at H
      have c4b0 : decide (200 < (l0.length : Int)) = false := decide_eq_false c4
      have c4b1 : decide (200 < l0.length) = false := decide_eq_false (by omega)
      clear c4
      (first | rw [c4b0] | (simp only [i64_w, i32_w]; rw [c4b0]) | skip)
      have H' := Aside0.mk H
      clear H
      go_wp2
      go_meet
      case rel => exact ⟨_, (decide ((l1.length : Int) > 200)), (by first | rfl | (simp; done) | (simp [*]; done)), H', ⟨by first | omega | exact Nat.le_refl _⟩, ⟨by repeat (first | (with_reducible first | exact HB.out | apply below_alloc | apply pw_below_drewN | apply below_drew1) | exact HB.out)⟩⟩
  case rest =>
    clear HC3
    try clear c1
    try clear p2
    try clear c4
    try clear c4b0
    try clear c4b1
    obtain ⟨kq, x16_2, rfl, HA, HJ2, HB⟩ := hcut
    cases kq with
    | zero => exact absurd HA.out (by simp [spinneylaw20_big.j0])
    | succ kj2 =>
      have H := HA.out
      clear HA
      simp only [spinneylaw20_big.j0] at H
      by_cases c5 : x16_2 = true
      · subst c5
        have H1 : (some true) = some r := by rw [if_pos rfl] at H; exact H
        clear H
        have H := H1
        clear H1
        obtain rfl := Option.some.inj H
        go_wp2
        go_ret
        exact ⟨by first | rfl | (simp [errW_none, errW_some] <;> rfl) | (simp [*, errW_none, errW_some] <;> rfl), by repeat (first | (with_reducible first | exact HB.out | apply below_alloc | apply pw_below_drewN | apply below_drew1) | exact HB.out)⟩
      · replace c5 := Bool.eq_false_iff.mpr c5
        subst c5
        have H1 : (spinneylaw20_big.l0 kj2 l1 l0 (l0.length : Int) 0) = some r := by rw [if_neg (show ¬ (false = true) by decide)] at H; exact H
        clear H
        have H := H1
        clear H1
        have H' := Aside0.mk H
        clear H
        go_wp2
        go_loopg [19] kj2 (fun kq v19 w' => ∃ (x19_2 : Int), v19 = .int .i64 x19_2 ∧ Aside0 (spinneylaw20_big.l0 kq l1 l0 (l0.length : Int) x19_2 = some r) ∧ Aside0 (kq ≤ kj2) ∧ Aside0 (Below w.heap.size w w'))
        case atStart => exact ⟨(0), (by first | rfl | (simp; done) | (simp [*]; done)), H', ⟨Nat.le_refl _⟩, ⟨by repeat (first | (with_reducible first | exact HB.out | apply below_alloc | apply pw_below_drewN | apply below_drew1) | exact HB.out)⟩⟩
        case round =>
          clear H'
          try clear c1
          try clear p2
          try clear c4
          try clear c4b0
          try clear c4b1
          try clear c5
          try clear p2
          obtain ⟨x19_2, rfl, HA, HK2, HB⟩ := hrel
          cases gk with
          | zero => exact absurd HA.out (by simp [spinneylaw20_big.l0])
          | succ k2 =>
            have H := HA.out
            clear HA
            simp only [spinneylaw20_big.l0] at H
            by_cases c6 : x19_2 < (l0.length : Int)
            · rw [if_pos c6] at H
              have c6b0 : decide (x19_2 < (l0.length : Int)) = true := decide_eq_true c6
              clear c6
              by_cases c7 : 0 ≤ x19_2
              · rw [if_pos c7] at H
                have c7b0 : decide (0 ≤ x19_2) = true := decide_eq_true c7
                clear c7
                by_cases c8 : x19_2 < (l0.length : Int)
                · rw [if_pos c8] at H
                  have c8b0 : decide (x19_2 < (l0.length : Int)) = true := decide_eq_true c8
                  clear c8
                  by_cases c9 : (((rd_T29 l0 x19_2).f0).length : Int) > 100
                  · rw [if_pos c9] at H
                    have c9b0 : decide (100 < (((rd_T29 l0 x19_2).f0).length : Int)) = true := decide_eq_true c9
                    have c9b1 : decide (100 < ((rd_T29 l0 x19_2).f0).length) = true := decide_eq_true (by omega)
                    clear c9
                    obtain rfl := Option.some.inj H
                    have p143 : 0 ≤ (x19_2 : Int) := of_decide_eq_true (by first | (with_reducible assumption) | assumption)
                    have q143 : x19_2 < (l0.length : Int) := of_decide_eq_true (by first | (with_reducible assumption) | assumption)
                    obtain ⟨ad143, A143_0, c143_0, A143_2, c143_2, e143, hx143_0, hx143_1, hx143_2, hx143_3, hl143_0, hi143_0, hl143_2, hi143_2⟩ := at_T29 HR0.out x19_2 p143 q143
                    cases e143
                    replace hx143_0 := (HB.out.cell (World.block_lt_of_cell? w _ hx143_0)).trans hx143_0
                    replace hx143_1 := (HB.out.cell (World.block_lt_of_cell? w _ hx143_1)).trans hx143_1
                    replace hx143_2 := (HB.out.cell (World.block_lt_of_cell? w _ hx143_2)).trans hx143_2
                    replace hx143_3 := (HB.out.cell (World.block_lt_of_cell? w _ hx143_3)).trans hx143_3
                    have HR143_0 := Aside0.mk hi143_0
                    have HC143_0 := Aside0.mk hl143_0
                    clear hi143_0 hl143_0
                    have HR143_2 := Aside0.mk hi143_2
                    have HC143_2 := Aside0.mk hl143_2
                    clear hi143_2 hl143_2
                    replace p143 := eq_true p143
                    replace q143 := eq_true q143
                    go_wp2_with (first | ((with_reducible refine gate_dst (N := 6) rfl ?_); (try (refine gate_guard (by rfl) ?_; dsimp only)); refine box_event ?hg (N := 6) ?hd (cs := #[.slice none 0 0, .int .i64 0, .slice none 0 0, .int .i64 0]) (t := 29) ?hr ?_; (case hd => rfl); (case hg => rfl); (case hr => first | (go_simp; done) | (go_simp; rfl)); intro gb144 hg w10 hbox hb; have n0_ := Aside0.mk (below_step (by repeat (first | (with_reducible first | exact HB.out | apply below_alloc | apply pw_below_drewN | apply below_drew1) | exact HB.out)) hb); have n1_ := Aside0.mk (hbox); have n2_ := Aside0.mk ((by rw [hg]; exact (below_size (by repeat (first | (with_reducible first | exact HB.out | apply below_alloc | apply pw_below_drewN | apply below_drew1) | exact HB.out))) : w.heap.size ≤ gb144)); have n3_ := Aside0.mk ((by rw [hg]; exact (below_size (by repeat (first | (with_reducible first | exact HB.out | apply below_alloc | apply pw_below_drewN | apply below_drew1) | exact HB.out))) : w.heap.size ≤ gb144)); clear HB; have HB := n0_; have BK144 := n1_; have GW144 := n2_; have GE144 := n3_; clear n0_ n1_ n2_ n3_; clear hb hbox hg; have hcz11_0 : w10.cell? ⟨gb144, 0, none⟩ = some (.slice none 0 0) := (blk_cell BK144.out 0).trans rfl; have hcz11_1 : w10.cell? ⟨gb144, 1, none⟩ = some (.int .i64 0) := (blk_cell BK144.out 1).trans rfl; have hcz11_2 : w10.cell? ⟨gb144, 2, none⟩ = some (.slice none 0 0) := (blk_cell BK144.out 2).trans rfl; have hcz11_3 : w10.cell? ⟨gb144, 3, none⟩ = some (.int .i64 0) := (blk_cell BK144.out 3).trans rfl; have hfz11_0 := blk_frozen BK144.out 0; have hfz11_1 := blk_frozen BK144.out 1; have hfz11_2 := blk_frozen BK144.out 2; have hfz11_3 := blk_frozen BK144.out 3))
                    go_ret
                    exact ⟨by first | rfl | (simp [errW_none, errW_some] <;> rfl) | (simp [*, errW_none, errW_some] <;> rfl), by repeat (first | (with_reducible first | exact HB.out | apply below_alloc | apply pw_below_drewN | apply below_drew1 | refine below_set ?_ GE144.out) | exact HB.out)⟩
                  · rw [if_neg c9] at H
                    have c9b0 : decide (100 < (((rd_T29 l0 x19_2).f0).length : Int)) = false := decide_eq_false c9
                    have c9b1 : decide (100 < ((rd_T29 l0 x19_2).f0).length) = false := decide_eq_false (by omega)
                    clear c9
                    by_cases c12 : (((rd_T29 l0 x19_2).f1.f1).length : Int) > 0
                    · rw [if_pos c12] at H
                      have c12b0 : decide (0 < (((rd_T29 l0 x19_2).f1.f1).length : Int)) = true := decide_eq_true c12
                      have c12b1 : decide (0 < ((rd_T29 l0 x19_2).f1.f1).length) = true := decide_eq_true (by omega)
                      clear c12
                      obtain rfl := Option.some.inj H
                      have p143 : 0 ≤ (x19_2 : Int) := of_decide_eq_true (by first | (with_reducible assumption) | assumption)
                      have q143 : x19_2 < (l0.length : Int) := of_decide_eq_true (by first | (with_reducible assumption) | assumption)
                      obtain ⟨ad143, A143_0, c143_0, A143_2, c143_2, e143, hx143_0, hx143_1, hx143_2, hx143_3, hl143_0, hi143_0, hl143_2, hi143_2⟩ := at_T29 HR0.out x19_2 p143 q143
                      cases e143
                      replace hx143_0 := (HB.out.cell (World.block_lt_of_cell? w _ hx143_0)).trans hx143_0
                      replace hx143_1 := (HB.out.cell (World.block_lt_of_cell? w _ hx143_1)).trans hx143_1
                      replace hx143_2 := (HB.out.cell (World.block_lt_of_cell? w _ hx143_2)).trans hx143_2
                      replace hx143_3 := (HB.out.cell (World.block_lt_of_cell? w _ hx143_3)).trans hx143_3
                      have HR143_0 := Aside0.mk hi143_0
                      have HC143_0 := Aside0.mk hl143_0
                      clear hi143_0 hl143_0
                      have HR143_2 := Aside0.mk hi143_2
                      have HC143_2 := Aside0.mk hl143_2
                      clear hi143_2 hl143_2
                      replace p143 := eq_true p143
                      replace q143 := eq_true q143
                      go_wp2_with (first | ((with_reducible refine gate_dst (N := 6) rfl ?_); (try (refine gate_guard (by rfl) ?_; dsimp only)); refine box_event ?hg (N := 6) ?hd (cs := #[.slice none 0 0, .int .i64 0, .slice none 0 0, .int .i64 0]) (t := 29) ?hr ?_; (case hd => rfl); (case hg => rfl); (case hr => first | (go_simp; done) | (go_simp; rfl)); intro gb144 hg w13 hbox hb; have n0_ := Aside0.mk (below_step (by repeat (first | (with_reducible first | exact HB.out | apply below_alloc | apply pw_below_drewN | apply below_drew1) | exact HB.out)) hb); have n1_ := Aside0.mk (hbox); have n2_ := Aside0.mk ((by rw [hg]; exact (below_size (by repeat (first | (with_reducible first | exact HB.out | apply below_alloc | apply pw_below_drewN | apply below_drew1) | exact HB.out))) : w.heap.size ≤ gb144)); have n3_ := Aside0.mk ((by rw [hg]; exact (below_size (by repeat (first | (with_reducible first | exact HB.out | apply below_alloc | apply pw_below_drewN | apply below_drew1) | exact HB.out))) : w.heap.size ≤ gb144)); clear HB; have HB := n0_; have BK144 := n1_; have GW144 := n2_; have GE144 := n3_; clear n0_ n1_ n2_ n3_; clear hb hbox hg; have hcz14_0 : w13.cell? ⟨gb144, 0, none⟩ = some (.slice none 0 0) := (blk_cell BK144.out 0).trans rfl; have hcz14_1 : w13.cell? ⟨gb144, 1, none⟩ = some (.int .i64 0) := (blk_cell BK144.out 1).trans rfl; have hcz14_2 : w13.cell? ⟨gb144, 2, none⟩ = some (.slice none 0 0) := (blk_cell BK144.out 2).trans rfl; have hcz14_3 : w13.cell? ⟨gb144, 3, none⟩ = some (.int .i64 0) := (blk_cell BK144.out 3).trans rfl; have hfz14_0 := blk_frozen BK144.out 0; have hfz14_1 := blk_frozen BK144.out 1; have hfz14_2 := blk_frozen BK144.out 2; have hfz14_3 := blk_frozen BK144.out 3))
                      go_ret
                      exact ⟨by first | rfl | (simp [errW_none, errW_some] <;> rfl) | (simp [*, errW_none, errW_some] <;> rfl), by repeat (first | (with_reducible first | exact HB.out | apply below_alloc | apply pw_below_drewN | apply below_drew1 | refine below_set ?_ GE144.out) | exact HB.out)⟩
                    · rw [if_neg c12] at H
                      have c12b0 : decide (0 < (((rd_T29 l0 x19_2).f1.f1).length : Int)) = false := decide_eq_false c12
                      have c12b1 : decide (0 < ((rd_T29 l0 x19_2).f1.f1).length) = false := decide_eq_false (by omega)
                      clear c12
                      have H' := Aside0.mk H
                      clear H
                      have p143 : 0 ≤ (x19_2 : Int) := of_decide_eq_true (by first | (with_reducible assumption) | assumption)
                      have q143 : x19_2 < (l0.length : Int) := of_decide_eq_true (by first | (with_reducible assumption) | assumption)
                      obtain ⟨ad143, A143_0, c143_0, A143_2, c143_2, e143, hx143_0, hx143_1, hx143_2, hx143_3, hl143_0, hi143_0, hl143_2, hi143_2⟩ := at_T29 HR0.out x19_2 p143 q143
                      cases e143
                      replace hx143_0 := (HB.out.cell (World.block_lt_of_cell? w _ hx143_0)).trans hx143_0
                      replace hx143_1 := (HB.out.cell (World.block_lt_of_cell? w _ hx143_1)).trans hx143_1
                      replace hx143_2 := (HB.out.cell (World.block_lt_of_cell? w _ hx143_2)).trans hx143_2
                      replace hx143_3 := (HB.out.cell (World.block_lt_of_cell? w _ hx143_3)).trans hx143_3
                      have HR143_0 := Aside0.mk hi143_0
                      have HC143_0 := Aside0.mk hl143_0
                      clear hi143_0 hl143_0
                      have HR143_2 := Aside0.mk hi143_2
                      have HC143_2 := Aside0.mk hl143_2
                      clear hi143_2 hl143_2
                      replace p143 := eq_true p143
                      replace q143 := eq_true q143
                      go_wp2_with (first | ((with_reducible refine gate_dst (N := 6) rfl ?_); (try (refine gate_guard (by rfl) ?_; dsimp only)); refine box_event ?hg (N := 6) ?hd (cs := #[.slice none 0 0, .int .i64 0, .slice none 0 0, .int .i64 0]) (t := 29) ?hr ?_; (case hd => rfl); (case hg => rfl); (case hr => first | (go_simp; done) | (go_simp; rfl)); intro gb144 hg w15 hbox hb; have n0_ := Aside0.mk (below_step (by repeat (first | (with_reducible first | exact HB.out | apply below_alloc | apply pw_below_drewN | apply below_drew1) | exact HB.out)) hb); have n1_ := Aside0.mk (hbox); have n2_ := Aside0.mk ((by rw [hg]; exact (below_size (by repeat (first | (with_reducible first | exact HB.out | apply below_alloc | apply pw_below_drewN | apply below_drew1) | exact HB.out))) : w.heap.size ≤ gb144)); have n3_ := Aside0.mk ((by rw [hg]; exact (below_size (by repeat (first | (with_reducible first | exact HB.out | apply below_alloc | apply pw_below_drewN | apply below_drew1) | exact HB.out))) : w.heap.size ≤ gb144)); clear HB; have HB := n0_; have BK144 := n1_; have GW144 := n2_; have GE144 := n3_; clear n0_ n1_ n2_ n3_; clear hb hbox hg; have hcz16_0 : w15.cell? ⟨gb144, 0, none⟩ = some (.slice none 0 0) := (blk_cell BK144.out 0).trans rfl; have hcz16_1 : w15.cell? ⟨gb144, 1, none⟩ = some (.int .i64 0) := (blk_cell BK144.out 1).trans rfl; have hcz16_2 : w15.cell? ⟨gb144, 2, none⟩ = some (.slice none 0 0) := (blk_cell BK144.out 2).trans rfl; have hcz16_3 : w15.cell? ⟨gb144, 3, none⟩ = some (.int .i64 0) := (blk_cell BK144.out 3).trans rfl; have hfz16_0 := blk_frozen BK144.out 0; have hfz16_1 := blk_frozen BK144.out 1; have hfz16_2 := blk_frozen BK144.out 2; have hfz16_3 := blk_frozen BK144.out 3))
                      go_roundg k2
                      case measure => have := HJ2.out; have := HK2.out; omega
                      case rel => exact ⟨(wrap64 (x19_2 + 1)), (by first | rfl | (simp; done) | (simp [*]; done)), H', ⟨by have := HJ2.out; have := HK2.out; omega⟩, ⟨by repeat (first | (with_reducible first | exact HB.out | apply below_alloc | apply pw_below_drewN | apply below_drew1 | refine below_set ?_ GE144.out) | exact HB.out)⟩⟩
                · rw [if_neg c8] at H
                  exact absurd H (by simp)
              · rw [if_neg c7] at H
                exact absurd H (by simp)
            · rw [if_neg c6] at H
              have c6b0 : decide (x19_2 < (l0.length : Int)) = false := decide_eq_false c6
              clear c6
              have H' := Aside0.mk H
              clear H
              go_wp2
              go_loopg [37] k2 (fun kq v37 w' => ∃ (x37_3 : Int), v37 = .int .i64 x37_3 ∧ Aside0 (spinneylaw20_big.l1 kq l1 (l1.length : Int) x37_3 = some r) ∧ Aside0 (kq ≤ k2) ∧ Aside0 (Below w.heap.size w w'))
              case atStart => exact ⟨(0), (by first | rfl | (simp; done) | (simp [*]; done)), H', ⟨Nat.le_refl _⟩, ⟨by repeat (first | (with_reducible first | exact HB.out | apply below_alloc | apply pw_below_drewN | apply below_drew1) | exact HB.out)⟩⟩
              case round =>
                clear H'
                try clear c1
                try clear p1
                try clear q1
                try clear hx1
                try clear p2
                try clear c4
                try clear c4b0
                try clear c4b1
                try clear c5
                try clear c6
                try clear c6b0
                try clear p6
                try clear c7
                try clear c7b0
                try clear c8
                try clear c8b0
                try clear c9
                try clear c9b0
                try clear c9b1
                try clear c12
                try clear c12b0
                try clear c12b1
                try clear c14
                try clear p14
                try clear q14
                try clear hx14
                try clear hcz11_0
                try clear hcz11_1
                try clear hcz11_2
                try clear hcz11_3
                try clear hcz14_0
                try clear hcz14_1
                try clear hcz14_2
                try clear hcz14_3
                try clear hcz16_0
                try clear hcz16_1
                try clear hcz16_2
                try clear hcz16_3
                try clear hfz11_0
                try clear hfz11_1
                try clear hfz11_2
                try clear hfz11_3
                try clear hfz14_0
                try clear hfz14_1
                try clear hfz14_2
                try clear hfz14_3
                try clear hfz16_0
                try clear hfz16_1
                try clear hfz16_2
                try clear hfz16_3
                try clear hx143_0
                try clear hx143_1
                try clear hx143_2
                try clear hx143_3
                try clear p143
                try clear p2
                try clear q143
                obtain ⟨x37_3, rfl, HA, HK3, HB⟩ := hrel
                cases gk with
                | zero => exact absurd HA.out (by simp [spinneylaw20_big.l1])
                | succ k3 =>
                  have H := HA.out
                  clear HA
                  simp only [spinneylaw20_big.l1] at H
                  by_cases c17 : x37_3 < (l1.length : Int)
                  · rw [if_pos c17] at H
                    have c17b0 : decide (x37_3 < (l1.length : Int)) = true := decide_eq_true c17
                    clear c17
                    by_cases c18 : 0 ≤ x37_3
                    · rw [if_pos c18] at H
                      have c18b0 : decide (0 ≤ x37_3) = true := decide_eq_true c18
                      clear c18
                      by_cases c19 : x37_3 < (l1.length : Int)
                      · rw [if_pos c19] at H
                        have c19b0 : decide (x37_3 < (l1.length : Int)) = true := decide_eq_true c19
                        clear c19
                        by_cases c20 : ((rd_L3 l1 x37_3).length : Int) > 100
                        · rw [if_pos c20] at H
                          have c20b0 : decide (100 < ((rd_L3 l1 x37_3).length : Int)) = true := decide_eq_true c20
                          have c20b1 : decide (100 < (rd_L3 l1 x37_3).length) = true := decide_eq_true (by omega)
                          clear c20
                          obtain rfl := Option.some.inj H
                          have p145 : 0 ≤ (x37_3 : Int) := of_decide_eq_true (by first | (with_reducible assumption) | assumption)
                          have q145 : x37_3 < (l1.length : Int) := of_decide_eq_true (by first | (with_reducible assumption) | assumption)
                          obtain ⟨ad145, A145_0, c145_0, e145, hx145_0, hl145_0, hi145_0⟩ := at_L3 HR1.out x37_3 p145 q145
                          cases e145
                          replace hx145_0 := (HB.out.cell (World.block_lt_of_cell? w _ hx145_0)).trans hx145_0
                          have HR145_0 := Aside0.mk hi145_0
                          have HC145_0 := Aside0.mk hl145_0
                          clear hi145_0 hl145_0
                          replace p145 := eq_true p145
                          replace q145 := eq_true q145
                          go_wp2
                          go_ret
                          exact ⟨by first | rfl | (simp [errW_none, errW_some] <;> rfl) | (simp [*, errW_none, errW_some] <;> rfl), by repeat (first | (with_reducible first | exact HB.out | apply below_alloc | apply pw_below_drewN | apply below_drew1) | exact HB.out)⟩
                        · rw [if_neg c20] at H
                          have c20b0 : decide (100 < ((rd_L3 l1 x37_3).length : Int)) = false := decide_eq_false c20
                          have c20b1 : decide (100 < (rd_L3 l1 x37_3).length) = false := decide_eq_false (by omega)
                          clear c20
                          have H' := Aside0.mk H
                          clear H
                          have p145 : 0 ≤ (x37_3 : Int) := of_decide_eq_true (by first | (with_reducible assumption) | assumption)
                          have q145 : x37_3 < (l1.length : Int) := of_decide_eq_true (by first | (with_reducible assumption) | assumption)
                          obtain ⟨ad145, A145_0, c145_0, e145, hx145_0, hl145_0, hi145_0⟩ := at_L3 HR1.out x37_3 p145 q145
                          cases e145
                          replace hx145_0 := (HB.out.cell (World.block_lt_of_cell? w _ hx145_0)).trans hx145_0
                          have HR145_0 := Aside0.mk hi145_0
                          have HC145_0 := Aside0.mk hl145_0
                          clear hi145_0 hl145_0
                          replace p145 := eq_true p145
                          replace q145 := eq_true q145
                          go_wp2
                          go_roundg k3
                          case measure => have := HJ2.out; have := HK2.out; have := HK3.out; omega
                          case rel => exact ⟨(wrap64 (x37_3 + 1)), (by first | rfl | (simp; done) | (simp [*]; done)), H', ⟨by have := HJ2.out; have := HK2.out; have := HK3.out; omega⟩, ⟨by repeat (first | (with_reducible first | exact HB.out | apply below_alloc | apply pw_below_drewN | apply below_drew1) | exact HB.out)⟩⟩
                      · rw [if_neg c19] at H
                        exact absurd H (by simp)
                    · rw [if_neg c18] at H
                      exact absurd H (by simp)
                  · rw [if_neg c17] at H
                    have c17b0 : decide (x37_3 < (l1.length : Int)) = false := decide_eq_false c17
                    clear c17
                    obtain rfl := Option.some.inj H
                    go_wp2
                    go_ret
                    exact ⟨by first | rfl | (simp [errW_none, errW_some] <;> rfl) | (simp [*, errW_none, errW_some] <;> rfl), by repeat (first | (with_reducible first | exact HB.out | apply below_alloc | apply pw_below_drewN | apply below_drew1) | exact HB.out)⟩

end Go.Proofs.Ytlapiebnmbbemaa.A
