/- Parts of the proof of LogDropsSaid: what the functions that it reaches come to. -/
import Derived.Test.YtlapiebnmbbemaaCLogDrops0
import Derived.Test.YtlapiebnmbbemaaCLogDrops1
import Derived.Outline
import Derived.Deep.DeepMust
import Derived.WalkSpells
import Derived.Lib.AppendZeros
import Derived.Lib.SliceRun
import Derived.Lib.Overlaps
import Derived.Deep.RegionWith
import Derived.Deep.DeepCutAuto
import Derived.Deep.CutBlock
import Derived.Deep.RegionLaw
import Derived.Lib.Walk
section
-- Written by my drive.py over the kit's print program. Not trusted: Lean checks it.
namespace Go.Proofs.Ytlapiebnmbbemaa.A
open Go.RowKit Go.Proofs.YtlapiebnmbbemaaW.PrintWords Go.Proofs.YtlapiebnmbbemaaW.PrintLast Go.Proofs.YtlapiebnmbbemaaW.PrintMore
attribute [local go_sem] max2_int min2_int max_two min_two max_three min_three max_four min_four   -- for this text's walks alone
set_option linter.unusedVariables false
set_option linter.unusedSimpArgs false

/-! ### spinneyref20_Same: function 11 -/
def spinneyref20_Same.l0 : Nat → List (S29) → List (S29) → Int → Int → Option (Bool)
  | 0, _, _, _, _ => none
  | k + 1, x0, x1, x12, x13 => if x13 < x12 then (if 0 ≤ x13 then (if x13 < (x0.length : Int) then (if x13 < (x1.length : Int) then ((spinneyref19_CompareW.f ((rd_T29 x0 x13).f0) ((rd_T29 x1 x13).f0)).bind fun t103 => (if t103 = 0 then ((spinneyref14_SameEvent.f ((rd_T29 x0 x13).f1.f0) ((rd_T29 x0 x13).f1.f1) ((rd_T29 x0 x13).f1.f2) ((rd_T29 x1 x13).f1.f0) ((rd_T29 x1 x13).f1.f1) ((rd_T29 x1 x13).f1.f2)).bind fun t106 => (if t106 = true then (spinneyref20_Same.l0 k x0 x1 x12 (wrap64 (x13 + 1))) else (some false))) else (some false))) else (none)) else (none)) else (none)) else (some true)
def spinneyref20_Same.f (k : Nat) (l0 : List (S29)) (l1 : List (S29)) : Option (Bool) := if (l0.length : Int) = (l1.length : Int) then (spinneyref20_Same.l0 k l0 l1 (l0.length : Int) 0) else (some false)
theorem spinneyref20_Same.mono_l : ∀ k, (∀ y0 y1 y2 y3, LeO (spinneyref20_Same.l0 k y0 y1 y2 y3) (spinneyref20_Same.l0 (k + 1) y0 y1 y2 y3))
  | 0 => fun _ _ _ _ r h => by simp [spinneyref20_Same.l0] at h
  | k + 1 => by
    have ih0 := spinneyref20_Same.mono_l k
    · intro y0 y1 y2 y3
      unfold spinneyref20_Same.l0
      repeat' first
      | (with_reducible exact ih0 _ _ _ _)
      | (with_reducible exact LeO.refl _)
      | (with_reducible exact LeO.none _)
      | (with_reducible refine LeO.ite ?_ ?_)
      | (with_reducible refine LeO.bind ?_ (fun _ => ?_))
      | exact ih0 _ _ _ _
      | exact LeO.none _
      | refine LeO.ite ?_ ?_
      | refine LeO.bind ?_ (fun _ => ?_)
theorem spinneyref20_Same.mono : ∀ a0 a1 k, LeO (spinneyref20_Same.f k a0 a1) (spinneyref20_Same.f (k + 1) a0 a1) := by
  intro a0 a1 k
  have ih0 := spinneyref20_Same.mono_l k
  unfold spinneyref20_Same.f
  repeat' first
      | (with_reducible exact ih0 _ _ _ _)
      | (with_reducible exact LeO.refl _)
      | (with_reducible exact LeO.none _)
      | (with_reducible refine LeO.ite ?_ ?_)
      | (with_reducible refine LeO.bind ?_ (fun _ => ?_))
      | exact ih0 _ _ _ _
      | exact LeO.none _
      | refine LeO.ite ?_ ?_
      | refine LeO.bind ?_ (fun _ => ?_)
def spinneyref20_Same.T6 : Bool × List (List Nat × List Nat) := (true, [([], []), ([], []), ([0, 1], [0, 1]), ([2], [2]), ([3], [3]), ([], []), ([], []), ([5, 6], [5, 6]), ([7], [7]), ([8], [8]), ([4, 9], [4, 9]), ([10], [10]), ([11, 10], [11]), ([12], [12]), ([12], [12]), ([13, 14, 12], [12, 13, 14]), ([15, 12], [12, 15]), ([16, 12], [12, 16]), ([12], [12]), ([12], [12]), ([18, 19, 12], [12, 18, 19]), ([20, 12], [12, 20]), ([21, 12], [12, 21]), ([17, 22, 12, 12], [12, 17, 22]), ([23, 12], [12, 23]), ([12, 24], [12, 24])])
def spinneyref20_Same.B6 : List Nat := [0, 0, 3, 7, 15, 0, 0, 96, 224, 480, 1023, 2047, 4095, 8191, 8191, 32767, 65535, 131071, 8191, 8191, 794623, 1843199, 3940351, 8388607, 16777215, 33554431]
theorem spinneyref20_Same.tab6 : rtab .any (opsOf Try.f11 6) = spinneyref20_Same.T6 := by kernel_rfl
theorem spinneyref20_Same.bits6 : waitsOk spinneyref20_Same.T6.2 spinneyref20_Same.B6 = true := by kernel_rfl
set_option maxHeartbeats 8000000 in
set_option maxRecDepth 100000 in
theorem spinneyref20_Same.calls (k : Nat) (A0 : Option Addr) (c0 : Nat) (l0 : List (S29)) (A1 : Option Addr) (c1 : Nat) (l1 : List (S29)) (r : Bool) (w : World) (hr0 : Kd.C k29 w A0 l0.length l0) (hc0 : l0.length ≤ c0) (hr1 : Kd.C k29 w A1 l1.length l1) (hc1 : l1.length ≤ c1) (h : spinneyref20_Same.f k l0 l1 = some r) :
    Calls Try.prog 11 #[.slice A0 l0.length c0, .slice A1 l1.length c1] w fun e w' => e = .returned (.bool r) ∧ Below w.heap.size w w' := by
  have hu27 := Try.underlying27
  have HR0 := Aside0.mk hr0
  have HC0 := Aside0.mk hc0
  clear hr0 hc0
  have HR1 := Aside0.mk hr1
  have HC1 := Aside0.mk hc1
  clear hr1 hc1
  have HB := Aside0.mk (Below.refl w.heap.size w)
  have H : (if (l0.length : Int) = (l1.length : Int) then (spinneyref20_Same.l0 k l0 l1 (l0.length : Int) 0) else (some false)) = some r := h
  clear h
  by_cases c3 : (l0.length : Int) = (l1.length : Int)
  · rw [if_pos c3] at H
    have c3b0 : ((l0.length : Int) == (l1.length : Int)) = true := beq_iff_eq.mpr c3
    have c3b1 : ((l0.length : Int) != (l1.length : Int)) = false := bne_eq_false_iff_eq.mpr c3
    have c3b2 : (l0.length == l1.length) = true := by first | simpa using c3 | (simp at c3 ⊢; omega)
    clear c3
    have H' := Aside0.mk H
    clear H
    go_enter Try.func11, Try.ntmps11
    go_wp2
    go_loopg [13] k (fun kq v13 w' => ∃ (x13_1 : Int), v13 = .int .i64 x13_1 ∧ Aside0 (spinneyref20_Same.l0 kq l0 l1 (l0.length : Int) x13_1 = some r) ∧ Aside0 (kq ≤ k) ∧ Aside0 (Below w.heap.size w w'))
    case atStart => exact ⟨(0), (by first | rfl | (simp; done) | (simp [*]; done)), H', ⟨Nat.le_refl _⟩, ⟨by repeat (first | (with_reducible first | exact HB.out | apply below_alloc | apply pw_below_drewN | apply below_drew1) | exact HB.out)⟩⟩
    case round =>
      clear H'
      try clear c1
      try clear p2
      try clear c3
      try clear c3b0
      try clear c3b1
      try clear c3b2
      obtain ⟨x13_1, rfl, HA, HK1, HB⟩ := hrel
      cases gk with
      | zero => exact absurd HA.out (by simp [spinneyref20_Same.l0])
      | succ k1 =>
        have H := HA.out
        clear HA
        simp only [spinneyref20_Same.l0] at H
        by_cases c4 : x13_1 < (l0.length : Int)
        · rw [if_pos c4] at H
          have c4b0 : decide (x13_1 < (l0.length : Int)) = true := decide_eq_true c4
          clear c4
          by_cases c5 : 0 ≤ x13_1
          · rw [if_pos c5] at H
            have c5b0 : decide (0 ≤ x13_1) = true := decide_eq_true c5
            clear c5
            by_cases c6 : x13_1 < (l0.length : Int)
            · rw [if_pos c6] at H
              have c6b0 : decide (x13_1 < (l0.length : Int)) = true := decide_eq_true c6
              clear c6
              by_cases c7 : x13_1 < (l1.length : Int)
              · rw [if_pos c7] at H
                have c7b0 : decide (x13_1 < (l1.length : Int)) = true := decide_eq_true c7
                clear c7
                replace H := Option.bind_eq_some_iff.mp H
                obtain ⟨t103, A80, H⟩ := H
                replace H : (if t103 = 0 then ((spinneyref14_SameEvent.f ((rd_T29 l0 x13_1).f1.f0) ((rd_T29 l0 x13_1).f1.f1) ((rd_T29 l0 x13_1).f1.f2) ((rd_T29 l1 x13_1).f1.f0) ((rd_T29 l1 x13_1).f1.f1) ((rd_T29 l1 x13_1).f1.f2)).bind fun t106 => (if t106 = true then (spinneyref20_Same.l0 k1 l0 l1 (l0.length : Int) (wrap64 (x13_1 + 1))) else (some false))) else (some false)) = some r := H
                have A8 := Aside0.mk A80
                clear A80
                by_cases c9 : t103 = 0
                · rw [if_pos c9] at H
                  have c9b0 : (t103 == 0) = true := beq_iff_eq.mpr c9
                  have c9b1 : (t103 != 0) = false := bne_eq_false_iff_eq.mpr c9
                  clear c9
                  replace H := Option.bind_eq_some_iff.mp H
                  obtain ⟨t106, A100, H⟩ := H
                  replace H : (if t106 = true then (spinneyref20_Same.l0 k1 l0 l1 (l0.length : Int) (wrap64 (x13_1 + 1))) else (some false)) = some r := H
                  have A10 := Aside0.mk A100
                  clear A100
                  by_cases c11 : t106 = true
                  · subst c11
                    have H1 : (spinneyref20_Same.l0 k1 l0 l1 (l0.length : Int) (wrap64 (x13_1 + 1))) = some r := by rw [if_pos rfl] at H; exact H
                    clear H
                    have H := H1
                    clear H1
                    have H' := Aside0.mk H
                    clear H
                    try go_wp2
                    have n0_ := Aside0.mk (below_drew1 HB.out)
                    clear HB
                    have HB := n0_
                    clear n0_
                    have p101 : 0 ≤ (x13_1 : Int) := of_decide_eq_true (by first | (with_reducible assumption) | assumption)
                    have q101 : x13_1 < (l0.length : Int) := of_decide_eq_true (by first | (with_reducible assumption) | assumption)
                    obtain ⟨ad101, A101_0, c101_0, A101_2, c101_2, e101, hx101_0, hx101_1, hx101_2, hx101_3, hl101_0, hi101_0, hl101_2, hi101_2⟩ := at_T29 HR0.out x13_1 p101 q101
                    have hw101_3 := hx101_3
                    have hw101_2 := hx101_2
                    have hw101_1 := hx101_1
                    have hw101_0 := hx101_0
                    cases e101
                    replace hx101_0 := (HB.out.cell (World.block_lt_of_cell? w _ hx101_0)).trans hx101_0
                    replace hx101_1 := (HB.out.cell (World.block_lt_of_cell? w _ hx101_1)).trans hx101_1
                    replace hx101_2 := (HB.out.cell (World.block_lt_of_cell? w _ hx101_2)).trans hx101_2
                    replace hx101_3 := (HB.out.cell (World.block_lt_of_cell? w _ hx101_3)).trans hx101_3
                    have HR101_0 := Aside0.mk hi101_0
                    have HC101_0 := Aside0.mk hl101_0
                    clear hi101_0 hl101_0
                    have HR101_2 := Aside0.mk hi101_2
                    have HC101_2 := Aside0.mk hl101_2
                    clear hi101_2 hl101_2
                    replace p101 := eq_true p101
                    replace q101 := eq_true q101
                    have p102 : 0 ≤ (x13_1 : Int) := of_decide_eq_true (by first | (with_reducible assumption) | assumption)
                    have q102 : x13_1 < (l1.length : Int) := of_decide_eq_true (by first | (with_reducible assumption) | assumption)
                    obtain ⟨ad102, A102_0, c102_0, A102_2, c102_2, e102, hx102_0, hx102_1, hx102_2, hx102_3, hl102_0, hi102_0, hl102_2, hi102_2⟩ := at_T29 HR1.out x13_1 p102 q102
                    have hw102_3 := hx102_3
                    have hw102_2 := hx102_2
                    have hw102_1 := hx102_1
                    have hw102_0 := hx102_0
                    cases e102
                    replace hx102_0 := (HB.out.cell (World.block_lt_of_cell? w _ hx102_0)).trans hx102_0
                    replace hx102_1 := (HB.out.cell (World.block_lt_of_cell? w _ hx102_1)).trans hx102_1
                    replace hx102_2 := (HB.out.cell (World.block_lt_of_cell? w _ hx102_2)).trans hx102_2
                    replace hx102_3 := (HB.out.cell (World.block_lt_of_cell? w _ hx102_3)).trans hx102_3
                    have HR102_0 := Aside0.mk hi102_0
                    have HC102_0 := Aside0.mk hl102_0
                    clear hi102_0 hl102_0
                    have HR102_2 := Aside0.mk hi102_2
                    have HC102_2 := Aside0.mk hl102_2
                    clear hi102_2 hl102_2
                    replace p102 := eq_true p102
                    replace q102 := eq_true q102
                    have p104 : 0 ≤ (x13_1 : Int) := of_decide_eq_true (by first | (with_reducible assumption) | assumption)
                    have q104 : x13_1 < (l0.length : Int) := of_decide_eq_true (by first | (with_reducible assumption) | assumption)
                    obtain ⟨ad104, A104_0, c104_0, A104_2, c104_2, e104, hx104_0, hx104_1, hx104_2, hx104_3, hl104_0, hi104_0, hl104_2, hi104_2⟩ := at_T29 HR0.out x13_1 p104 q104
                    have hw104_3 := hx104_3
                    have hw104_2 := hx104_2
                    have hw104_1 := hx104_1
                    have hw104_0 := hx104_0
                    obtain rfl : ad101 = ad104 := (by injection e104)
                    replace hx104_0 := (HB.out.cell (World.block_lt_of_cell? w _ hx104_0)).trans hx104_0
                    replace hx104_1 := (HB.out.cell (World.block_lt_of_cell? w _ hx104_1)).trans hx104_1
                    replace hx104_2 := (HB.out.cell (World.block_lt_of_cell? w _ hx104_2)).trans hx104_2
                    replace hx104_3 := (HB.out.cell (World.block_lt_of_cell? w _ hx104_3)).trans hx104_3
                    have HR104_0 := Aside0.mk hi104_0
                    have HC104_0 := Aside0.mk hl104_0
                    clear hi104_0 hl104_0
                    have HR104_2 := Aside0.mk hi104_2
                    have HC104_2 := Aside0.mk hl104_2
                    clear hi104_2 hl104_2
                    replace p104 := eq_true p104
                    replace q104 := eq_true q104
                    have p105 : 0 ≤ (x13_1 : Int) := of_decide_eq_true (by first | (with_reducible assumption) | assumption)
                    have q105 : x13_1 < (l1.length : Int) := of_decide_eq_true (by first | (with_reducible assumption) | assumption)
                    obtain ⟨ad105, A105_0, c105_0, A105_2, c105_2, e105, hx105_0, hx105_1, hx105_2, hx105_3, hl105_0, hi105_0, hl105_2, hi105_2⟩ := at_T29 HR1.out x13_1 p105 q105
                    have hw105_3 := hx105_3
                    have hw105_2 := hx105_2
                    have hw105_1 := hx105_1
                    have hw105_0 := hx105_0
                    obtain rfl : ad102 = ad105 := (by injection e105)
                    replace hx105_0 := (HB.out.cell (World.block_lt_of_cell? w _ hx105_0)).trans hx105_0
                    replace hx105_1 := (HB.out.cell (World.block_lt_of_cell? w _ hx105_1)).trans hx105_1
                    replace hx105_2 := (HB.out.cell (World.block_lt_of_cell? w _ hx105_2)).trans hx105_2
                    replace hx105_3 := (HB.out.cell (World.block_lt_of_cell? w _ hx105_3)).trans hx105_3
                    have HR105_0 := Aside0.mk hi105_0
                    have HC105_0 := Aside0.mk hl105_0
                    clear hi105_0 hl105_0
                    have HR105_2 := Aside0.mk hi105_2
                    have HC105_2 := Aside0.mk hl105_2
                    clear hi105_2 hl105_2
                    replace p105 := eq_true p105
                    replace q105 := eq_true q105
                    refine start_ (n := 26) (S := fun w' => w'.cell? (ad101.add ((x13_1).toNat * 4)) = some (.slice A101_0 ((rd_T29 l0 x13_1).f0).length c101_0) ∧ w'.cell? ⟨(ad101.add ((x13_1).toNat * 4)).block, (ad101.add ((x13_1).toNat * 4)).off + 1, none⟩ = some (.int .i64 ((rd_T29 l0 x13_1).f1.f0)) ∧ w'.cell? ⟨(ad101.add ((x13_1).toNat * 4)).block, (ad101.add ((x13_1).toNat * 4)).off + 2, none⟩ = some (.slice A101_2 ((rd_T29 l0 x13_1).f1.f1).length c101_2) ∧ w'.cell? ⟨(ad101.add ((x13_1).toNat * 4)).block, (ad101.add ((x13_1).toNat * 4)).off + 3, none⟩ = some (.int .i64 ((rd_T29 l0 x13_1).f1.f2)) ∧ w'.cell? (ad102.add ((x13_1).toNat * 4)) = some (.slice A102_0 ((rd_T29 l1 x13_1).f0).length c102_0) ∧ w'.cell? ⟨(ad102.add ((x13_1).toNat * 4)).block, (ad102.add ((x13_1).toNat * 4)).off + 1, none⟩ = some (.int .i64 ((rd_T29 l1 x13_1).f1.f0)) ∧ w'.cell? ⟨(ad102.add ((x13_1).toNat * 4)).block, (ad102.add ((x13_1).toNat * 4)).off + 2, none⟩ = some (.slice A102_2 ((rd_T29 l1 x13_1).f1.f1).length c102_2) ∧ w'.cell? ⟨(ad102.add ((x13_1).toNat * 4)).block, (ad102.add ((x13_1).toNat * 4)).off + 3, none⟩ = some (.int .i64 ((rd_T29 l1 x13_1).f1.f2)) ∧ w'.cell? (ad101.add ((x13_1).toNat * 4)) = some (.slice A104_0 ((rd_T29 l0 x13_1).f0).length c104_0) ∧ w'.cell? ⟨(ad101.add ((x13_1).toNat * 4)).block, (ad101.add ((x13_1).toNat * 4)).off + 1, none⟩ = some (.int .i64 ((rd_T29 l0 x13_1).f1.f0)) ∧ w'.cell? ⟨(ad101.add ((x13_1).toNat * 4)).block, (ad101.add ((x13_1).toNat * 4)).off + 2, none⟩ = some (.slice A104_2 ((rd_T29 l0 x13_1).f1.f1).length c104_2) ∧ w'.cell? ⟨(ad101.add ((x13_1).toNat * 4)).block, (ad101.add ((x13_1).toNat * 4)).off + 3, none⟩ = some (.int .i64 ((rd_T29 l0 x13_1).f1.f2)) ∧ w'.cell? (ad102.add ((x13_1).toNat * 4)) = some (.slice A105_0 ((rd_T29 l1 x13_1).f0).length c105_0) ∧ w'.cell? ⟨(ad102.add ((x13_1).toNat * 4)).block, (ad102.add ((x13_1).toNat * 4)).off + 1, none⟩ = some (.int .i64 ((rd_T29 l1 x13_1).f1.f0)) ∧ w'.cell? ⟨(ad102.add ((x13_1).toNat * 4)).block, (ad102.add ((x13_1).toNat * 4)).off + 2, none⟩ = some (.slice A105_2 ((rd_T29 l1 x13_1).f1.f1).length c105_2) ∧ w'.cell? ⟨(ad102.add ((x13_1).toNat * 4)).block, (ad102.add ((x13_1).toNat * 4)).off + 3, none⟩ = some (.int .i64 ((rd_T29 l1 x13_1).f1.f2))) (ds := []) #[false, false, false, false, false, false, false, false, false, false, false, false, false, false, false, false, false, false, false, false, false, false, false, false, false, false] (by kernel_rfl) rfl rfl ⟨((HB.out.cell (World.block_lt_of_cell? w _ hw101_0)).trans hw101_0), ((HB.out.cell (World.block_lt_of_cell? w _ hw101_1)).trans hw101_1), ((HB.out.cell (World.block_lt_of_cell? w _ hw101_2)).trans hw101_2), ((HB.out.cell (World.block_lt_of_cell? w _ hw101_3)).trans hw101_3), ((HB.out.cell (World.block_lt_of_cell? w _ hw102_0)).trans hw102_0), ((HB.out.cell (World.block_lt_of_cell? w _ hw102_1)).trans hw102_1), ((HB.out.cell (World.block_lt_of_cell? w _ hw102_2)).trans hw102_2), ((HB.out.cell (World.block_lt_of_cell? w _ hw102_3)).trans hw102_3), ((HB.out.cell (World.block_lt_of_cell? w _ hw104_0)).trans hw104_0), ((HB.out.cell (World.block_lt_of_cell? w _ hw104_1)).trans hw104_1), ((HB.out.cell (World.block_lt_of_cell? w _ hw104_2)).trans hw104_2), ((HB.out.cell (World.block_lt_of_cell? w _ hw104_3)).trans hw104_3), ((HB.out.cell (World.block_lt_of_cell? w _ hw105_0)).trans hw105_0), ((HB.out.cell (World.block_lt_of_cell? w _ hw105_1)).trans hw105_1), ((HB.out.cell (World.block_lt_of_cell? w _ hw105_2)).trans hw105_2), ((HB.out.cell (World.block_lt_of_cell? w _ hw105_3)).trans hw105_3)⟩ (fun hHeld => ?_); refine with_tabW spinneyref20_Same.tab6 spinneyref20_Same.bits6 (fun HT_ HW_ => ?_)
                    generalize wr.drew = w12 at HB HR101_0 HR101_2 HR102_0 HR102_2 HR104_0 HR104_2 HR105_0 HR105_2 hx101_0 hx101_1 hx101_2 hx101_3 hx102_0 hx102_1 hx102_2 hx102_3 hx104_0 hx104_1 hx104_2 hx104_3 hx105_0 hx105_1 hx105_2 hx105_3 hHeld ⊢
                    refine pure_ (i := 0) (N := some 16) (v := ?_) (a' := ?_) #[true, false, false, false, false, false, false, false, false, false, false, false, false, false, false, false, false, false, false, false, false, false, false, false, false, false] rfl rfl (any_of HT_.out (by kernel_rfl)) (fun _ _ _ h => h) (Or.inl ⟨by rfl, ?_⟩) ?_ ?_
                    rotate_left
                    · intro w'
                      go_simp
                      with_reducible rfl
                    rotate_left
                    · simp only [Act.put, List.setIfInBounds_toArray, List.set_cons_zero, List.set_cons_succ, i64_w, i32_w]
                      rfl
                    refine pure_ (i := 1) (N := some 17) (v := ?_) (a' := ?_) #[true, true, false, false, false, false, false, false, false, false, false, false, false, false, false, false, false, false, false, false, false, false, false, false, false, false] rfl rfl (any_of HT_.out (by kernel_rfl)) (fun _ _ _ h => h) (Or.inl ⟨by rfl, ?_⟩) ?_ ?_
                    rotate_left
                    · intro w'
                      go_simp
                      with_reducible rfl
                    rotate_left
                    · simp only [Act.put, List.setIfInBounds_toArray, List.set_cons_zero, List.set_cons_succ, i64_w, i32_w]
                      rfl
                    refine pure_ (i := 2) (N := some 18) (v := ?_) (a' := ?_) #[true, true, true, false, false, false, false, false, false, false, false, false, false, false, false, false, false, false, false, false, false, false, false, false, false, false] rfl rfl (any_of HT_.out (by kernel_rfl)) (fun _ _ _ h => h) (Or.inl ⟨by rfl, ?_⟩) ?_ ?_
                    rotate_left
                    · intro w'
                      go_simp
                      with_reducible rfl
                    rotate_left
                    · simp only [Act.put, List.setIfInBounds_toArray, List.set_cons_zero, List.set_cons_succ, i64_w, i32_w]
                      rfl
                    refine pure_ (i := 3) (N := some 19) (v := ?_) (a' := ?_) #[true, true, true, true, false, false, false, false, false, false, false, false, false, false, false, false, false, false, false, false, false, false, false, false, false, false] rfl rfl (any_of HT_.out (by kernel_rfl)) (fun _ _ _ h => h) (Or.inl ⟨by rfl, ?_⟩) ?_ ?_
                    rotate_left
                    · intro w'
                      go_simp
                      with_reducible rfl
                    rotate_left
                    · simp only [Act.put, List.setIfInBounds_toArray, List.set_cons_zero, List.set_cons_succ, i64_w, i32_w]
                      rfl
                    refine pure_ (i := 5) (N := some 21) (v := ?_) (a' := ?_) #[true, true, true, true, false, true, false, false, false, false, false, false, false, false, false, false, false, false, false, false, false, false, false, false, false, false] rfl rfl (any_of HT_.out (by kernel_rfl)) (fun _ _ _ h => h) (Or.inl ⟨by rfl, ?_⟩) ?_ ?_
                    rotate_left
                    · intro w'
                      go_simp
                      with_reducible rfl
                    rotate_left
                    · simp only [Act.put, List.setIfInBounds_toArray, List.set_cons_zero, List.set_cons_succ, i64_w, i32_w]
                      rfl
                    refine pure_ (i := 6) (N := some 22) (v := ?_) (a' := ?_) #[true, true, true, true, false, true, true, false, false, false, false, false, false, false, false, false, false, false, false, false, false, false, false, false, false, false] rfl rfl (any_of HT_.out (by kernel_rfl)) (fun _ _ _ h => h) (Or.inl ⟨by rfl, ?_⟩) ?_ ?_
                    rotate_left
                    · intro w'
                      go_simp
                      with_reducible rfl
                    rotate_left
                    · simp only [Act.put, List.setIfInBounds_toArray, List.set_cons_zero, List.set_cons_succ, i64_w, i32_w]
                      rfl
                    refine pure_ (i := 7) (N := some 23) (v := ?_) (a' := ?_) #[true, true, true, true, false, true, true, true, false, false, false, false, false, false, false, false, false, false, false, false, false, false, false, false, false, false] rfl rfl (any_of HT_.out (by kernel_rfl)) (fun _ _ _ h => h) (Or.inl ⟨by rfl, ?_⟩) ?_ ?_
                    rotate_left
                    · intro w'
                      go_simp
                      with_reducible rfl
                    rotate_left
                    · simp only [Act.put, List.setIfInBounds_toArray, List.set_cons_zero, List.set_cons_succ, i64_w, i32_w]
                      rfl
                    refine pure_ (i := 8) (N := some 24) (v := ?_) (a' := ?_) #[true, true, true, true, false, true, true, true, true, false, false, false, false, false, false, false, false, false, false, false, false, false, false, false, false, false] rfl rfl (any_of HT_.out (by kernel_rfl)) (fun _ _ _ h => h) (Or.inl ⟨by rfl, ?_⟩) ?_ ?_
                    rotate_left
                    · intro w'
                      go_simp
                      with_reducible rfl
                    rotate_left
                    · simp only [Act.put, List.setIfInBounds_toArray, List.set_cons_zero, List.set_cons_succ, i64_w, i32_w]
                      rfl
                    refine take_ (i := 4) (N := some 20) (v := ?_) (a' := ?_) #[true, true, true, true, true, true, true, true, true, false, false, false, false, false, false, false, false, false, false, false, false, false, false, false, false, false] rfl rfl (take_ofW HT_.out HW_.out (by kernel_rfl)) (fun _ _ _ h => h) (Or.inl ⟨by rfl, ?_⟩) hHeld ?_ ?_
                    rotate_left
                    · rintro w' ⟨s0, s1, s2, s3, s4, s5, s6, s7, s8, s9, s10, s11, s12, s13, s14, s15⟩
                      go_simp
                      with_reducible rfl
                    rotate_left
                    · simp only [Act.put, List.setIfInBounds_toArray, List.set_cons_zero, List.set_cons_succ, i64_w, i32_w]
                      rfl
                    refine take_ (i := 9) (N := some 25) (v := ?_) (a' := ?_) #[true, true, true, true, true, true, true, true, true, true, false, false, false, false, false, false, false, false, false, false, false, false, false, false, false, false] rfl rfl (take_ofW HT_.out HW_.out (by kernel_rfl)) (fun _ _ _ h => h) (Or.inl ⟨by rfl, ?_⟩) hHeld ?_ ?_
                    rotate_left
                    · rintro w' ⟨s0, s1, s2, s3, s4, s5, s6, s7, s8, s9, s10, s11, s12, s13, s14, s15⟩
                      go_simp
                      with_reducible rfl
                    rotate_left
                    · simp only [Act.put, List.setIfInBounds_toArray, List.set_cons_zero, List.set_cons_succ, i64_w, i32_w]
                      rfl
                    refine one_ (i := 10) (N := some 26) #[true, true, true, true, true, true, true, true, true, true, true, false, false, false, false, false, false, false, false, false, false, false, false, false, false, false] rfl rfl (one_of HT_.out (by kernel_rfl)) (by decide) (fun K hK => ?_)
                    refine goes_ Try.func13 (by kernel_rfl) rfl #[.slice A101_0 ((rd_T29 l0 x13_1).f0).length c101_0, .slice A102_0 ((rd_T29 l1 x13_1).f0).length c102_0] (by rfl) rfl rfl (by (try simp only [List.map_toArray, List.map_cons, List.map_nil]); first | done | rfl | (simp only [List.length_drop, List.length_take]; rfl)) ?_
                    with_reducible refine (spinneyref19_CompareW.calls _ _ ((rd_T29 l0 x13_1).f0) _ _ ((rd_T29 l1 x13_1).f0) t103 _ ?side1 ?side2 ?side3 ?side4 A8.out).mono ?_
                    (case side1 => repeat (first | exact (Kd.C_below HR101_0.out HB.out) | (with_reducible refine Kd.C_alloc ?_ _) | (with_reducible refine Kd.C_drewN ?_ _) | (with_reducible refine Kd.C_drew ?_)))
                    (case side2 => exact HC101_0.out)
                    (case side3 => repeat (first | exact (Kd.C_below HR102_0.out HB.out) | (with_reducible refine Kd.C_alloc ?_ _) | (with_reducible refine Kd.C_drewN ?_ _) | (with_reducible refine Kd.C_drew ?_)))
                    (case side4 => exact HC102_0.out)
                    rintro e w13 ⟨rfl, hb⟩
                    refine ⟨_, rfl, ?_⟩
                    have n0_ := Aside0.mk (below_step (by repeat (first | (with_reducible first | exact HB.out | apply below_alloc | apply pw_below_drewN | apply below_drew1) | exact HB.out)) hb)
                    clear HB
                    have HB := n0_
                    clear n0_
                    (try clear hb)
                    (try clear hb2)
                    (try clear hk)
                    (try clear hi)
                    refine hK.out _ _ ⟨((HB.out.cell (World.block_lt_of_cell? w _ hw101_0)).trans hw101_0), ((HB.out.cell (World.block_lt_of_cell? w _ hw101_1)).trans hw101_1), ((HB.out.cell (World.block_lt_of_cell? w _ hw101_2)).trans hw101_2), ((HB.out.cell (World.block_lt_of_cell? w _ hw101_3)).trans hw101_3), ((HB.out.cell (World.block_lt_of_cell? w _ hw102_0)).trans hw102_0), ((HB.out.cell (World.block_lt_of_cell? w _ hw102_1)).trans hw102_1), ((HB.out.cell (World.block_lt_of_cell? w _ hw102_2)).trans hw102_2), ((HB.out.cell (World.block_lt_of_cell? w _ hw102_3)).trans hw102_3), ((HB.out.cell (World.block_lt_of_cell? w _ hw104_0)).trans hw104_0), ((HB.out.cell (World.block_lt_of_cell? w _ hw104_1)).trans hw104_1), ((HB.out.cell (World.block_lt_of_cell? w _ hw104_2)).trans hw104_2), ((HB.out.cell (World.block_lt_of_cell? w _ hw104_3)).trans hw104_3), ((HB.out.cell (World.block_lt_of_cell? w _ hw105_0)).trans hw105_0), ((HB.out.cell (World.block_lt_of_cell? w _ hw105_1)).trans hw105_1), ((HB.out.cell (World.block_lt_of_cell? w _ hw105_2)).trans hw105_2), ((HB.out.cell (World.block_lt_of_cell? w _ hw105_3)).trans hw105_3)⟩ (fun hHeld => ?_)
                    clear hK K
                    refine norm_ (a' := ?_) ?_ ?_
                    rotate_left
                    · show Act.put _ (some 26) _ = _
                      simp only [Act.put, List.setIfInBounds_toArray, List.set_cons_zero, List.set_cons_succ, i64_w, i32_w]
                      rfl
                    refine pure_ (i := 11) (N := some 27) (v := ?_) (a' := ?_) #[true, true, true, true, true, true, true, true, true, true, true, true, false, false, false, false, false, false, false, false, false, false, false, false, false, false] rfl rfl (any_of HT_.out (by kernel_rfl)) (fun _ _ _ h => h) (Or.inl ⟨by rfl, ?_⟩) ?_ ?_
                    rotate_left
                    · intro w'
                      go_simp
                      with_reducible rfl
                    rotate_left
                    · simp only [Act.put, List.setIfInBounds_toArray, List.set_cons_zero, List.set_cons_succ, i64_w, i32_w]
                      rfl
                    refine pure_ (i := 12) (N := some 28) (v := ?_) (a' := ?_) #[true, true, true, true, true, true, true, true, true, true, true, true, true, false, false, false, false, false, false, false, false, false, false, false, false, false] rfl rfl (any_of HT_.out (by kernel_rfl)) (fun _ _ _ h => h) (Or.inl ⟨by rfl, ?_⟩) ?_ ?_
                    rotate_left
                    · intro w'
                      go_simp
                      with_reducible rfl
                    rotate_left
                    · simp only [Act.put, List.setIfInBounds_toArray, List.set_cons_zero, List.set_cons_succ, i64_w, i32_w]
                      rfl
                    refine pure_ (i := 13) (N := some 29) (v := ?_) (a' := ?_) #[true, true, true, true, true, true, true, true, true, true, true, true, true, true, false, false, false, false, false, false, false, false, false, false, false, false] rfl rfl (any_of HT_.out (by kernel_rfl)) (fun _ _ _ h => h) (Or.inl ⟨by rfl, ?_⟩) ?_ ?_
                    rotate_left
                    · intro w'
                      go_simp
                      with_reducible rfl
                    rotate_left
                    · simp only [Act.put, List.setIfInBounds_toArray, List.set_cons_zero, List.set_cons_succ, i64_w, i32_w]
                      rfl
                    refine pure_ (i := 14) (N := some 30) (v := ?_) (a' := ?_) #[true, true, true, true, true, true, true, true, true, true, true, true, true, true, true, false, false, false, false, false, false, false, false, false, false, false] rfl rfl (any_of HT_.out (by kernel_rfl)) (fun _ _ _ h => h) (Or.inl ⟨by rfl, ?_⟩) ?_ ?_
                    rotate_left
                    · intro w'
                      go_simp
                      with_reducible rfl
                    rotate_left
                    · simp only [Act.put, List.setIfInBounds_toArray, List.set_cons_zero, List.set_cons_succ, i64_w, i32_w]
                      rfl
                    refine pure_ (i := 15) (N := some 31) (v := ?_) (a' := ?_) #[true, true, true, true, true, true, true, true, true, true, true, true, true, true, true, true, false, false, false, false, false, false, false, false, false, false] rfl rfl (any_of HT_.out (by kernel_rfl)) (fun _ _ _ h => h) (Or.inl ⟨by rfl, ?_⟩) ?_ ?_
                    rotate_left
                    · intro w'
                      go_simp
                      with_reducible rfl
                    rotate_left
                    · simp only [Act.put, List.setIfInBounds_toArray, List.set_cons_zero, List.set_cons_succ, i64_w, i32_w]
                      rfl
                    refine pure_ (i := 16) (N := some 32) (v := ?_) (a' := ?_) #[true, true, true, true, true, true, true, true, true, true, true, true, true, true, true, true, true, false, false, false, false, false, false, false, false, false] rfl rfl (any_of HT_.out (by kernel_rfl)) (fun _ _ _ h => h) (Or.inl ⟨by rfl, ?_⟩) ?_ ?_
                    rotate_left
                    · intro w'
                      go_simp
                      with_reducible rfl
                    rotate_left
                    · simp only [Act.put, List.setIfInBounds_toArray, List.set_cons_zero, List.set_cons_succ, i64_w, i32_w]
                      rfl
                    refine pure_ (i := 18) (N := some 34) (v := ?_) (a' := ?_) #[true, true, true, true, true, true, true, true, true, true, true, true, true, true, true, true, true, false, true, false, false, false, false, false, false, false] rfl rfl (any_of HT_.out (by kernel_rfl)) (fun _ _ _ h => h) (Or.inl ⟨by rfl, ?_⟩) ?_ ?_
                    rotate_left
                    · intro w'
                      go_simp
                      with_reducible rfl
                    rotate_left
                    · simp only [Act.put, List.setIfInBounds_toArray, List.set_cons_zero, List.set_cons_succ, i64_w, i32_w]
                      rfl
                    refine pure_ (i := 19) (N := some 35) (v := ?_) (a' := ?_) #[true, true, true, true, true, true, true, true, true, true, true, true, true, true, true, true, true, false, true, true, false, false, false, false, false, false] rfl rfl (any_of HT_.out (by kernel_rfl)) (fun _ _ _ h => h) (Or.inl ⟨by rfl, ?_⟩) ?_ ?_
                    rotate_left
                    · intro w'
                      go_simp
                      with_reducible rfl
                    rotate_left
                    · simp only [Act.put, List.setIfInBounds_toArray, List.set_cons_zero, List.set_cons_succ, i64_w, i32_w]
                      rfl
                    refine pure_ (i := 20) (N := some 36) (v := ?_) (a' := ?_) #[true, true, true, true, true, true, true, true, true, true, true, true, true, true, true, true, true, false, true, true, true, false, false, false, false, false] rfl rfl (any_of HT_.out (by kernel_rfl)) (fun _ _ _ h => h) (Or.inl ⟨by rfl, ?_⟩) ?_ ?_
                    rotate_left
                    · intro w'
                      go_simp
                      with_reducible rfl
                    rotate_left
                    · simp only [Act.put, List.setIfInBounds_toArray, List.set_cons_zero, List.set_cons_succ, i64_w, i32_w]
                      rfl
                    refine pure_ (i := 21) (N := some 37) (v := ?_) (a' := ?_) #[true, true, true, true, true, true, true, true, true, true, true, true, true, true, true, true, true, false, true, true, true, true, false, false, false, false] rfl rfl (any_of HT_.out (by kernel_rfl)) (fun _ _ _ h => h) (Or.inl ⟨by rfl, ?_⟩) ?_ ?_
                    rotate_left
                    · intro w'
                      go_simp
                      with_reducible rfl
                    rotate_left
                    · simp only [Act.put, List.setIfInBounds_toArray, List.set_cons_zero, List.set_cons_succ, i64_w, i32_w]
                      rfl
                    refine take_ (i := 17) (N := some 33) (v := ?_) (a' := ?_) #[true, true, true, true, true, true, true, true, true, true, true, true, true, true, true, true, true, true, true, true, true, true, false, false, false, false] rfl rfl (take_ofW HT_.out HW_.out (by kernel_rfl)) (fun _ _ _ h => h) (Or.inl ⟨by rfl, ?_⟩) hHeld ?_ ?_
                    rotate_left
                    · rintro w' ⟨s0, s1, s2, s3, s4, s5, s6, s7, s8, s9, s10, s11, s12, s13, s14, s15⟩
                      go_simp
                      with_reducible rfl
                    rotate_left
                    · simp only [Act.put, List.setIfInBounds_toArray, List.set_cons_zero, List.set_cons_succ, i64_w, i32_w]
                      rfl
                    refine take_ (i := 22) (N := some 38) (v := ?_) (a' := ?_) #[true, true, true, true, true, true, true, true, true, true, true, true, true, true, true, true, true, true, true, true, true, true, true, false, false, false] rfl rfl (take_ofW HT_.out HW_.out (by kernel_rfl)) (fun _ _ _ h => h) (Or.inl ⟨by rfl, ?_⟩) hHeld ?_ ?_
                    rotate_left
                    · rintro w' ⟨s0, s1, s2, s3, s4, s5, s6, s7, s8, s9, s10, s11, s12, s13, s14, s15⟩
                      go_simp
                      with_reducible rfl
                    rotate_left
                    · simp only [Act.put, List.setIfInBounds_toArray, List.set_cons_zero, List.set_cons_succ, i64_w, i32_w]
                      rfl
                    refine one_ (i := 23) (N := some 39) #[true, true, true, true, true, true, true, true, true, true, true, true, true, true, true, true, true, true, true, true, true, true, true, true, false, false] rfl rfl (one_of HT_.out (by kernel_rfl)) (by decide) (fun K hK => ?_)
                    refine goes_ Try.func34 (by kernel_rfl) rfl #[.agg #[.int .i64 ((rd_T29 l0 x13_1).f1.f0), .slice A101_2 ((rd_T29 l0 x13_1).f1.f1).length c101_2, .int .i64 ((rd_T29 l0 x13_1).f1.f2)], .agg #[.int .i64 ((rd_T29 l1 x13_1).f1.f0), .slice A102_2 ((rd_T29 l1 x13_1).f1.f1).length c102_2, .int .i64 ((rd_T29 l1 x13_1).f1.f2)]] (by rfl) rfl rfl (by (try simp only [List.map_toArray, List.map_cons, List.map_nil]); first | done | rfl | (simp only [List.length_drop, List.length_take]; rfl)) ?_
                    with_reducible refine (spinneyref14_SameEvent.calls ((rd_T29 l0 x13_1).f1.f0) _ _ ((rd_T29 l0 x13_1).f1.f1) ((rd_T29 l0 x13_1).f1.f2) ((rd_T29 l1 x13_1).f1.f0) _ _ ((rd_T29 l1 x13_1).f1.f1) ((rd_T29 l1 x13_1).f1.f2) true _ ?side1 ?side2 ?side3 ?side4 A10.out).mono ?_
                    (case side1 => repeat (first | exact (Kd.C_below HR101_2.out HB.out) | (with_reducible refine Kd.C_alloc ?_ _) | (with_reducible refine Kd.C_drewN ?_ _) | (with_reducible refine Kd.C_drew ?_)))
                    (case side2 => exact HC101_2.out)
                    (case side3 => repeat (first | exact (Kd.C_below HR102_2.out HB.out) | (with_reducible refine Kd.C_alloc ?_ _) | (with_reducible refine Kd.C_drewN ?_ _) | (with_reducible refine Kd.C_drew ?_)))
                    (case side4 => exact HC102_2.out)
                    rintro e w14 ⟨rfl, hb⟩
                    refine ⟨_, rfl, ?_⟩
                    have n0_ := Aside0.mk (below_step (by repeat (first | (with_reducible first | exact HB.out | apply below_alloc | apply pw_below_drewN | apply below_drew1) | exact HB.out)) hb)
                    clear HB
                    have HB := n0_
                    clear n0_
                    (try clear hb)
                    (try clear hb2)
                    (try clear hk)
                    (try clear hi)
                    refine hK.out _ _ ⟨((HB.out.cell (World.block_lt_of_cell? w _ hw101_0)).trans hw101_0), ((HB.out.cell (World.block_lt_of_cell? w _ hw101_1)).trans hw101_1), ((HB.out.cell (World.block_lt_of_cell? w _ hw101_2)).trans hw101_2), ((HB.out.cell (World.block_lt_of_cell? w _ hw101_3)).trans hw101_3), ((HB.out.cell (World.block_lt_of_cell? w _ hw102_0)).trans hw102_0), ((HB.out.cell (World.block_lt_of_cell? w _ hw102_1)).trans hw102_1), ((HB.out.cell (World.block_lt_of_cell? w _ hw102_2)).trans hw102_2), ((HB.out.cell (World.block_lt_of_cell? w _ hw102_3)).trans hw102_3), ((HB.out.cell (World.block_lt_of_cell? w _ hw104_0)).trans hw104_0), ((HB.out.cell (World.block_lt_of_cell? w _ hw104_1)).trans hw104_1), ((HB.out.cell (World.block_lt_of_cell? w _ hw104_2)).trans hw104_2), ((HB.out.cell (World.block_lt_of_cell? w _ hw104_3)).trans hw104_3), ((HB.out.cell (World.block_lt_of_cell? w _ hw105_0)).trans hw105_0), ((HB.out.cell (World.block_lt_of_cell? w _ hw105_1)).trans hw105_1), ((HB.out.cell (World.block_lt_of_cell? w _ hw105_2)).trans hw105_2), ((HB.out.cell (World.block_lt_of_cell? w _ hw105_3)).trans hw105_3)⟩ (fun hHeld => ?_)
                    clear hK K
                    refine norm_ (a' := ?_) ?_ ?_
                    rotate_left
                    · show Act.put _ (some 39) _ = _
                      simp only [Act.put, List.setIfInBounds_toArray, List.set_cons_zero, List.set_cons_succ, i64_w, i32_w]
                      rfl
                    refine pure_ (i := 24) (N := some 40) (v := ?_) (a' := ?_) #[true, true, true, true, true, true, true, true, true, true, true, true, true, true, true, true, true, true, true, true, true, true, true, true, true, false] rfl rfl (any_of HT_.out (by kernel_rfl)) (fun _ _ _ h => h) (Or.inl ⟨by rfl, ?_⟩) ?_ ?_
                    rotate_left
                    · intro w'
                      go_simp
                      with_reducible rfl
                    rotate_left
                    · simp only [Act.put, List.setIfInBounds_toArray, List.set_cons_zero, List.set_cons_succ, i64_w, i32_w]
                      rfl
                    refine pure_ (i := 25) (N := some 41) (v := ?_) (a' := ?_) #[true, true, true, true, true, true, true, true, true, true, true, true, true, true, true, true, true, true, true, true, true, true, true, true, true, true] rfl rfl (any_of HT_.out (by kernel_rfl)) (fun _ _ _ h => h) (Or.inl ⟨by rfl, ?_⟩) ?_ ?_
                    rotate_left
                    · intro w'
                      go_simp
                      with_reducible rfl
                    rotate_left
                    · simp only [Act.put, List.setIfInBounds_toArray, List.set_cons_zero, List.set_cons_succ, i64_w, i32_w]
                      rfl
                    refine done_ (done_of HT_.out (by kernel_rfl)) ?_
                    try go_wp2
                    go_roundg k1
                    case measure => have := HK1.out; omega
                    case rel => exact ⟨(wrap64 (x13_1 + 1)), (by first | rfl | (simp; done) | (simp [*]; done)), H', ⟨by have := HK1.out; omega⟩, ⟨by repeat (first | (with_reducible first | exact HB.out | apply below_alloc | apply pw_below_drewN | apply below_drew1) | exact HB.out)⟩⟩
                  · replace c11 := Bool.eq_false_iff.mpr c11
                    subst c11
                    have H1 : (some false) = some r := by rw [if_neg (show ¬ (false = true) by decide)] at H; exact H
                    clear H
                    have H := H1
                    clear H1
                    obtain rfl := Option.some.inj H
                    try go_wp2
                    have n0_ := Aside0.mk (below_drew1 HB.out)
                    clear HB
                    have HB := n0_
                    clear n0_
                    have p101 : 0 ≤ (x13_1 : Int) := of_decide_eq_true (by first | (with_reducible assumption) | assumption)
                    have q101 : x13_1 < (l0.length : Int) := of_decide_eq_true (by first | (with_reducible assumption) | assumption)
                    obtain ⟨ad101, A101_0, c101_0, A101_2, c101_2, e101, hx101_0, hx101_1, hx101_2, hx101_3, hl101_0, hi101_0, hl101_2, hi101_2⟩ := at_T29 HR0.out x13_1 p101 q101
                    have hw101_3 := hx101_3
                    have hw101_2 := hx101_2
                    have hw101_1 := hx101_1
                    have hw101_0 := hx101_0
                    cases e101
                    replace hx101_0 := (HB.out.cell (World.block_lt_of_cell? w _ hx101_0)).trans hx101_0
                    replace hx101_1 := (HB.out.cell (World.block_lt_of_cell? w _ hx101_1)).trans hx101_1
                    replace hx101_2 := (HB.out.cell (World.block_lt_of_cell? w _ hx101_2)).trans hx101_2
                    replace hx101_3 := (HB.out.cell (World.block_lt_of_cell? w _ hx101_3)).trans hx101_3
                    have HR101_0 := Aside0.mk hi101_0
                    have HC101_0 := Aside0.mk hl101_0
                    clear hi101_0 hl101_0
                    have HR101_2 := Aside0.mk hi101_2
                    have HC101_2 := Aside0.mk hl101_2
                    clear hi101_2 hl101_2
                    replace p101 := eq_true p101
                    replace q101 := eq_true q101
                    have p102 : 0 ≤ (x13_1 : Int) := of_decide_eq_true (by first | (with_reducible assumption) | assumption)
                    have q102 : x13_1 < (l1.length : Int) := of_decide_eq_true (by first | (with_reducible assumption) | assumption)
                    obtain ⟨ad102, A102_0, c102_0, A102_2, c102_2, e102, hx102_0, hx102_1, hx102_2, hx102_3, hl102_0, hi102_0, hl102_2, hi102_2⟩ := at_T29 HR1.out x13_1 p102 q102
                    have hw102_3 := hx102_3
                    have hw102_2 := hx102_2
                    have hw102_1 := hx102_1
                    have hw102_0 := hx102_0
                    cases e102
                    replace hx102_0 := (HB.out.cell (World.block_lt_of_cell? w _ hx102_0)).trans hx102_0
                    replace hx102_1 := (HB.out.cell (World.block_lt_of_cell? w _ hx102_1)).trans hx102_1
                    replace hx102_2 := (HB.out.cell (World.block_lt_of_cell? w _ hx102_2)).trans hx102_2
                    replace hx102_3 := (HB.out.cell (World.block_lt_of_cell? w _ hx102_3)).trans hx102_3
                    have HR102_0 := Aside0.mk hi102_0
                    have HC102_0 := Aside0.mk hl102_0
                    clear hi102_0 hl102_0
                    have HR102_2 := Aside0.mk hi102_2
                    have HC102_2 := Aside0.mk hl102_2
                    clear hi102_2 hl102_2
                    replace p102 := eq_true p102
                    replace q102 := eq_true q102
                    have p104 : 0 ≤ (x13_1 : Int) := of_decide_eq_true (by first | (with_reducible assumption) | assumption)
                    have q104 : x13_1 < (l0.length : Int) := of_decide_eq_true (by first | (with_reducible assumption) | assumption)
                    obtain ⟨ad104, A104_0, c104_0, A104_2, c104_2, e104, hx104_0, hx104_1, hx104_2, hx104_3, hl104_0, hi104_0, hl104_2, hi104_2⟩ := at_T29 HR0.out x13_1 p104 q104
                    have hw104_3 := hx104_3
                    have hw104_2 := hx104_2
                    have hw104_1 := hx104_1
                    have hw104_0 := hx104_0
                    obtain rfl : ad101 = ad104 := (by injection e104)
                    replace hx104_0 := (HB.out.cell (World.block_lt_of_cell? w _ hx104_0)).trans hx104_0
                    replace hx104_1 := (HB.out.cell (World.block_lt_of_cell? w _ hx104_1)).trans hx104_1
                    replace hx104_2 := (HB.out.cell (World.block_lt_of_cell? w _ hx104_2)).trans hx104_2
                    replace hx104_3 := (HB.out.cell (World.block_lt_of_cell? w _ hx104_3)).trans hx104_3
                    have HR104_0 := Aside0.mk hi104_0
                    have HC104_0 := Aside0.mk hl104_0
                    clear hi104_0 hl104_0
                    have HR104_2 := Aside0.mk hi104_2
                    have HC104_2 := Aside0.mk hl104_2
                    clear hi104_2 hl104_2
                    replace p104 := eq_true p104
                    replace q104 := eq_true q104
                    have p105 : 0 ≤ (x13_1 : Int) := of_decide_eq_true (by first | (with_reducible assumption) | assumption)
                    have q105 : x13_1 < (l1.length : Int) := of_decide_eq_true (by first | (with_reducible assumption) | assumption)
                    obtain ⟨ad105, A105_0, c105_0, A105_2, c105_2, e105, hx105_0, hx105_1, hx105_2, hx105_3, hl105_0, hi105_0, hl105_2, hi105_2⟩ := at_T29 HR1.out x13_1 p105 q105
                    have hw105_3 := hx105_3
                    have hw105_2 := hx105_2
                    have hw105_1 := hx105_1
                    have hw105_0 := hx105_0
                    obtain rfl : ad102 = ad105 := (by injection e105)
                    replace hx105_0 := (HB.out.cell (World.block_lt_of_cell? w _ hx105_0)).trans hx105_0
                    replace hx105_1 := (HB.out.cell (World.block_lt_of_cell? w _ hx105_1)).trans hx105_1
                    replace hx105_2 := (HB.out.cell (World.block_lt_of_cell? w _ hx105_2)).trans hx105_2
                    replace hx105_3 := (HB.out.cell (World.block_lt_of_cell? w _ hx105_3)).trans hx105_3
                    have HR105_0 := Aside0.mk hi105_0
                    have HC105_0 := Aside0.mk hl105_0
                    clear hi105_0 hl105_0
                    have HR105_2 := Aside0.mk hi105_2
                    have HC105_2 := Aside0.mk hl105_2
                    clear hi105_2 hl105_2
                    replace p105 := eq_true p105
                    replace q105 := eq_true q105
                    refine start_ (n := 26) (S := fun w' => w'.cell? (ad101.add ((x13_1).toNat * 4)) = some (.slice A101_0 ((rd_T29 l0 x13_1).f0).length c101_0) ∧ w'.cell? ⟨(ad101.add ((x13_1).toNat * 4)).block, (ad101.add ((x13_1).toNat * 4)).off + 1, none⟩ = some (.int .i64 ((rd_T29 l0 x13_1).f1.f0)) ∧ w'.cell? ⟨(ad101.add ((x13_1).toNat * 4)).block, (ad101.add ((x13_1).toNat * 4)).off + 2, none⟩ = some (.slice A101_2 ((rd_T29 l0 x13_1).f1.f1).length c101_2) ∧ w'.cell? ⟨(ad101.add ((x13_1).toNat * 4)).block, (ad101.add ((x13_1).toNat * 4)).off + 3, none⟩ = some (.int .i64 ((rd_T29 l0 x13_1).f1.f2)) ∧ w'.cell? (ad102.add ((x13_1).toNat * 4)) = some (.slice A102_0 ((rd_T29 l1 x13_1).f0).length c102_0) ∧ w'.cell? ⟨(ad102.add ((x13_1).toNat * 4)).block, (ad102.add ((x13_1).toNat * 4)).off + 1, none⟩ = some (.int .i64 ((rd_T29 l1 x13_1).f1.f0)) ∧ w'.cell? ⟨(ad102.add ((x13_1).toNat * 4)).block, (ad102.add ((x13_1).toNat * 4)).off + 2, none⟩ = some (.slice A102_2 ((rd_T29 l1 x13_1).f1.f1).length c102_2) ∧ w'.cell? ⟨(ad102.add ((x13_1).toNat * 4)).block, (ad102.add ((x13_1).toNat * 4)).off + 3, none⟩ = some (.int .i64 ((rd_T29 l1 x13_1).f1.f2)) ∧ w'.cell? (ad101.add ((x13_1).toNat * 4)) = some (.slice A104_0 ((rd_T29 l0 x13_1).f0).length c104_0) ∧ w'.cell? ⟨(ad101.add ((x13_1).toNat * 4)).block, (ad101.add ((x13_1).toNat * 4)).off + 1, none⟩ = some (.int .i64 ((rd_T29 l0 x13_1).f1.f0)) ∧ w'.cell? ⟨(ad101.add ((x13_1).toNat * 4)).block, (ad101.add ((x13_1).toNat * 4)).off + 2, none⟩ = some (.slice A104_2 ((rd_T29 l0 x13_1).f1.f1).length c104_2) ∧ w'.cell? ⟨(ad101.add ((x13_1).toNat * 4)).block, (ad101.add ((x13_1).toNat * 4)).off + 3, none⟩ = some (.int .i64 ((rd_T29 l0 x13_1).f1.f2)) ∧ w'.cell? (ad102.add ((x13_1).toNat * 4)) = some (.slice A105_0 ((rd_T29 l1 x13_1).f0).length c105_0) ∧ w'.cell? ⟨(ad102.add ((x13_1).toNat * 4)).block, (ad102.add ((x13_1).toNat * 4)).off + 1, none⟩ = some (.int .i64 ((rd_T29 l1 x13_1).f1.f0)) ∧ w'.cell? ⟨(ad102.add ((x13_1).toNat * 4)).block, (ad102.add ((x13_1).toNat * 4)).off + 2, none⟩ = some (.slice A105_2 ((rd_T29 l1 x13_1).f1.f1).length c105_2) ∧ w'.cell? ⟨(ad102.add ((x13_1).toNat * 4)).block, (ad102.add ((x13_1).toNat * 4)).off + 3, none⟩ = some (.int .i64 ((rd_T29 l1 x13_1).f1.f2))) (ds := []) #[false, false, false, false, false, false, false, false, false, false, false, false, false, false, false, false, false, false, false, false, false, false, false, false, false, false] (by kernel_rfl) rfl rfl ⟨((HB.out.cell (World.block_lt_of_cell? w _ hw101_0)).trans hw101_0), ((HB.out.cell (World.block_lt_of_cell? w _ hw101_1)).trans hw101_1), ((HB.out.cell (World.block_lt_of_cell? w _ hw101_2)).trans hw101_2), ((HB.out.cell (World.block_lt_of_cell? w _ hw101_3)).trans hw101_3), ((HB.out.cell (World.block_lt_of_cell? w _ hw102_0)).trans hw102_0), ((HB.out.cell (World.block_lt_of_cell? w _ hw102_1)).trans hw102_1), ((HB.out.cell (World.block_lt_of_cell? w _ hw102_2)).trans hw102_2), ((HB.out.cell (World.block_lt_of_cell? w _ hw102_3)).trans hw102_3), ((HB.out.cell (World.block_lt_of_cell? w _ hw104_0)).trans hw104_0), ((HB.out.cell (World.block_lt_of_cell? w _ hw104_1)).trans hw104_1), ((HB.out.cell (World.block_lt_of_cell? w _ hw104_2)).trans hw104_2), ((HB.out.cell (World.block_lt_of_cell? w _ hw104_3)).trans hw104_3), ((HB.out.cell (World.block_lt_of_cell? w _ hw105_0)).trans hw105_0), ((HB.out.cell (World.block_lt_of_cell? w _ hw105_1)).trans hw105_1), ((HB.out.cell (World.block_lt_of_cell? w _ hw105_2)).trans hw105_2), ((HB.out.cell (World.block_lt_of_cell? w _ hw105_3)).trans hw105_3)⟩ (fun hHeld => ?_); refine with_tabW spinneyref20_Same.tab6 spinneyref20_Same.bits6 (fun HT_ HW_ => ?_)
                    generalize wr.drew = w15 at HB HR101_0 HR101_2 HR102_0 HR102_2 HR104_0 HR104_2 HR105_0 HR105_2 hx101_0 hx101_1 hx101_2 hx101_3 hx102_0 hx102_1 hx102_2 hx102_3 hx104_0 hx104_1 hx104_2 hx104_3 hx105_0 hx105_1 hx105_2 hx105_3 hHeld ⊢
                    refine pure_ (i := 0) (N := some 16) (v := ?_) (a' := ?_) #[true, false, false, false, false, false, false, false, false, false, false, false, false, false, false, false, false, false, false, false, false, false, false, false, false, false] rfl rfl (any_of HT_.out (by kernel_rfl)) (fun _ _ _ h => h) (Or.inl ⟨by rfl, ?_⟩) ?_ ?_
                    rotate_left
                    · intro w'
                      go_simp
                      with_reducible rfl
                    rotate_left
                    · simp only [Act.put, List.setIfInBounds_toArray, List.set_cons_zero, List.set_cons_succ, i64_w, i32_w]
                      rfl
                    refine pure_ (i := 1) (N := some 17) (v := ?_) (a' := ?_) #[true, true, false, false, false, false, false, false, false, false, false, false, false, false, false, false, false, false, false, false, false, false, false, false, false, false] rfl rfl (any_of HT_.out (by kernel_rfl)) (fun _ _ _ h => h) (Or.inl ⟨by rfl, ?_⟩) ?_ ?_
                    rotate_left
                    · intro w'
                      go_simp
                      with_reducible rfl
                    rotate_left
                    · simp only [Act.put, List.setIfInBounds_toArray, List.set_cons_zero, List.set_cons_succ, i64_w, i32_w]
                      rfl
                    refine pure_ (i := 2) (N := some 18) (v := ?_) (a' := ?_) #[true, true, true, false, false, false, false, false, false, false, false, false, false, false, false, false, false, false, false, false, false, false, false, false, false, false] rfl rfl (any_of HT_.out (by kernel_rfl)) (fun _ _ _ h => h) (Or.inl ⟨by rfl, ?_⟩) ?_ ?_
                    rotate_left
                    · intro w'
                      go_simp
                      with_reducible rfl
                    rotate_left
                    · simp only [Act.put, List.setIfInBounds_toArray, List.set_cons_zero, List.set_cons_succ, i64_w, i32_w]
                      rfl
                    refine pure_ (i := 3) (N := some 19) (v := ?_) (a' := ?_) #[true, true, true, true, false, false, false, false, false, false, false, false, false, false, false, false, false, false, false, false, false, false, false, false, false, false] rfl rfl (any_of HT_.out (by kernel_rfl)) (fun _ _ _ h => h) (Or.inl ⟨by rfl, ?_⟩) ?_ ?_
                    rotate_left
                    · intro w'
                      go_simp
                      with_reducible rfl
                    rotate_left
                    · simp only [Act.put, List.setIfInBounds_toArray, List.set_cons_zero, List.set_cons_succ, i64_w, i32_w]
                      rfl
                    refine pure_ (i := 5) (N := some 21) (v := ?_) (a' := ?_) #[true, true, true, true, false, true, false, false, false, false, false, false, false, false, false, false, false, false, false, false, false, false, false, false, false, false] rfl rfl (any_of HT_.out (by kernel_rfl)) (fun _ _ _ h => h) (Or.inl ⟨by rfl, ?_⟩) ?_ ?_
                    rotate_left
                    · intro w'
                      go_simp
                      with_reducible rfl
                    rotate_left
                    · simp only [Act.put, List.setIfInBounds_toArray, List.set_cons_zero, List.set_cons_succ, i64_w, i32_w]
                      rfl
                    refine pure_ (i := 6) (N := some 22) (v := ?_) (a' := ?_) #[true, true, true, true, false, true, true, false, false, false, false, false, false, false, false, false, false, false, false, false, false, false, false, false, false, false] rfl rfl (any_of HT_.out (by kernel_rfl)) (fun _ _ _ h => h) (Or.inl ⟨by rfl, ?_⟩) ?_ ?_
                    rotate_left
                    · intro w'
                      go_simp
                      with_reducible rfl
                    rotate_left
                    · simp only [Act.put, List.setIfInBounds_toArray, List.set_cons_zero, List.set_cons_succ, i64_w, i32_w]
                      rfl
                    refine pure_ (i := 7) (N := some 23) (v := ?_) (a' := ?_) #[true, true, true, true, false, true, true, true, false, false, false, false, false, false, false, false, false, false, false, false, false, false, false, false, false, false] rfl rfl (any_of HT_.out (by kernel_rfl)) (fun _ _ _ h => h) (Or.inl ⟨by rfl, ?_⟩) ?_ ?_
                    rotate_left
                    · intro w'
                      go_simp
                      with_reducible rfl
                    rotate_left
                    · simp only [Act.put, List.setIfInBounds_toArray, List.set_cons_zero, List.set_cons_succ, i64_w, i32_w]
                      rfl
                    refine pure_ (i := 8) (N := some 24) (v := ?_) (a' := ?_) #[true, true, true, true, false, true, true, true, true, false, false, false, false, false, false, false, false, false, false, false, false, false, false, false, false, false] rfl rfl (any_of HT_.out (by kernel_rfl)) (fun _ _ _ h => h) (Or.inl ⟨by rfl, ?_⟩) ?_ ?_
                    rotate_left
                    · intro w'
                      go_simp
                      with_reducible rfl
                    rotate_left
                    · simp only [Act.put, List.setIfInBounds_toArray, List.set_cons_zero, List.set_cons_succ, i64_w, i32_w]
                      rfl
                    refine take_ (i := 4) (N := some 20) (v := ?_) (a' := ?_) #[true, true, true, true, true, true, true, true, true, false, false, false, false, false, false, false, false, false, false, false, false, false, false, false, false, false] rfl rfl (take_ofW HT_.out HW_.out (by kernel_rfl)) (fun _ _ _ h => h) (Or.inl ⟨by rfl, ?_⟩) hHeld ?_ ?_
                    rotate_left
                    · rintro w' ⟨s0, s1, s2, s3, s4, s5, s6, s7, s8, s9, s10, s11, s12, s13, s14, s15⟩
                      go_simp
                      with_reducible rfl
                    rotate_left
                    · simp only [Act.put, List.setIfInBounds_toArray, List.set_cons_zero, List.set_cons_succ, i64_w, i32_w]
                      rfl
                    refine take_ (i := 9) (N := some 25) (v := ?_) (a' := ?_) #[true, true, true, true, true, true, true, true, true, true, false, false, false, false, false, false, false, false, false, false, false, false, false, false, false, false] rfl rfl (take_ofW HT_.out HW_.out (by kernel_rfl)) (fun _ _ _ h => h) (Or.inl ⟨by rfl, ?_⟩) hHeld ?_ ?_
                    rotate_left
                    · rintro w' ⟨s0, s1, s2, s3, s4, s5, s6, s7, s8, s9, s10, s11, s12, s13, s14, s15⟩
                      go_simp
                      with_reducible rfl
                    rotate_left
                    · simp only [Act.put, List.setIfInBounds_toArray, List.set_cons_zero, List.set_cons_succ, i64_w, i32_w]
                      rfl
                    refine one_ (i := 10) (N := some 26) #[true, true, true, true, true, true, true, true, true, true, true, false, false, false, false, false, false, false, false, false, false, false, false, false, false, false] rfl rfl (one_of HT_.out (by kernel_rfl)) (by decide) (fun K hK => ?_)
                    refine goes_ Try.func13 (by kernel_rfl) rfl #[.slice A101_0 ((rd_T29 l0 x13_1).f0).length c101_0, .slice A102_0 ((rd_T29 l1 x13_1).f0).length c102_0] (by rfl) rfl rfl (by (try simp only [List.map_toArray, List.map_cons, List.map_nil]); first | done | rfl | (simp only [List.length_drop, List.length_take]; rfl)) ?_
                    with_reducible refine (spinneyref19_CompareW.calls _ _ ((rd_T29 l0 x13_1).f0) _ _ ((rd_T29 l1 x13_1).f0) t103 _ ?side1 ?side2 ?side3 ?side4 A8.out).mono ?_
                    (case side1 => repeat (first | exact (Kd.C_below HR101_0.out HB.out) | (with_reducible refine Kd.C_alloc ?_ _) | (with_reducible refine Kd.C_drewN ?_ _) | (with_reducible refine Kd.C_drew ?_)))
                    (case side2 => exact HC101_0.out)
                    (case side3 => repeat (first | exact (Kd.C_below HR102_0.out HB.out) | (with_reducible refine Kd.C_alloc ?_ _) | (with_reducible refine Kd.C_drewN ?_ _) | (with_reducible refine Kd.C_drew ?_)))
                    (case side4 => exact HC102_0.out)
                    rintro e w16 ⟨rfl, hb⟩
                    refine ⟨_, rfl, ?_⟩
                    have n0_ := Aside0.mk (below_step (by repeat (first | (with_reducible first | exact HB.out | apply below_alloc | apply pw_below_drewN | apply below_drew1) | exact HB.out)) hb)
                    clear HB
                    have HB := n0_
                    clear n0_
                    (try clear hb)
                    (try clear hb2)
                    (try clear hk)
                    (try clear hi)
                    refine hK.out _ _ ⟨((HB.out.cell (World.block_lt_of_cell? w _ hw101_0)).trans hw101_0), ((HB.out.cell (World.block_lt_of_cell? w _ hw101_1)).trans hw101_1), ((HB.out.cell (World.block_lt_of_cell? w _ hw101_2)).trans hw101_2), ((HB.out.cell (World.block_lt_of_cell? w _ hw101_3)).trans hw101_3), ((HB.out.cell (World.block_lt_of_cell? w _ hw102_0)).trans hw102_0), ((HB.out.cell (World.block_lt_of_cell? w _ hw102_1)).trans hw102_1), ((HB.out.cell (World.block_lt_of_cell? w _ hw102_2)).trans hw102_2), ((HB.out.cell (World.block_lt_of_cell? w _ hw102_3)).trans hw102_3), ((HB.out.cell (World.block_lt_of_cell? w _ hw104_0)).trans hw104_0), ((HB.out.cell (World.block_lt_of_cell? w _ hw104_1)).trans hw104_1), ((HB.out.cell (World.block_lt_of_cell? w _ hw104_2)).trans hw104_2), ((HB.out.cell (World.block_lt_of_cell? w _ hw104_3)).trans hw104_3), ((HB.out.cell (World.block_lt_of_cell? w _ hw105_0)).trans hw105_0), ((HB.out.cell (World.block_lt_of_cell? w _ hw105_1)).trans hw105_1), ((HB.out.cell (World.block_lt_of_cell? w _ hw105_2)).trans hw105_2), ((HB.out.cell (World.block_lt_of_cell? w _ hw105_3)).trans hw105_3)⟩ (fun hHeld => ?_)
                    clear hK K
                    refine norm_ (a' := ?_) ?_ ?_
                    rotate_left
                    · show Act.put _ (some 26) _ = _
                      simp only [Act.put, List.setIfInBounds_toArray, List.set_cons_zero, List.set_cons_succ, i64_w, i32_w]
                      rfl
                    refine pure_ (i := 11) (N := some 27) (v := ?_) (a' := ?_) #[true, true, true, true, true, true, true, true, true, true, true, true, false, false, false, false, false, false, false, false, false, false, false, false, false, false] rfl rfl (any_of HT_.out (by kernel_rfl)) (fun _ _ _ h => h) (Or.inl ⟨by rfl, ?_⟩) ?_ ?_
                    rotate_left
                    · intro w'
                      go_simp
                      with_reducible rfl
                    rotate_left
                    · simp only [Act.put, List.setIfInBounds_toArray, List.set_cons_zero, List.set_cons_succ, i64_w, i32_w]
                      rfl
                    refine pure_ (i := 12) (N := some 28) (v := ?_) (a' := ?_) #[true, true, true, true, true, true, true, true, true, true, true, true, true, false, false, false, false, false, false, false, false, false, false, false, false, false] rfl rfl (any_of HT_.out (by kernel_rfl)) (fun _ _ _ h => h) (Or.inl ⟨by rfl, ?_⟩) ?_ ?_
                    rotate_left
                    · intro w'
                      go_simp
                      with_reducible rfl
                    rotate_left
                    · simp only [Act.put, List.setIfInBounds_toArray, List.set_cons_zero, List.set_cons_succ, i64_w, i32_w]
                      rfl
                    refine pure_ (i := 13) (N := some 29) (v := ?_) (a' := ?_) #[true, true, true, true, true, true, true, true, true, true, true, true, true, true, false, false, false, false, false, false, false, false, false, false, false, false] rfl rfl (any_of HT_.out (by kernel_rfl)) (fun _ _ _ h => h) (Or.inl ⟨by rfl, ?_⟩) ?_ ?_
                    rotate_left
                    · intro w'
                      go_simp
                      with_reducible rfl
                    rotate_left
                    · simp only [Act.put, List.setIfInBounds_toArray, List.set_cons_zero, List.set_cons_succ, i64_w, i32_w]
                      rfl
                    refine pure_ (i := 14) (N := some 30) (v := ?_) (a' := ?_) #[true, true, true, true, true, true, true, true, true, true, true, true, true, true, true, false, false, false, false, false, false, false, false, false, false, false] rfl rfl (any_of HT_.out (by kernel_rfl)) (fun _ _ _ h => h) (Or.inl ⟨by rfl, ?_⟩) ?_ ?_
                    rotate_left
                    · intro w'
                      go_simp
                      with_reducible rfl
                    rotate_left
                    · simp only [Act.put, List.setIfInBounds_toArray, List.set_cons_zero, List.set_cons_succ, i64_w, i32_w]
                      rfl
                    refine pure_ (i := 15) (N := some 31) (v := ?_) (a' := ?_) #[true, true, true, true, true, true, true, true, true, true, true, true, true, true, true, true, false, false, false, false, false, false, false, false, false, false] rfl rfl (any_of HT_.out (by kernel_rfl)) (fun _ _ _ h => h) (Or.inl ⟨by rfl, ?_⟩) ?_ ?_
                    rotate_left
                    · intro w'
                      go_simp
                      with_reducible rfl
                    rotate_left
                    · simp only [Act.put, List.setIfInBounds_toArray, List.set_cons_zero, List.set_cons_succ, i64_w, i32_w]
                      rfl
                    refine pure_ (i := 16) (N := some 32) (v := ?_) (a' := ?_) #[true, true, true, true, true, true, true, true, true, true, true, true, true, true, true, true, true, false, false, false, false, false, false, false, false, false] rfl rfl (any_of HT_.out (by kernel_rfl)) (fun _ _ _ h => h) (Or.inl ⟨by rfl, ?_⟩) ?_ ?_
                    rotate_left
                    · intro w'
                      go_simp
                      with_reducible rfl
                    rotate_left
                    · simp only [Act.put, List.setIfInBounds_toArray, List.set_cons_zero, List.set_cons_succ, i64_w, i32_w]
                      rfl
                    refine pure_ (i := 18) (N := some 34) (v := ?_) (a' := ?_) #[true, true, true, true, true, true, true, true, true, true, true, true, true, true, true, true, true, false, true, false, false, false, false, false, false, false] rfl rfl (any_of HT_.out (by kernel_rfl)) (fun _ _ _ h => h) (Or.inl ⟨by rfl, ?_⟩) ?_ ?_
                    rotate_left
                    · intro w'
                      go_simp
                      with_reducible rfl
                    rotate_left
                    · simp only [Act.put, List.setIfInBounds_toArray, List.set_cons_zero, List.set_cons_succ, i64_w, i32_w]
                      rfl
                    refine pure_ (i := 19) (N := some 35) (v := ?_) (a' := ?_) #[true, true, true, true, true, true, true, true, true, true, true, true, true, true, true, true, true, false, true, true, false, false, false, false, false, false] rfl rfl (any_of HT_.out (by kernel_rfl)) (fun _ _ _ h => h) (Or.inl ⟨by rfl, ?_⟩) ?_ ?_
                    rotate_left
                    · intro w'
                      go_simp
                      with_reducible rfl
                    rotate_left
                    · simp only [Act.put, List.setIfInBounds_toArray, List.set_cons_zero, List.set_cons_succ, i64_w, i32_w]
                      rfl
                    refine pure_ (i := 20) (N := some 36) (v := ?_) (a' := ?_) #[true, true, true, true, true, true, true, true, true, true, true, true, true, true, true, true, true, false, true, true, true, false, false, false, false, false] rfl rfl (any_of HT_.out (by kernel_rfl)) (fun _ _ _ h => h) (Or.inl ⟨by rfl, ?_⟩) ?_ ?_
                    rotate_left
                    · intro w'
                      go_simp
                      with_reducible rfl
                    rotate_left
                    · simp only [Act.put, List.setIfInBounds_toArray, List.set_cons_zero, List.set_cons_succ, i64_w, i32_w]
                      rfl
                    refine pure_ (i := 21) (N := some 37) (v := ?_) (a' := ?_) #[true, true, true, true, true, true, true, true, true, true, true, true, true, true, true, true, true, false, true, true, true, true, false, false, false, false] rfl rfl (any_of HT_.out (by kernel_rfl)) (fun _ _ _ h => h) (Or.inl ⟨by rfl, ?_⟩) ?_ ?_
                    rotate_left
                    · intro w'
                      go_simp
                      with_reducible rfl
                    rotate_left
                    · simp only [Act.put, List.setIfInBounds_toArray, List.set_cons_zero, List.set_cons_succ, i64_w, i32_w]
                      rfl
                    refine take_ (i := 17) (N := some 33) (v := ?_) (a' := ?_) #[true, true, true, true, true, true, true, true, true, true, true, true, true, true, true, true, true, true, true, true, true, true, false, false, false, false] rfl rfl (take_ofW HT_.out HW_.out (by kernel_rfl)) (fun _ _ _ h => h) (Or.inl ⟨by rfl, ?_⟩) hHeld ?_ ?_
                    rotate_left
                    · rintro w' ⟨s0, s1, s2, s3, s4, s5, s6, s7, s8, s9, s10, s11, s12, s13, s14, s15⟩
                      go_simp
                      with_reducible rfl
                    rotate_left
                    · simp only [Act.put, List.setIfInBounds_toArray, List.set_cons_zero, List.set_cons_succ, i64_w, i32_w]
                      rfl
                    refine take_ (i := 22) (N := some 38) (v := ?_) (a' := ?_) #[true, true, true, true, true, true, true, true, true, true, true, true, true, true, true, true, true, true, true, true, true, true, true, false, false, false] rfl rfl (take_ofW HT_.out HW_.out (by kernel_rfl)) (fun _ _ _ h => h) (Or.inl ⟨by rfl, ?_⟩) hHeld ?_ ?_
                    rotate_left
                    · rintro w' ⟨s0, s1, s2, s3, s4, s5, s6, s7, s8, s9, s10, s11, s12, s13, s14, s15⟩
                      go_simp
                      with_reducible rfl
                    rotate_left
                    · simp only [Act.put, List.setIfInBounds_toArray, List.set_cons_zero, List.set_cons_succ, i64_w, i32_w]
                      rfl
                    refine one_ (i := 23) (N := some 39) #[true, true, true, true, true, true, true, true, true, true, true, true, true, true, true, true, true, true, true, true, true, true, true, true, false, false] rfl rfl (one_of HT_.out (by kernel_rfl)) (by decide) (fun K hK => ?_)
                    refine goes_ Try.func34 (by kernel_rfl) rfl #[.agg #[.int .i64 ((rd_T29 l0 x13_1).f1.f0), .slice A101_2 ((rd_T29 l0 x13_1).f1.f1).length c101_2, .int .i64 ((rd_T29 l0 x13_1).f1.f2)], .agg #[.int .i64 ((rd_T29 l1 x13_1).f1.f0), .slice A102_2 ((rd_T29 l1 x13_1).f1.f1).length c102_2, .int .i64 ((rd_T29 l1 x13_1).f1.f2)]] (by rfl) rfl rfl (by (try simp only [List.map_toArray, List.map_cons, List.map_nil]); first | done | rfl | (simp only [List.length_drop, List.length_take]; rfl)) ?_
                    with_reducible refine (spinneyref14_SameEvent.calls ((rd_T29 l0 x13_1).f1.f0) _ _ ((rd_T29 l0 x13_1).f1.f1) ((rd_T29 l0 x13_1).f1.f2) ((rd_T29 l1 x13_1).f1.f0) _ _ ((rd_T29 l1 x13_1).f1.f1) ((rd_T29 l1 x13_1).f1.f2) false _ ?side1 ?side2 ?side3 ?side4 A10.out).mono ?_
                    (case side1 => repeat (first | exact (Kd.C_below HR101_2.out HB.out) | (with_reducible refine Kd.C_alloc ?_ _) | (with_reducible refine Kd.C_drewN ?_ _) | (with_reducible refine Kd.C_drew ?_)))
                    (case side2 => exact HC101_2.out)
                    (case side3 => repeat (first | exact (Kd.C_below HR102_2.out HB.out) | (with_reducible refine Kd.C_alloc ?_ _) | (with_reducible refine Kd.C_drewN ?_ _) | (with_reducible refine Kd.C_drew ?_)))
                    (case side4 => exact HC102_2.out)
                    rintro e w17 ⟨rfl, hb⟩
                    refine ⟨_, rfl, ?_⟩
                    have n0_ := Aside0.mk (below_step (by repeat (first | (with_reducible first | exact HB.out | apply below_alloc | apply pw_below_drewN | apply below_drew1) | exact HB.out)) hb)
                    clear HB
                    have HB := n0_
                    clear n0_
                    (try clear hb)
                    (try clear hb2)
                    (try clear hk)
                    (try clear hi)
                    refine hK.out _ _ ⟨((HB.out.cell (World.block_lt_of_cell? w _ hw101_0)).trans hw101_0), ((HB.out.cell (World.block_lt_of_cell? w _ hw101_1)).trans hw101_1), ((HB.out.cell (World.block_lt_of_cell? w _ hw101_2)).trans hw101_2), ((HB.out.cell (World.block_lt_of_cell? w _ hw101_3)).trans hw101_3), ((HB.out.cell (World.block_lt_of_cell? w _ hw102_0)).trans hw102_0), ((HB.out.cell (World.block_lt_of_cell? w _ hw102_1)).trans hw102_1), ((HB.out.cell (World.block_lt_of_cell? w _ hw102_2)).trans hw102_2), ((HB.out.cell (World.block_lt_of_cell? w _ hw102_3)).trans hw102_3), ((HB.out.cell (World.block_lt_of_cell? w _ hw104_0)).trans hw104_0), ((HB.out.cell (World.block_lt_of_cell? w _ hw104_1)).trans hw104_1), ((HB.out.cell (World.block_lt_of_cell? w _ hw104_2)).trans hw104_2), ((HB.out.cell (World.block_lt_of_cell? w _ hw104_3)).trans hw104_3), ((HB.out.cell (World.block_lt_of_cell? w _ hw105_0)).trans hw105_0), ((HB.out.cell (World.block_lt_of_cell? w _ hw105_1)).trans hw105_1), ((HB.out.cell (World.block_lt_of_cell? w _ hw105_2)).trans hw105_2), ((HB.out.cell (World.block_lt_of_cell? w _ hw105_3)).trans hw105_3)⟩ (fun hHeld => ?_)
                    clear hK K
                    refine norm_ (a' := ?_) ?_ ?_
                    rotate_left
                    · show Act.put _ (some 39) _ = _
                      simp only [Act.put, List.setIfInBounds_toArray, List.set_cons_zero, List.set_cons_succ, i64_w, i32_w]
                      rfl
                    refine pure_ (i := 24) (N := some 40) (v := ?_) (a' := ?_) #[true, true, true, true, true, true, true, true, true, true, true, true, true, true, true, true, true, true, true, true, true, true, true, true, true, false] rfl rfl (any_of HT_.out (by kernel_rfl)) (fun _ _ _ h => h) (Or.inl ⟨by rfl, ?_⟩) ?_ ?_
                    rotate_left
                    · intro w'
                      go_simp
                      with_reducible rfl
                    rotate_left
                    · simp only [Act.put, List.setIfInBounds_toArray, List.set_cons_zero, List.set_cons_succ, i64_w, i32_w]
                      rfl
                    refine pure_ (i := 25) (N := some 41) (v := ?_) (a' := ?_) #[true, true, true, true, true, true, true, true, true, true, true, true, true, true, true, true, true, true, true, true, true, true, true, true, true, true] rfl rfl (any_of HT_.out (by kernel_rfl)) (fun _ _ _ h => h) (Or.inl ⟨by rfl, ?_⟩) ?_ ?_
                    rotate_left
                    · intro w'
                      go_simp
                      with_reducible rfl
                    rotate_left
                    · simp only [Act.put, List.setIfInBounds_toArray, List.set_cons_zero, List.set_cons_succ, i64_w, i32_w]
                      rfl
                    refine done_ (done_of HT_.out (by kernel_rfl)) ?_
                    try go_wp2
                    go_ret
                    exact ⟨by first | rfl | (simp [errW_none, errW_some] <;> rfl) | (simp [*, errW_none, errW_some] <;> rfl), by repeat (first | (with_reducible first | exact HB.out | apply below_alloc | apply pw_below_drewN | apply below_drew1) | exact HB.out)⟩
                · rw [if_neg c9] at H
                  have c9b0 : (t103 == 0) = false := beq_eq_false_iff_ne.mpr c9
                  have c9b1 : (t103 != 0) = true := bne_iff_ne.mpr c9
                  obtain rfl := Option.some.inj H
                  try go_wp2
                  have n0_ := Aside0.mk (below_drew1 HB.out)
                  clear HB
                  have HB := n0_
                  clear n0_
                  have p101 : 0 ≤ (x13_1 : Int) := of_decide_eq_true (by first | (with_reducible assumption) | assumption)
                  have q101 : x13_1 < (l0.length : Int) := of_decide_eq_true (by first | (with_reducible assumption) | assumption)
                  obtain ⟨ad101, A101_0, c101_0, A101_2, c101_2, e101, hx101_0, hx101_1, hx101_2, hx101_3, hl101_0, hi101_0, hl101_2, hi101_2⟩ := at_T29 HR0.out x13_1 p101 q101
                  have hw101_3 := hx101_3
                  have hw101_2 := hx101_2
                  have hw101_1 := hx101_1
                  have hw101_0 := hx101_0
                  cases e101
                  replace hx101_0 := (HB.out.cell (World.block_lt_of_cell? w _ hx101_0)).trans hx101_0
                  replace hx101_1 := (HB.out.cell (World.block_lt_of_cell? w _ hx101_1)).trans hx101_1
                  replace hx101_2 := (HB.out.cell (World.block_lt_of_cell? w _ hx101_2)).trans hx101_2
                  replace hx101_3 := (HB.out.cell (World.block_lt_of_cell? w _ hx101_3)).trans hx101_3
                  have HR101_0 := Aside0.mk hi101_0
                  have HC101_0 := Aside0.mk hl101_0
                  clear hi101_0 hl101_0
                  have HR101_2 := Aside0.mk hi101_2
                  have HC101_2 := Aside0.mk hl101_2
                  clear hi101_2 hl101_2
                  replace p101 := eq_true p101
                  replace q101 := eq_true q101
                  have p102 : 0 ≤ (x13_1 : Int) := of_decide_eq_true (by first | (with_reducible assumption) | assumption)
                  have q102 : x13_1 < (l1.length : Int) := of_decide_eq_true (by first | (with_reducible assumption) | assumption)
                  obtain ⟨ad102, A102_0, c102_0, A102_2, c102_2, e102, hx102_0, hx102_1, hx102_2, hx102_3, hl102_0, hi102_0, hl102_2, hi102_2⟩ := at_T29 HR1.out x13_1 p102 q102
                  have hw102_3 := hx102_3
                  have hw102_2 := hx102_2
                  have hw102_1 := hx102_1
                  have hw102_0 := hx102_0
                  cases e102
                  replace hx102_0 := (HB.out.cell (World.block_lt_of_cell? w _ hx102_0)).trans hx102_0
                  replace hx102_1 := (HB.out.cell (World.block_lt_of_cell? w _ hx102_1)).trans hx102_1
                  replace hx102_2 := (HB.out.cell (World.block_lt_of_cell? w _ hx102_2)).trans hx102_2
                  replace hx102_3 := (HB.out.cell (World.block_lt_of_cell? w _ hx102_3)).trans hx102_3
                  have HR102_0 := Aside0.mk hi102_0
                  have HC102_0 := Aside0.mk hl102_0
                  clear hi102_0 hl102_0
                  have HR102_2 := Aside0.mk hi102_2
                  have HC102_2 := Aside0.mk hl102_2
                  clear hi102_2 hl102_2
                  replace p102 := eq_true p102
                  replace q102 := eq_true q102
                  refine start_ (n := 26) (S := fun w' => w'.cell? (ad101.add ((x13_1).toNat * 4)) = some (.slice A101_0 ((rd_T29 l0 x13_1).f0).length c101_0) ∧ w'.cell? ⟨(ad101.add ((x13_1).toNat * 4)).block, (ad101.add ((x13_1).toNat * 4)).off + 1, none⟩ = some (.int .i64 ((rd_T29 l0 x13_1).f1.f0)) ∧ w'.cell? ⟨(ad101.add ((x13_1).toNat * 4)).block, (ad101.add ((x13_1).toNat * 4)).off + 2, none⟩ = some (.slice A101_2 ((rd_T29 l0 x13_1).f1.f1).length c101_2) ∧ w'.cell? ⟨(ad101.add ((x13_1).toNat * 4)).block, (ad101.add ((x13_1).toNat * 4)).off + 3, none⟩ = some (.int .i64 ((rd_T29 l0 x13_1).f1.f2)) ∧ w'.cell? (ad102.add ((x13_1).toNat * 4)) = some (.slice A102_0 ((rd_T29 l1 x13_1).f0).length c102_0) ∧ w'.cell? ⟨(ad102.add ((x13_1).toNat * 4)).block, (ad102.add ((x13_1).toNat * 4)).off + 1, none⟩ = some (.int .i64 ((rd_T29 l1 x13_1).f1.f0)) ∧ w'.cell? ⟨(ad102.add ((x13_1).toNat * 4)).block, (ad102.add ((x13_1).toNat * 4)).off + 2, none⟩ = some (.slice A102_2 ((rd_T29 l1 x13_1).f1.f1).length c102_2) ∧ w'.cell? ⟨(ad102.add ((x13_1).toNat * 4)).block, (ad102.add ((x13_1).toNat * 4)).off + 3, none⟩ = some (.int .i64 ((rd_T29 l1 x13_1).f1.f2))) (ds := []) #[false, false, false, false, false, false, false, false, false, false, false, false, false, false, false, false, false, false, false, false, false, false, false, false, false, false] (by kernel_rfl) rfl rfl ⟨((HB.out.cell (World.block_lt_of_cell? w _ hw101_0)).trans hw101_0), ((HB.out.cell (World.block_lt_of_cell? w _ hw101_1)).trans hw101_1), ((HB.out.cell (World.block_lt_of_cell? w _ hw101_2)).trans hw101_2), ((HB.out.cell (World.block_lt_of_cell? w _ hw101_3)).trans hw101_3), ((HB.out.cell (World.block_lt_of_cell? w _ hw102_0)).trans hw102_0), ((HB.out.cell (World.block_lt_of_cell? w _ hw102_1)).trans hw102_1), ((HB.out.cell (World.block_lt_of_cell? w _ hw102_2)).trans hw102_2), ((HB.out.cell (World.block_lt_of_cell? w _ hw102_3)).trans hw102_3)⟩ (fun hHeld => ?_); refine with_tabW spinneyref20_Same.tab6 spinneyref20_Same.bits6 (fun HT_ HW_ => ?_)
                  generalize wr.drew = w18 at HB HR101_0 HR101_2 HR102_0 HR102_2 hx101_0 hx101_1 hx101_2 hx101_3 hx102_0 hx102_1 hx102_2 hx102_3 hHeld ⊢
                  refine pure_ (i := 0) (N := some 16) (v := ?_) (a' := ?_) #[true, false, false, false, false, false, false, false, false, false, false, false, false, false, false, false, false, false, false, false, false, false, false, false, false, false] rfl rfl (any_of HT_.out (by kernel_rfl)) (fun _ _ _ h => h) (Or.inl ⟨by rfl, ?_⟩) ?_ ?_
                  rotate_left
                  · intro w'
                    go_simp
                    with_reducible rfl
                  rotate_left
                  · simp only [Act.put, List.setIfInBounds_toArray, List.set_cons_zero, List.set_cons_succ, i64_w, i32_w]
                    rfl
                  refine pure_ (i := 1) (N := some 17) (v := ?_) (a' := ?_) #[true, true, false, false, false, false, false, false, false, false, false, false, false, false, false, false, false, false, false, false, false, false, false, false, false, false] rfl rfl (any_of HT_.out (by kernel_rfl)) (fun _ _ _ h => h) (Or.inl ⟨by rfl, ?_⟩) ?_ ?_
                  rotate_left
                  · intro w'
                    go_simp
                    with_reducible rfl
                  rotate_left
                  · simp only [Act.put, List.setIfInBounds_toArray, List.set_cons_zero, List.set_cons_succ, i64_w, i32_w]
                    rfl
                  refine pure_ (i := 2) (N := some 18) (v := ?_) (a' := ?_) #[true, true, true, false, false, false, false, false, false, false, false, false, false, false, false, false, false, false, false, false, false, false, false, false, false, false] rfl rfl (any_of HT_.out (by kernel_rfl)) (fun _ _ _ h => h) (Or.inl ⟨by rfl, ?_⟩) ?_ ?_
                  rotate_left
                  · intro w'
                    go_simp
                    with_reducible rfl
                  rotate_left
                  · simp only [Act.put, List.setIfInBounds_toArray, List.set_cons_zero, List.set_cons_succ, i64_w, i32_w]
                    rfl
                  refine pure_ (i := 3) (N := some 19) (v := ?_) (a' := ?_) #[true, true, true, true, false, false, false, false, false, false, false, false, false, false, false, false, false, false, false, false, false, false, false, false, false, false] rfl rfl (any_of HT_.out (by kernel_rfl)) (fun _ _ _ h => h) (Or.inl ⟨by rfl, ?_⟩) ?_ ?_
                  rotate_left
                  · intro w'
                    go_simp
                    with_reducible rfl
                  rotate_left
                  · simp only [Act.put, List.setIfInBounds_toArray, List.set_cons_zero, List.set_cons_succ, i64_w, i32_w]
                    rfl
                  refine pure_ (i := 5) (N := some 21) (v := ?_) (a' := ?_) #[true, true, true, true, false, true, false, false, false, false, false, false, false, false, false, false, false, false, false, false, false, false, false, false, false, false] rfl rfl (any_of HT_.out (by kernel_rfl)) (fun _ _ _ h => h) (Or.inl ⟨by rfl, ?_⟩) ?_ ?_
                  rotate_left
                  · intro w'
                    go_simp
                    with_reducible rfl
                  rotate_left
                  · simp only [Act.put, List.setIfInBounds_toArray, List.set_cons_zero, List.set_cons_succ, i64_w, i32_w]
                    rfl
                  refine pure_ (i := 6) (N := some 22) (v := ?_) (a' := ?_) #[true, true, true, true, false, true, true, false, false, false, false, false, false, false, false, false, false, false, false, false, false, false, false, false, false, false] rfl rfl (any_of HT_.out (by kernel_rfl)) (fun _ _ _ h => h) (Or.inl ⟨by rfl, ?_⟩) ?_ ?_
                  rotate_left
                  · intro w'
                    go_simp
                    with_reducible rfl
                  rotate_left
                  · simp only [Act.put, List.setIfInBounds_toArray, List.set_cons_zero, List.set_cons_succ, i64_w, i32_w]
                    rfl
                  refine pure_ (i := 7) (N := some 23) (v := ?_) (a' := ?_) #[true, true, true, true, false, true, true, true, false, false, false, false, false, false, false, false, false, false, false, false, false, false, false, false, false, false] rfl rfl (any_of HT_.out (by kernel_rfl)) (fun _ _ _ h => h) (Or.inl ⟨by rfl, ?_⟩) ?_ ?_
                  rotate_left
                  · intro w'
                    go_simp
                    with_reducible rfl
                  rotate_left
                  · simp only [Act.put, List.setIfInBounds_toArray, List.set_cons_zero, List.set_cons_succ, i64_w, i32_w]
                    rfl
                  refine pure_ (i := 8) (N := some 24) (v := ?_) (a' := ?_) #[true, true, true, true, false, true, true, true, true, false, false, false, false, false, false, false, false, false, false, false, false, false, false, false, false, false] rfl rfl (any_of HT_.out (by kernel_rfl)) (fun _ _ _ h => h) (Or.inl ⟨by rfl, ?_⟩) ?_ ?_
                  rotate_left
                  · intro w'
                    go_simp
                    with_reducible rfl
                  rotate_left
                  · simp only [Act.put, List.setIfInBounds_toArray, List.set_cons_zero, List.set_cons_succ, i64_w, i32_w]
                    rfl
                  refine take_ (i := 4) (N := some 20) (v := ?_) (a' := ?_) #[true, true, true, true, true, true, true, true, true, false, false, false, false, false, false, false, false, false, false, false, false, false, false, false, false, false] rfl rfl (take_ofW HT_.out HW_.out (by kernel_rfl)) (fun _ _ _ h => h) (Or.inl ⟨by rfl, ?_⟩) hHeld ?_ ?_
                  rotate_left
                  · rintro w' ⟨s0, s1, s2, s3, s4, s5, s6, s7⟩
                    go_simp
                    with_reducible rfl
                  rotate_left
                  · simp only [Act.put, List.setIfInBounds_toArray, List.set_cons_zero, List.set_cons_succ, i64_w, i32_w]
                    rfl
                  refine take_ (i := 9) (N := some 25) (v := ?_) (a' := ?_) #[true, true, true, true, true, true, true, true, true, true, false, false, false, false, false, false, false, false, false, false, false, false, false, false, false, false] rfl rfl (take_ofW HT_.out HW_.out (by kernel_rfl)) (fun _ _ _ h => h) (Or.inl ⟨by rfl, ?_⟩) hHeld ?_ ?_
                  rotate_left
                  · rintro w' ⟨s0, s1, s2, s3, s4, s5, s6, s7⟩
                    go_simp
                    with_reducible rfl
                  rotate_left
                  · simp only [Act.put, List.setIfInBounds_toArray, List.set_cons_zero, List.set_cons_succ, i64_w, i32_w]
                    rfl
                  refine one_ (i := 10) (N := some 26) #[true, true, true, true, true, true, true, true, true, true, true, false, false, false, false, false, false, false, false, false, false, false, false, false, false, false] rfl rfl (one_of HT_.out (by kernel_rfl)) (by decide) (fun K hK => ?_)
                  refine goes_ Try.func13 (by kernel_rfl) rfl #[.slice A101_0 ((rd_T29 l0 x13_1).f0).length c101_0, .slice A102_0 ((rd_T29 l1 x13_1).f0).length c102_0] (by rfl) rfl rfl (by (try simp only [List.map_toArray, List.map_cons, List.map_nil]); first | done | rfl | (simp only [List.length_drop, List.length_take]; rfl)) ?_
                  with_reducible refine (spinneyref19_CompareW.calls _ _ ((rd_T29 l0 x13_1).f0) _ _ ((rd_T29 l1 x13_1).f0) t103 _ ?side1 ?side2 ?side3 ?side4 A8.out).mono ?_
                  (case side1 => repeat (first | exact (Kd.C_below HR101_0.out HB.out) | (with_reducible refine Kd.C_alloc ?_ _) | (with_reducible refine Kd.C_drewN ?_ _) | (with_reducible refine Kd.C_drew ?_)))
                  (case side2 => exact HC101_0.out)
                  (case side3 => repeat (first | exact (Kd.C_below HR102_0.out HB.out) | (with_reducible refine Kd.C_alloc ?_ _) | (with_reducible refine Kd.C_drewN ?_ _) | (with_reducible refine Kd.C_drew ?_)))
                  (case side4 => exact HC102_0.out)
                  rintro e w19 ⟨rfl, hb⟩
                  refine ⟨_, rfl, ?_⟩
                  have n0_ := Aside0.mk (below_step (by repeat (first | (with_reducible first | exact HB.out | apply below_alloc | apply pw_below_drewN | apply below_drew1) | exact HB.out)) hb)
                  clear HB
                  have HB := n0_
                  clear n0_
                  (try clear hb)
                  (try clear hb2)
                  (try clear hk)
                  (try clear hi)
                  refine hK.out _ _ ⟨((HB.out.cell (World.block_lt_of_cell? w _ hw101_0)).trans hw101_0), ((HB.out.cell (World.block_lt_of_cell? w _ hw101_1)).trans hw101_1), ((HB.out.cell (World.block_lt_of_cell? w _ hw101_2)).trans hw101_2), ((HB.out.cell (World.block_lt_of_cell? w _ hw101_3)).trans hw101_3), ((HB.out.cell (World.block_lt_of_cell? w _ hw102_0)).trans hw102_0), ((HB.out.cell (World.block_lt_of_cell? w _ hw102_1)).trans hw102_1), ((HB.out.cell (World.block_lt_of_cell? w _ hw102_2)).trans hw102_2), ((HB.out.cell (World.block_lt_of_cell? w _ hw102_3)).trans hw102_3)⟩ (fun hHeld => ?_)
                  clear hK K
                  refine norm_ (a' := ?_) ?_ ?_
                  rotate_left
                  · show Act.put _ (some 26) _ = _
                    simp only [Act.put, List.setIfInBounds_toArray, List.set_cons_zero, List.set_cons_succ, i64_w, i32_w]
                    rfl
                  refine pure_ (i := 11) (N := some 27) (v := ?_) (a' := ?_) #[true, true, true, true, true, true, true, true, true, true, true, true, false, false, false, false, false, false, false, false, false, false, false, false, false, false] rfl rfl (any_of HT_.out (by kernel_rfl)) (fun _ _ _ h => h) (Or.inl ⟨by rfl, ?_⟩) ?_ ?_
                  rotate_left
                  · intro w'
                    go_simp
                    with_reducible rfl
                  rotate_left
                  · simp only [Act.put, List.setIfInBounds_toArray, List.set_cons_zero, List.set_cons_succ, i64_w, i32_w]
                    rfl
                  refine pure_ (i := 12) (N := some 28) (v := ?_) (a' := ?_) #[true, true, true, true, true, true, true, true, true, true, true, true, true, false, false, false, false, false, false, false, false, false, false, false, false, false] rfl rfl (any_of HT_.out (by kernel_rfl)) (fun _ _ _ h => h) (Or.inl ⟨by rfl, ?_⟩) ?_ ?_
                  rotate_left
                  · intro w'
                    go_simp
                    with_reducible rfl
                  rotate_left
                  · simp only [Act.put, List.setIfInBounds_toArray, List.set_cons_zero, List.set_cons_succ, i64_w, i32_w]
                    rfl
                  refine pure_ (i := 13) (N := some 29) (v := undef) (a' := ?_) #[true, true, true, true, true, true, true, true, true, true, true, true, true, true, false, false, false, false, false, false, false, false, false, false, false, false] rfl rfl (any_of HT_.out (by kernel_rfl)) (fun _ _ _ h => h) (Or.inr ⟨by rfl, rfl⟩) ?_ ?_
                  rotate_left
                  · simp only [Act.put, List.setIfInBounds_toArray, List.set_cons_zero, List.set_cons_succ, i64_w, i32_w]
                    rfl
                  refine pure_ (i := 14) (N := some 30) (v := undef) (a' := ?_) #[true, true, true, true, true, true, true, true, true, true, true, true, true, true, true, false, false, false, false, false, false, false, false, false, false, false] rfl rfl (any_of HT_.out (by kernel_rfl)) (fun _ _ _ h => h) (Or.inr ⟨by rfl, rfl⟩) ?_ ?_
                  rotate_left
                  · simp only [Act.put, List.setIfInBounds_toArray, List.set_cons_zero, List.set_cons_succ, i64_w, i32_w]
                    rfl
                  refine pure_ (i := 15) (N := some 31) (v := undef) (a' := ?_) #[true, true, true, true, true, true, true, true, true, true, true, true, true, true, true, true, false, false, false, false, false, false, false, false, false, false] rfl rfl (any_of HT_.out (by kernel_rfl)) (fun _ _ _ h => h) (Or.inr ⟨by rfl, rfl⟩) ?_ ?_
                  rotate_left
                  · simp only [Act.put, List.setIfInBounds_toArray, List.set_cons_zero, List.set_cons_succ, i64_w, i32_w]
                    rfl
                  refine pure_ (i := 16) (N := some 32) (v := undef) (a' := ?_) #[true, true, true, true, true, true, true, true, true, true, true, true, true, true, true, true, true, false, false, false, false, false, false, false, false, false] rfl rfl (any_of HT_.out (by kernel_rfl)) (fun _ _ _ h => h) (Or.inr ⟨by rfl, rfl⟩) ?_ ?_
                  rotate_left
                  · simp only [Act.put, List.setIfInBounds_toArray, List.set_cons_zero, List.set_cons_succ, i64_w, i32_w]
                    rfl
                  refine pure_ (i := 17) (N := some 33) (v := undef) (a' := ?_) #[true, true, true, true, true, true, true, true, true, true, true, true, true, true, true, true, true, true, false, false, false, false, false, false, false, false] rfl rfl (any_of HT_.out (by kernel_rfl)) (fun _ _ _ h => h) (Or.inr ⟨by rfl, rfl⟩) ?_ ?_
                  rotate_left
                  · simp only [Act.put, List.setIfInBounds_toArray, List.set_cons_zero, List.set_cons_succ, i64_w, i32_w]
                    rfl
                  refine pure_ (i := 18) (N := some 34) (v := undef) (a' := ?_) #[true, true, true, true, true, true, true, true, true, true, true, true, true, true, true, true, true, true, true, false, false, false, false, false, false, false] rfl rfl (any_of HT_.out (by kernel_rfl)) (fun _ _ _ h => h) (Or.inr ⟨by rfl, rfl⟩) ?_ ?_
                  rotate_left
                  · simp only [Act.put, List.setIfInBounds_toArray, List.set_cons_zero, List.set_cons_succ, i64_w, i32_w]
                    rfl
                  refine pure_ (i := 19) (N := some 35) (v := undef) (a' := ?_) #[true, true, true, true, true, true, true, true, true, true, true, true, true, true, true, true, true, true, true, true, false, false, false, false, false, false] rfl rfl (any_of HT_.out (by kernel_rfl)) (fun _ _ _ h => h) (Or.inr ⟨by rfl, rfl⟩) ?_ ?_
                  rotate_left
                  · simp only [Act.put, List.setIfInBounds_toArray, List.set_cons_zero, List.set_cons_succ, i64_w, i32_w]
                    rfl
                  refine pure_ (i := 20) (N := some 36) (v := undef) (a' := ?_) #[true, true, true, true, true, true, true, true, true, true, true, true, true, true, true, true, true, true, true, true, true, false, false, false, false, false] rfl rfl (any_of HT_.out (by kernel_rfl)) (fun _ _ _ h => h) (Or.inr ⟨by rfl, rfl⟩) ?_ ?_
                  rotate_left
                  · simp only [Act.put, List.setIfInBounds_toArray, List.set_cons_zero, List.set_cons_succ, i64_w, i32_w]
                    rfl
                  refine pure_ (i := 21) (N := some 37) (v := undef) (a' := ?_) #[true, true, true, true, true, true, true, true, true, true, true, true, true, true, true, true, true, true, true, true, true, true, false, false, false, false] rfl rfl (any_of HT_.out (by kernel_rfl)) (fun _ _ _ h => h) (Or.inr ⟨by rfl, rfl⟩) ?_ ?_
                  rotate_left
                  · simp only [Act.put, List.setIfInBounds_toArray, List.set_cons_zero, List.set_cons_succ, i64_w, i32_w]
                    rfl
                  refine pure_ (i := 22) (N := some 38) (v := undef) (a' := ?_) #[true, true, true, true, true, true, true, true, true, true, true, true, true, true, true, true, true, true, true, true, true, true, true, false, false, false] rfl rfl (any_of HT_.out (by kernel_rfl)) (fun _ _ _ h => h) (Or.inr ⟨by rfl, rfl⟩) ?_ ?_
                  rotate_left
                  · simp only [Act.put, List.setIfInBounds_toArray, List.set_cons_zero, List.set_cons_succ, i64_w, i32_w]
                    rfl
                  refine pure_ (i := 23) (N := some 39) (v := undef) (a' := ?_) #[true, true, true, true, true, true, true, true, true, true, true, true, true, true, true, true, true, true, true, true, true, true, true, true, false, false] rfl rfl (any_of HT_.out (by kernel_rfl)) (fun _ _ _ h => h) (Or.inr ⟨by rfl, rfl⟩) ?_ ?_
                  rotate_left
                  · simp only [Act.put, List.setIfInBounds_toArray, List.set_cons_zero, List.set_cons_succ, i64_w, i32_w]
                    rfl
                  refine pure_ (i := 24) (N := some 40) (v := undef) (a' := ?_) #[true, true, true, true, true, true, true, true, true, true, true, true, true, true, true, true, true, true, true, true, true, true, true, true, true, false] rfl rfl (any_of HT_.out (by kernel_rfl)) (fun _ _ _ h => h) (Or.inr ⟨by rfl, rfl⟩) ?_ ?_
                  rotate_left
                  · simp only [Act.put, List.setIfInBounds_toArray, List.set_cons_zero, List.set_cons_succ, i64_w, i32_w]
                    rfl
                  refine pure_ (i := 25) (N := some 41) (v := ?_) (a' := ?_) #[true, true, true, true, true, true, true, true, true, true, true, true, true, true, true, true, true, true, true, true, true, true, true, true, true, true] rfl rfl (any_of HT_.out (by kernel_rfl)) (fun _ _ _ h => h) (Or.inl ⟨by rfl, ?_⟩) ?_ ?_
                  rotate_left
                  · intro w'
                    go_simp
                    with_reducible rfl
                  rotate_left
                  · simp only [Act.put, List.setIfInBounds_toArray, List.set_cons_zero, List.set_cons_succ, i64_w, i32_w]
                    rfl
                  refine done_ (done_of HT_.out (by kernel_rfl)) ?_
                  try go_wp2
                  go_ret
                  exact ⟨by first | rfl | (simp [errW_none, errW_some] <;> rfl) | (simp [*, errW_none, errW_some] <;> rfl), by repeat (first | (with_reducible first | exact HB.out | apply below_alloc | apply pw_below_drewN | apply below_drew1) | exact HB.out)⟩
              · rw [if_neg c7] at H
                exact absurd H (by simp)
            · rw [if_neg c6] at H
              exact absurd H (by simp)
          · rw [if_neg c5] at H
            exact absurd H (by simp)
        · rw [if_neg c4] at H
          have c4b0 : decide (x13_1 < (l0.length : Int)) = false := decide_eq_false c4
          clear c4
          obtain rfl := Option.some.inj H
          go_wp2
          go_ret
          exact ⟨by first | rfl | (simp [errW_none, errW_some] <;> rfl) | (simp [*, errW_none, errW_some] <;> rfl), by repeat (first | (with_reducible first | exact HB.out | apply below_alloc | apply pw_below_drewN | apply below_drew1) | exact HB.out)⟩
  · rw [if_neg c3] at H
    have c3b0 : ((l0.length : Int) == (l1.length : Int)) = false := beq_eq_false_iff_ne.mpr c3
    have c3b1 : ((l0.length : Int) != (l1.length : Int)) = true := bne_iff_ne.mpr c3
    have c3b2 : (l0.length == l1.length) = false := by first | simpa using c3 | (simp at c3 ⊢; omega)
    obtain rfl := Option.some.inj H
    go_enter Try.func11, Try.ntmps11
    go_wp2
    go_ret
    exact ⟨by first | rfl | (simp [errW_none, errW_some] <;> rfl) | (simp [*, errW_none, errW_some] <;> rfl), by repeat (first | (with_reducible first | exact HB.out | apply below_alloc | apply pw_below_drewN | apply below_drew1) | exact HB.out)⟩

end Go.Proofs.Ytlapiebnmbbemaa.A
end
section
/- The contract of slices.Clone at api.Entry, in the print's words. -/
namespace Go.Proofs.Ytlapiebnmbbemaa.A
open Go.RowKit Go.Lib Go.Proofs.YtlapiebnmbbemaaW.PrintWords Go.Proofs.YtlapiebnmbbemaaW.PrintLast Go.Proofs.YtlapiebnmbbemaaW.PrintMore

theorem nil_of_reads {α : Type} {d : Kd α} {W : World} {n : Nat} {xs : List α} (h : d.C W none n xs) : xs = [] := by
  rcases Nat.eq_zero_or_pos n with h0 | h0
  · exact List.eq_nil_of_length_eq_zero (h.1.trans h0)
  · obtain ⟨ad, h2, _⟩ := h.2.2 h0
    cases h2

set_option maxHeartbeats 1000000 in
set_option maxRecDepth 100000 in
theorem clone_entry (P0 : Nat → Prop) (A : Option Addr) (c : Nat) (l : List S29) (w : World)
    (hs : Kd.V k29 29 w w.heap.size P0 (.slice A l.length c) l) (hl : l.length ≤ 1000000000) :
    Calls Try.prog 31 #[.slice A l.length c] w fun e w' => ∃ v, e = .returned v ∧
      Kd.N k29 29 w' w.heap.size (fun k => P0 k ∨ w.heap.size ≤ k) v l ∧ Below w.heap.size w w' := by
  have HS := Aside0.mk hs
  clear hs
  have hnil : ∀ (W : World) (a : Option Addr) (n c : Nat), (binOp .eql 22 (.slice a n c) (.slice none 0 0)).run Try.prog W = .ok (.bool a.isNone) W := fun W a n c => Lib.run_eql_slice_nil W 22 29 a n c _ _ Try.underlying22
  have HB := Aside0.mk (Below.refl w.heap.size w)
  cases A with
  | none =>
    obtain rfl : l = [] := nil_of_reads (Kd.V_reads' HS.out).2.2
    go_enter Try.func31, Try.ntmps31
    go_wp2
    go_ret
    exact ⟨_, rfl, Kd.N_nil _ _ _ _ _, Below.refl _ _⟩
  | some ad =>
    go_enter Try.func31, Try.ntmps31
    go_wp2_with (first
      | ((with_reducible refine gate_dst (N := 5) rfl ?_); refine Kd.N_lit k29 _ 29 ?hg (N' := 5) ?hd (xs := ([] : List S29)) (inner := []) (ok := fun k => P0 k ∨ w.heap.size ≤ k) (okp := fun _ => False) ?hr (Reps.none _ _) (fun _ hk => hk.elim) (.inr (Nat.le_refl _)) (Below.refl _ _) (Nat.le_refl _) (by simp) ?_; (case hd => rfl); (case hg => rfl); (case hr => first | (go_simp; done) | (go_simp; rfl)); intro v1 w1 HO hb hg hat; have HO1 := Aside0.mk HO; have HB1 := Aside0.mk hb; have HT1 := Aside0.mk hat; clear HO hb hg hat)
      | (at_builtin; refine Kd.N_append_rows k29 (w0 := w) w.heap.size rfl (.tmp 5) (.tmp 6) 22 29 (.agg #[(.slice none 0 0), (.int .i64 0), (.slice none 0 0), (.int .i64 0)]) 64 rfl Try.underlying22 info29 rfl (by decide) (by omega) v1 [] l (some ad) l.length c (fun k => P0 k ∨ w.heap.size ≤ k) (fun k => P0 k ∧ k < w.heap.size) rfl rfl ?aO ?aR ?aK ?aF ?aB ?aS ?aL ?_; (case aO => exact HO1.out); (case aR => exact Kd.V_F (Kd.V_old HS.out HB1.out)); (case aK => rintro k ⟨h1, h2⟩; obtain ⟨b, hb1, hb2⟩ := HT1.out; exact ⟨.inl h1, by rw [hb1]; intro e; injection e with e; omega⟩); (case aF => intro k hk; have := below_size HB1.out; exact .inr (by omega)); (case aB => exact HB1.out); (case aS => exact below_size HB1.out); (case aL => simp; omega); intro v2 w2 HO hb hg hat; have HO2 := Aside0.mk HO; have HB2 := Aside0.mk hb; clear HO hb hg hat))
    go_ret
    exact ⟨_, rfl, HO2.out, HB2.out⟩
end Go.Proofs.Ytlapiebnmbbemaa.A
end
section
/- Words of my own beside the print's: a row of one's own as its block's cells and back; copy and clear at elements of any size; operations whose run is known as an equation. -/
namespace Go.Proofs.Ytlapiebnmbbemaa.A
open Go.RowKit Go.Proofs.YtlapiebnmbbemaaW.PrintWords Go.Proofs.YtlapiebnmbbemaaW.PrintLast Go.Proofs.YtlapiebnmbbemaaW.PrintMore

section
variable {α : Type} {d : Kd α} {e base g n cap : Nat} {w : World} {ok : Nat → Prop} {xs : List α}

/-- A row of one's own, laid open: its block's cells. -/
theorem N_cells (h : Kd.N d e w base ok (.slice (some ⟨g, 0, none⟩) n cap) xs) :
    ∃ cur : List Value, w.heap[g]? = some (.cells cur.toArray e (0, 0)) ∧ cur.length = cap * d.sz ∧ n ≤ cap ∧ cap ≤ maxLen ∧ base ≤ g ∧ ok g ∧ xs.length = n ∧
      ∀ j x, xs[j]? = some x → Kd.FK d w (fun k => ok k ∧ k ≠ g) x ((cur.drop (j * d.sz)).take d.sz) := by
  obtain ⟨h0, rows, hl, ⟨_, inner, hown, hrep⟩, hf⟩ := h
  have hob : (Value.slice (some ⟨g, 0, none⟩) n cap).ownBlock = some g := rfl
  rcases hown.2 with ⟨he, _⟩ | ⟨g', cap', cur, he, hb, hh, h1, h2, h3, h4⟩
  · cases he
  · injection he with ha hn hc
    injection ha with ha
    injection ha with ha
    subst ha; subst hc
    have h3' : cur.size = cap * d.sz := h3
    refine ⟨cur.toList, by simpa using hh, by simpa using h3', by omega, h2, hb, h0 _ hob, by omega, fun j x hx => ?_⟩
    have hj : j < rows.length := by rw [hl]; exact (List.getElem?_eq_some_iff.1 hx).1
    have hr := hrep.2 j _ (List.getElem?_eq_getElem hj)
    have hr1 : rows[j] = (inner.drop (j * d.sz)).take d.sz := hr.1.symm
    have hfk := hf j x _ hx (List.getElem?_eq_getElem hj)
    rw [hr1, ← h4] at hfk
    have hle : j * d.sz + d.sz ≤ rows.length * d.sz := by rw [← Nat.succ_mul]; exact Nat.mul_le_mul_right _ hj
    have e1 : ((cur.toList.take (rows.length * d.sz)).drop (j * d.sz)).take d.sz = (cur.toList.drop (j * d.sz)).take d.sz := by
      apply List.ext_getElem?
      intro q
      simp only [List.getElem?_take, List.getElem?_drop]
      split
      · rw [if_pos (by omega)]
      · rfl
    have hfk2 : Kd.FK d w (fun k => ok k ∧ some k ≠ (Value.slice (some ⟨g, 0, none⟩) n cap).ownBlock) x ((cur.toList.drop (j * d.sz)).take d.sz) := by
      rw [← e1]; exact hfk
    exact Kd.FK_mono hfk2 (fun k hk => ⟨hk.1, fun hkg => hk.2 (by rw [hkg]; rfl)⟩)
/-- .. and put together. -/
theorem N_mk {cur : List Value} (hg : w.heap[g]? = some (.cells cur.toArray e (0, 0))) (hc : cur.length = cap * d.sz) (hn : n ≤ cap) (hm : cap ≤ maxLen) (hb : base ≤ g) (hok : ok g) (hx : xs.length = n)
    (hf : ∀ j x, xs[j]? = some x → Kd.FK d w (fun k => ok k ∧ k ≠ g) x ((cur.drop (j * d.sz)).take d.sz)) : Kd.N d e w base ok (.slice (some ⟨g, 0, none⟩) n cap) xs := by
  have hob : (Value.slice (some ⟨g, 0, none⟩) n cap).ownBlock = some g := rfl
  have hle : n * d.sz ≤ cap * d.sz := Nat.mul_le_mul_right _ hn
  refine ⟨fun k hk => by rw [hob] at hk; injection hk with hk; rw [← hk]; exact hok, Kd.chunks d.sz n (cur.take (n * d.sz)), by rw [Kd.chunks_length, hx], ⟨fun k hk => hk.symm, cur.take (n * d.sz), ?_, ?_⟩, fun j x c hj hc2 => ?_⟩
  · rw [Kd.chunks_length]
    exact ⟨by rw [List.length_take, hc]; show min (n * d.sz) (cap * d.sz) = n * d.sz; omega, .inr ⟨g, cap, cur.toArray, rfl, hb, hg, hn, hm, (show cur.toArray.size = cap * d.sz by simpa using hc), by simp; rfl⟩⟩
  · refine Kd.reps_raw (Rr := fun (x : α) c => Kd.FK d w (fun k => ok k ∧ k ≠ g) x c) (xs := xs) (sz := d.sz) (inner := cur.take (n * d.sz)) ?_ (fun x c hk => ⟨d.K_len (Kd.FK_now hk), d.K_one (Kd.FK_now hk)⟩) |> (hx ▸ ·)
    refine ⟨by rw [List.length_take, hc, hx]; omega, fun j x hj => ?_⟩
    have hjl : j < n := by rw [← hx]; exact (List.getElem?_eq_some_iff.1 hj).1
    have hle2 : j * d.sz + d.sz ≤ n * d.sz := by rw [← Nat.succ_mul]; exact Nat.mul_le_mul_right _ hjl
    have e1 : ((cur.take (n * d.sz)).drop (j * d.sz)).take d.sz = (cur.drop (j * d.sz)).take d.sz := by
      apply List.ext_getElem?
      intro q
      simp only [List.getElem?_take, List.getElem?_drop]
      split
      · rw [if_pos (by omega)]
      · rfl
    rw [e1]
    exact hf j x hj
  · have hjl : j < n := by rw [← hx]; exact (List.getElem?_eq_some_iff.1 hj).1
    have hle2 : j * d.sz + d.sz ≤ n * d.sz := by rw [← Nat.succ_mul]; exact Nat.mul_le_mul_right _ hjl
    rw [Kd.chunks_get hc2]
    have e1 : ((cur.take (n * d.sz)).drop (j * d.sz)).take d.sz = (cur.drop (j * d.sz)).take d.sz := by
      apply List.ext_getElem?
      intro q
      simp only [List.getElem?_take, List.getElem?_drop]
      split
      · rw [if_pos (by omega)]
      · rfl
    rw [e1]
    exact Kd.FK_mono (hf j x hj) (fun k hk => ⟨hk.1, fun he => by rw [hob] at he; injection he with he; exact hk.2 he⟩)
/-- Cells behind the first m elements are written; the first m stay. -/
theorem N_cut (h : Kd.N d e w base ok (.slice (some ⟨g, 0, none⟩) n cap) xs) {m : Nat} (hm : m ≤ n) (zs : List Value) (hz : m * d.sz + zs.length ≤ cap * d.sz) :
    Kd.N d e (w.setCells g (m * d.sz) zs) base ok (.slice (some ⟨g, 0, none⟩) m cap) (xs.take m) := by
  obtain ⟨cur, hblk, hcl, hnc, hcm, hb, hokg, hxl, hfk⟩ := N_cells h
  obtain ⟨cur', h3, h4, h5⟩ := setCells_row zs (m * d.sz) w cur.toArray hblk (by simpa [hcl] using hz)
  refine N_mk (cur := cur'.toList) (by simpa using h3) (by simpa [hcl] using h4) (by omega) hcm hb hokg (by rw [List.length_take]; omega) (fun j x hj => ?_)
  rw [List.getElem?_take] at hj
  split at hj
  · rename_i hjm
    have hle : j * d.sz + d.sz ≤ m * d.sz := by rw [← Nat.succ_mul]; exact Nat.mul_le_mul_right _ hjm
    have e1 : (cur'.toList.drop (j * d.sz)).take d.sz = (cur.drop (j * d.sz)).take d.sz := by
      rw [h5]
      apply List.ext_getElem?
      intro q
      simp only [List.getElem?_take, List.getElem?_drop]
      split
      · rw [List.append_assoc, List.getElem?_append_left (by simp; omega), List.getElem?_take, if_pos (by omega)]
      · rfl
    rw [e1]
    exact Kd.FK_step (hfk j x hj) (fun k hk _ => setCells_far zs _ k hk.2)
  · cases hj
theorem below_setCells {w0 : World} {B : Nat} (h : Below B w0 w) (hg : B ≤ g) (o : Nat) (zs : List Value) : Below B w0 (w.setCells g o zs) := by
  obtain ⟨s1, s2, s3, s4⟩ := setCells_same g zs o w
  exact h.trans ⟨s1, s2, s3, by rw [s4]; exact Nat.le_refl _, fun k hk => setCells_far zs _ k (by omega)⟩
end

section
variable {P : Program}
/-- copy at elements of sz cells. -/
theorem run_copyN (w : World) (dT sT ty elem : TypeId) (sz b o dLen dCap : Nat) (a : Addr) (sLen sCap : Nat) (cs : List Value)
    (hu : P.underlying dT = some (.slice elem)) (hs : (P.info? elem).map (·.size) = some sz) (hn : cs.length = Nat.min sLen dLen * sz)
    (hsrc : ∀ j v, cs[j]? = some v → w.cell? (a.add j) = some v) (hc : ∀ j, j < cs.length → (w.cell? ⟨b, o + j, none⟩).isSome = true) (hf : ∀ j, j < cs.length → w.frozen? ⟨b, o + j, none⟩ = false) (h1 : ∀ v ∈ cs, v.oneCell' = true) :
    (Builtin.copy_ #[dT, sT] ty #[.slice (some ⟨b, o, none⟩) dLen dCap, .slice (some a) sLen sCap]).run P w = .ok (goInt (Nat.min sLen dLen)) (w.setCells b o cs) := by
  have hl := run_loadCells_list (P := P) w a cs hsrc
  have hst := run_storeCells_cells (P := P) b o cs 0 w (by simpa using hc) (by simpa using hf) h1
  cases hq : P.info? elem with
  | none => simp [hq] at hs
  | some i =>
    have hi : i.size = sz := by simpa [hq] using hs
    simp [Builtin.copy_, run_underlying hu, Builtin.lenOf, Builtin.firstCells, sizeOf, typeInfo, hq, hi, ← hn, hl, hst]
/-- clear at elements of any size. -/
theorem run_clearN (w : World) (t e ty : TypeId) (z : Value) (ht : P.underlying t = some (.slice e)) (hv : ∀ w, (zeroValue e).run P w = .ok z w) (h1 : ∀ u ∈ z.cells.toList, u.oneCell' = true) (b o n c : Nat)
    (hc : ∀ j, j < n * z.cells.size → (w.cell? ⟨b, o + j, none⟩).isSome = true) (hf : ∀ j, j < n * z.cells.size → w.frozen? ⟨b, o + j, none⟩ = false) :
    (Builtin.clear_ #[t] ty #[.slice (some ⟨b, o, none⟩) n c]).run P w = .ok (.tuple #[]) (w.setCells b o (Builtin.zeroCells z.cells n).toList) := by
  have hlen : (Builtin.zeroCells z.cells n).toList.length = n * z.cells.size := by rw [Array.length_toList, size_zeroCells]
  have hz1 : ∀ v ∈ (Builtin.zeroCells z.cells n).toList, v.oneCell' = true := by
    intro v hv'
    obtain ⟨q, hq, rfl⟩ := List.mem_iff_getElem.1 hv'
    have hq2 : q < n * z.cells.size := by rwa [hlen] at hq
    have hz0 : 0 < z.cells.size := by
      rcases Nat.eq_zero_or_pos z.cells.size with h | h
      · rw [h, Nat.mul_zero] at hq2; omega
      · exact h
    simp only [Builtin.zeroCells, Array.getElem_toList]
    refine h1 _ ?_
    have hmod := Nat.mod_lt q hz0
    first
      | exact Array.getElem_mem_toList hmod
      | (rw [Array.getD_eq_getD_getElem?, Array.getElem?_eq_getElem hmod]; simp)
      | simp [hmod]
  have hst := run_storeCells_cells (P := P) b o (Builtin.zeroCells z.cells n).toList 0 w (by rw [hlen]; simpa using hc) (by rw [hlen]; simpa using hf) hz1
  simp only [Nat.add_zero] at hst
  cases n with
  | zero =>
    have h0 : (Builtin.zeroCells z.cells 0).toList = [] := List.eq_nil_of_length_eq_zero (by rw [hlen]; simp)
    rw [h0]
    simp [Builtin.clear_, run_underlying ht, World.setCells]
  | succ n => simp [Builtin.clear_, run_underlying ht, hv, hst]

section
variable {w : World} {ops : Array Oper} {rest : List Oper} {o : Oper} {a : Act} {Q : Exit → Act → World → Prop} {K : Act → World → Prop} {E : Prop}
/-- copy, its run known as an equation. -/
theorem wpList_copy_eq (hgd : o.guard = none) (d s : Operand) (t t' : TypeId)
    (ho : o.op = .call { callee := .builtin .copy, args := #[d, s], argTypes := #[t, t'] }) (v u : Value) (hd : a.eval d = v) (hs : a.eval s = u) {v' : Value} {w' : World}
    (hr : (Builtin.copy_ #[t, t'] o.type #[v, u]).run P w = .ok v' w') (h : wpList P ops Q rest (a.put o.dst v') w') : wpList P ops Q (o :: rest) a w := by
  refine wpList_plain hgd fun K hK => ?_
  unfold Oper.wp
  simp [execOp, ho, resolve, invoke, builtin, hd, hs, hr, Result.andThen]
  exact hK _ _ h
theorem step_copy_eq (hg : o.guard = none) (d x : Operand) (dT sT : TypeId) (hop : o.op = Op.call { callee := Callee.builtin Builtin.copy, args := #[d, x], argTypes := #[dT, sT] })
    (v u : Value) (hd : a.eval d = v) (hx : a.eval x = u) {v' : Value} {w' : World} (hr : (Builtin.copy_ #[dT, sT] o.type #[v, u]).run P w = .ok v' w') (hK : K (a.put o.dst v') w') :
    if Region.wanted o (yielded ops a.tmps) = true then Oper.wp P o a w K Q else E := by
  have hw : Region.wanted o (yielded ops a.tmps) = true := by simp [Region.wanted, hg]
  rw [if_pos hw]
  unfold Oper.wp
  simp [execOp, hop, resolve, invoke, builtin, hd, hx, hr, Result.andThen]
  exact hK
theorem wpList_clear_eq (hgd : o.guard = none) (d : Operand) (t : TypeId)
    (ho : o.op = .call { callee := .builtin .clear, args := #[d], argTypes := #[t] }) (v : Value) (hd : a.eval d = v) {v' : Value} {w' : World}
    (hr : (Builtin.clear_ #[t] o.type #[v]).run P w = .ok v' w') (h : wpList P ops Q rest (a.put o.dst v') w') : wpList P ops Q (o :: rest) a w := by
  refine wpList_plain hgd fun K hK => ?_
  unfold Oper.wp
  simp [execOp, ho, resolve, invoke, builtin, hd, hr, Result.andThen]
  exact hK _ _ h
end
end
end Go.Proofs.Ytlapiebnmbbemaa.A
end
section
/- The contracts of log.Drop and log.Put, in the print's words: what a cut leaves of a log; an entry laid down. -/
namespace Go.Proofs.Ytlapiebnmbbemaa.A
open Go.RowKit Go.Lib Go.Proofs.YtlapiebnmbbemaaW.PrintWords Go.Proofs.YtlapiebnmbbemaaW.PrintLast Go.Proofs.YtlapiebnmbbemaaW.PrintMore

set_option maxHeartbeats 1000000 in
set_option maxRecDepth 100000 in
/-- What Drop hands to DeleteFunc. -/
theorem drop_pred (b1 b2 : Nat) (A1 : Option Addr) (c1 : Nat) (by_ : List Int) (depth : Int) (x : S29) (cs : List Value) (W : World) (hx : k29.K W x cs)
    (h1 : W.cell? ⟨b1, 0, none⟩ = some (.slice A1 by_.length c1)) (h2 : W.cell? ⟨b2, 0, none⟩ = some (.int .i64 depth)) (hr : Kd.C (Kd.int .i64) W A1 by_.length by_) (hc : by_.length ≤ c1) :
    Calls Try.prog 32 #[.agg cs.toArray, .pointer (some ⟨b1, 0, none⟩), .pointer (some ⟨b2, 0, none⟩)] W fun e w' => e = .returned (.bool (prunedL x.f0 by_ depth)) ∧ Below W.heap.size W w' := by
  obtain ⟨A0, c0, A2, c2, rfl, l0, g0, l2, g2⟩ := k29_open hx
  have HG := Aside0.mk g0
  have HR := Aside0.mk hr
  clear hx g0 g2 hr
  go_enter Try.func32, Try.ntmps32
  go_wp2_with (first
    | ((with_reducible refine gate_dst (N := 3) rfl ?_); refine box_event ?hg (N := 3) ?hd (cs := #[.slice A0 x.f0.length c0, .int .i64 x.f1.f0, .slice A2 x.f1.f1.length c2, .int .i64 x.f1.f2]) (t := 29) ?hr ?_; (case hd => rfl); (case hg => rfl); (case hr => first | (go_simp; done) | (go_simp; rfl)); intro gb hgb w1 hbox hb; have k0 : w1.cell? ⟨gb, 0, none⟩ = some (.slice A0 x.f0.length c0) := (blk_cell hbox 0).trans rfl; have k1 := pw_cell_below hb h1; have k2 := pw_cell_below hb h2; have HB1 := Aside0.mk hb; clear hb hbox hgb h1 h2)
    | (go_at_call 33; refine (label_PrunedW.calls _ _ _ _ _ _ _ _ _ ?q1 l0 ?q2 hc rfl).mono ?_; (case q1 => exact Kd.C_below HG.out HB1.out); (case q2 => exact Kd.C_below HR.out HB1.out); rintro e w' ⟨rfl, hb⟩; have HB := Aside0.mk hb; clear hb))
  go_ret
  exact ⟨rfl, below_step HB1.out HB.out⟩

/-- The first place of which p holds. -/
def firstAt {α : Type} (p : α → Bool) : List α → Option Nat
  | [] => none
  | x :: xs => if p x then some 0 else (firstAt p xs).map (· + 1)
theorem firstAt_some {α : Type} (p : α → Bool) (z : α) : ∀ (l : List α) (k : Nat), k < l.length → (∀ j, j < k → p (l.getD j z) = false) → p (l.getD k z) = true → firstAt p l = some k
  | [], k, h, _, _ => by simp at h
  | x :: xs, 0, _, _, h => by simp at h; simp [firstAt, h]
  | x :: xs, k + 1, h1, h2, h3 => by
    have h0 := h2 0 (by omega)
    simp at h0
    simp only [firstAt, h0, Bool.false_eq_true, if_false]
    rw [firstAt_some p z xs k (by simpa using h1) (fun j hj => by have := h2 (j + 1) (by omega); simpa using this) (by simpa using h3)]
    rfl
theorem firstAt_none {α : Type} (p : α → Bool) (z : α) : ∀ (l : List α), (∀ j, j < l.length → p (l.getD j z) = false) → firstAt p l = none
  | [], _ => rfl
  | x :: xs, h => by
    have h0 := h 0 (by simp)
    simp at h0
    simp only [firstAt, h0, Bool.false_eq_true, if_false]
    rw [firstAt_none p z xs (fun j hj => by have := h (j + 1) (by simpa using hj); simpa using this)]
    rfl
def atOr (o : Option Nat) : Int := match o with | some k => k | none => -1

set_option maxHeartbeats 2000000 in
set_option maxRecDepth 100000 in
/-- slices.IndexFunc, the predicate met by a contract. -/
theorem index_drop (b1 b2 : Nat) (p : S29 → Bool) (A : Option Addr) (c : Nat) (l : List S29) (w : World) (hl : Kd.C k29 w A l.length l)
    (hP : ∀ W x cs, Below w.heap.size w W → k29.K W x cs → Calls Try.prog 32 #[.agg cs.toArray, .pointer (some ⟨b1, 0, none⟩), .pointer (some ⟨b2, 0, none⟩)] W fun e w' => e = .returned (.bool (p x)) ∧ Below W.heap.size W w') :
    Calls Try.prog 41 #[.slice A l.length c, .func (.func 32) #[] #[.pointer (some ⟨b1, 0, none⟩), .pointer (some ⟨b2, 0, none⟩)]] w fun e w' =>
      e = .returned (.int .i64 (atOr (firstAt p l))) ∧ Below w.heap.size w w' := by
  have HL := Aside0.mk hl
  have HP := Aside0.mk hP
  have hm : l.length ≤ 9223372036854775807 := hl.2.1
  clear hl hP
  have hu := Try.underlying29
  go_enter Try.func41, Try.ntmps41
  go_wp2
  go_loopw [8] (fun v8 wr => ∃ i : Int, v8 = .int .i64 i ∧ 0 ≤ i ∧ i ≤ l.length ∧ Aside0 (∀ j : Nat, (j : Int) < i → p (l.getD j z29) = false) ∧ Aside0 (Below w.heap.size w wr)) (fun v8 _ => l.length - (Go.RowKit.intOf v8).toNat)
  case atStart => exact ⟨0, rfl, Int.le_refl _, by omega, ⟨fun j hj => by omega⟩, ⟨Below.refl _ _⟩⟩
  case round =>
    obtain ⟨i, rfl, h0, hk, HF, HB⟩ := hrel
    by_cases hlt : i < l.length
    · obtain ⟨ad, A0, c0, A2, c2, rfl, x0, x1, x2, x3, l0, g0, l2, g2⟩ := at_T29 (Kd.C_below HL.out HB.out) i h0 hlt
      have HK := Aside0.mk (k29_mk wr (rd_T29 l i) l0 g0 l2 g2)
      clear l0 g0 l2 g2
      go_wp2_with fail
      refine (HP.out wr (rd_T29 l i) _ HB.out HK.out).mono ?_
      rintro e w' ⟨rfl, hb⟩
      have HB2 := Aside0.mk (below_step HB.out hb)
      clear hb
      cases hp : p (rd_T29 l i) with
      | true =>
        have HR := Aside0.mk (firstAt_some p z29 l i.toNat (by omega) (fun j hj => HF.out j (by omega)) hp)
        clear hp
        go_wp2
        go_ret
        exact ⟨by rw [HR.out]; simp [atOr]; omega, HB2.out⟩
      | false =>
        have HR := Aside0.mk hp
        clear hp
        go_wp2
        go_roundw
        case rel => exact ⟨i + 1, rfl, by omega, by omega, ⟨fun j hj => by
          by_cases hji : (j : Int) < i
          · exact HF.out j hji
          · obtain rfl : j = i.toNat := by omega
            exact HR.out⟩, HB2⟩
        case measure => simp [Go.RowKit.intOf]; omega
    · go_wp2
      go_ret
      exact ⟨by rw [firstAt_none p z29 l (fun j hj => HF.out j (by omega))]; rfl, HB.out⟩
/-- What is kept so far, and what has not been looked at. -/
def keptL {α : Type} (p : α → Bool) (l : List α) (j : Nat) : List α := (l.take j).filter (fun x => !p x)
theorem keptL_len {α : Type} (p : α → Bool) (l : List α) (j : Nat) : (keptL p l j).length ≤ j ∧ (keptL p l j).length ≤ l.length := by
  have h := List.length_filter_le (fun x => !p x) (l.take j)
  rw [List.length_take] at h
  unfold keptL
  omega
theorem keptL_snoc {α : Type} (p : α → Bool) (l : List α) (j : Nat) (h : j < l.length) : keptL p l (j + 1) = keptL p l j ++ (if p l[j] then [] else [l[j]]) := by
  unfold keptL
  rw [List.take_succ_eq_append_getElem h, List.filter_append]
  cases hh : p l[j] <;> simp [hh]
theorem keptL_at {α : Type} (p : α → Bool) (l : List α) (j i : Nat) (h : j < l.length) (hi : (keptL p l j).length = i) : (keptL p l j ++ l.drop i)[j]? = some l[j] := by
  have := keptL_len p l j
  rw [List.getElem?_append_right (by omega), List.getElem?_drop, hi, show i + (j - i) = j by omega, List.getElem?_eq_getElem h]
theorem keptL_set {α : Type} (p : α → Bool) (l : List α) (j i : Nat) (h : j < l.length) (hi : (keptL p l j).length = i) (hp : p l[j] = false) : (keptL p l j ++ l.drop i).set i l[j] = keptL p l (j + 1) ++ l.drop (i + 1) := by
  have := keptL_len p l j
  rw [keptL_snoc p l j h, hp, List.set_append_right _ _ (by omega), hi, Nat.sub_self, List.drop_eq_getElem_cons (show i < l.length by omega), List.set_cons_zero]
  simp
theorem keptL_first {α : Type} (p : α → Bool) (z : α) (l : List α) (k : Nat) (hk : k < l.length) (h : ∀ j, j < k → p (l.getD j z) = false) (h2 : p l[k] = true) : keptL p l (k + 1) = l.take k := by
  rw [keptL_snoc p l k hk, h2]
  unfold keptL
  simp only [if_true, List.append_nil]
  rw [List.filter_eq_self.2]
  intro x hx
  obtain ⟨j, hj, rfl⟩ := List.mem_iff_getElem.1 hx
  rw [List.length_take] at hj
  have h3 := h j (by omega)
  rw [List.getD_eq_getElem?_getD, List.getElem?_eq_getElem (by omega)] at h3
  simp only [List.getElem_take]
  simpa using h3
theorem firstAt_eq {α : Type} (p : α → Bool) (z : α) : ∀ (l : List α), match firstAt p l with
    | none => l.filter (fun x => !p x) = l
    | some k => k < l.length ∧ p (l.getD k z) = true ∧ ∀ j, j < k → p (l.getD j z) = false
  | [] => rfl
  | x :: xs => by
    have ih := firstAt_eq p z xs
    simp only [firstAt]
    cases hx : p x with
    | true => simp [hx]
    | false =>
      simp only [Bool.false_eq_true, if_false]
      cases hf : firstAt p xs with
      | none => rw [hf] at ih; simp [hx, ih]
      | some k =>
        rw [hf] at ih
        obtain ⟨h1, h2, h3⟩ := ih
        refine ⟨by simp; omega, by simpa using h2, fun j hj => ?_⟩
        cases j with
        | zero => simpa using hx
        | succ j =>
          have hj' : j + 1 < k + 1 := hj
          simpa using h3 j (by omega)

set_option maxHeartbeats 4000000 in
set_option maxRecDepth 100000 in
/-- slices.DeleteFunc on a row of one's own, the predicate met by a contract. -/
theorem delete_drop (b1 b2 : Nat) (p : S29 → Bool) (base : Nat) (ok : Nat → Prop) (vs : Value) (l : List S29) (w0 w : World) (hN : Kd.N k29 29 w base ok vs l) (hB : Below base w0 w) (hbase : base ≤ w.heap.size)
    (hP : ∀ W x cs, Kept w W (fun k => vs.ownBlock = some k) → k29.K W x cs → Calls Try.prog 32 #[.agg cs.toArray, .pointer (some ⟨b1, 0, none⟩), .pointer (some ⟨b2, 0, none⟩)] W fun e w' => e = .returned (.bool (p x)) ∧ Below W.heap.size W w') :
    Calls Try.prog 30 #[vs, .func (.func 32) #[] #[.pointer (some ⟨b1, 0, none⟩), .pointer (some ⟨b2, 0, none⟩)]] w fun e w' =>
      ∃ v', e = .returned v' ∧ Kd.N k29 29 w' base ok v' (l.filter (fun x => !p x)) ∧ Below base w0 w' := by
  obtain ⟨A, c, rfl⟩ := Kd.N_slice hN
  have HN := Aside0.mk hN
  have HP := Aside0.mk hP
  have HB := Aside0.mk hB
  have hm : l.length ≤ 9223372036854775807 := (Kd.N_reads' hN).2.2.2.1
  clear hN hP hB
  have HF := Aside0.mk (firstAt_eq p z29 l)
  have hu := Try.underlying29
  go_enter Try.func30, Try.ntmps30
  go_wp2_with fail
  refine (index_drop b1 b2 p A c l w (Kd.N_reads' HN.out).2.2 (fun W x cs hb hK => HP.out W x cs (Kept.of_below hb _) hK)).mono ?_
  rintro e w1 ⟨rfl, hb⟩
  have HB1 := Aside0.mk hb
  clear hb
  cases hf : firstAt p l with
  | none =>
    have h2 := HF.out
    rw [hf] at h2
    have H2 := Aside0.mk h2
    clear hf h2
    simp only [atOr]
    go_wp2
    go_ret
    refine ⟨_, rfl, ?_, ?_⟩
    · rw [H2.out]; exact Kd.N_below HN.out HB1.out
    · exact below_then HB.out hbase HB1.out
  | some k =>
    have h2 := HF.out
    rw [hf] at h2
    obtain ⟨hk, hp, hq⟩ := h2
    clear hf
    have H3 := Aside0.mk hp
    have H4 := Aside0.mk hq
    clear hp hq
    simp only [atOr]
    cases A with
    | none => exact absurd hk (by rw [nil_of_reads (Kd.N_reads' HN.out).2.2]; simp)
    | some ad =>
    obtain ⟨g, cap, he, hbg, _⟩ := Kd.N_form HN.out (by omega)
    injection he with he1 _ he3
    injection he1 with he1
    subst he1; subst he3
    have hnc : l.length ≤ c := (Kd.N_reads' HN.out).2.1
    have HA := Aside0.mk hbase
    clear hbase
    go_wp2
    go_loopw [5, 6] (fun v5 v6 wr => ∃ i j : Int, v5 = .int .i64 i ∧ v6 = .int .i64 j ∧ 0 ≤ i ∧ i < j ∧ j ≤ l.length ∧ Aside0 (((keptL p l j.toNat).length : Int) = i) ∧
      Aside0 (Kd.N k29 29 wr base ok (.slice (some ⟨g, 0, none⟩) l.length c) (keptL p l j.toNat ++ l.drop i.toNat)) ∧ Aside0 (Below base w0 wr) ∧ Aside0 (Kept w wr (fun k => (Value.slice (some ⟨g, 0, none⟩) l.length c).ownBlock = some k)) ∧ Aside0 (base ≤ wr.heap.size))
      (fun _ v6 _ => l.length - (Go.RowKit.intOf v6).toNat)
    case atStart =>
      have hkt : keptL p l (k + 1) = l.take k := keptL_first p z29 l k hk H4.out (by have := H3.out; rwa [List.getD_eq_getElem?_getD, List.getElem?_eq_getElem hk] at this)
      refine ⟨k, (k : Int) + 1, rfl, by go_num, by omega, by omega, by omega, ⟨?_⟩, ⟨?_⟩, ⟨below_then HB.out HA.out HB1.out⟩, ⟨Kept.of_below HB1.out _⟩, ⟨Nat.le_trans HA.out HB1.out.size⟩⟩
      · rw [show ((k : Int) + 1).toNat = k + 1 by omega, hkt, List.length_take]; omega
      · rw [show ((k : Int) + 1).toNat = k + 1 by omega, hkt, Int.toNat_natCast, List.take_append_drop]
        exact Kd.N_below HN.out HB1.out
    case round =>
      obtain ⟨i, j, rfl, rfl, h0, hij, hj, HI, HN2, HB2, HK2, HA2⟩ := hrel
      by_cases hlt : j < l.length
      · have hjl : j.toNat < l.length := by omega
        obtain ⟨cs, hcl, hFK, hcc, hfz⟩ := Kd.N_elem HN2.out z29 j (by omega) hlt
        have hel : (keptL p l j.toNat ++ l.drop i.toNat).getD j.toNat z29 = l[j.toNat] := by
          rw [List.getD_eq_getElem?_getD, keptL_at p l j.toNat i.toNat hjl (by have := HI.out; omega)]; rfl
        rw [hel] at hFK
        obtain ⟨x, hx⟩ : ∃ x, l[j.toNat] = x := ⟨_, rfl⟩
        rw [hx] at hFK
        have HX := Aside0.mk hx
        clear hx hel
        obtain ⟨A0, c0, A2, c2, rfl, l0, g0, l2, g2⟩ := k29_openF hFK
        have HFK := Aside0.mk hFK
        have x0 : wr.cell? ⟨g, j.toNat * 4, none⟩ = _ := hcc 0 _ rfl
        have x1 : wr.cell? ⟨g, j.toNat * 4 + 1, none⟩ = _ := hcc 1 _ rfl
        have x2 : wr.cell? ⟨g, j.toNat * 4 + 2, none⟩ = _ := hcc 2 _ rfl
        have x3 : wr.cell? ⟨g, j.toNat * 4 + 3, none⟩ = _ := hcc 3 _ rfl
        have HCC := Aside0.mk hcc
        clear hcc hfz hFK l0 g0 l2 g2 hcl
        go_wp2_with fail
        refine (HP.out (wr.alloc _) x _ (Kept.alloc HK2.out _) (Kd.FK_now (Kd.FK_below HFK.out (below_alloc (Below.refl _ _) _)))).mono ?_
        rintro e w2 ⟨rfl, hb⟩
        have HB3 := Aside0.mk (below_step (below_alloc (Below.refl wr.heap.size wr) _) hb)
        have k0 := pw_cell_below hb (blk_cell (blk_new wr _) 0)
        have k1 := pw_cell_below hb (blk_cell (blk_new wr _) 1)
        have k2 := pw_cell_below hb (blk_cell (blk_new wr _) 2)
        have k3 := pw_cell_below hb (blk_cell (blk_new wr _) 3)
        clear hb x0 x1 x2 x3
        obtain ⟨gv, hgv⟩ : ∃ gv, gv = wr.heap.size := ⟨_, rfl⟩
        rw [← hgv] at k0 k1 k2 k3 ⊢
        clear hgv
        have HN3 := Aside0.mk (Kd.N_below HN2.out HB3.out)
        have HFK3 := Aside0.mk (Kd.FK_below HFK.out HB3.out)
        have HB4 := Aside0.mk (below_then HB2.out HA2.out HB3.out)
        have HK4 := Aside0.mk (Kept.below HK2.out HB3.out)
        have HA4 := Aside0.mk (Nat.le_trans HA2.out HB3.out.size)
        clear HN2 HFK HB2 HK2 HA2 HB3 HCC
        cases hp : p x with
        | true =>
          have HR := Aside0.mk hp
          clear hp
          go_wp2
          go_roundw
          case rel =>
            have e1 : (j + 1).toNat = j.toNat + 1 := by omega
            have e2 : keptL p l (j.toNat + 1) = keptL p l j.toNat := by rw [keptL_snoc p l j.toNat hjl, HX.out, HR.out]; simp
            exact ⟨i, j + 1, rfl, rfl, h0, by omega, by omega, ⟨by rw [e1, e2]; exact HI.out⟩, ⟨by rw [e1, e2]; exact HN3.out⟩, HB4, HK4, HA4⟩
          case measure => simp [Go.RowKit.intOf]; omega
        | false =>
          have HR := Aside0.mk hp
          clear hp
          obtain ⟨ci, hci, _, hcc, _⟩ := Kd.N_elem HN3.out z29 i h0 (by omega)
          have HC := Aside0.mk hcc
          have HCL := Aside0.mk hci
          clear hcc hci
          go_wp2_with ((with_reducible refine gate_store (t := 29) (p := 33) rfl ?_); go_must (refine Kd.N_store k29 (w0 := w0) base rfl rfl 29 (.tmp 33) (.tmp 32) rfl 29 (o' := i.toNat * 4) i 0 (keptL p l j.toNat ++ l.drop i.toNat) x (.agg #[.slice A0 x.f0.length c0, .int .i64 x.f1.f0, .slice A2 x.f1.f1.length c2, .int .i64 x.f1.f2]) [.slice A0 x.f0.length c0, .int .i64 x.f1.f0, .slice A2 x.f1.f1.length c2, .int .i64 x.f1.f2] ci ok (fun k => ok k ∧ k ≠ g) ?s1 ?s2 ?s3 ?s4 ?s5 ?s6 HN3.out h0 ?s7 HCL.out HC.out ?s8 ?s9 (fun _ hk => hk) HB4.out ?_; (case s1 => rfl); (case s2 => rfl); (case s3 => rfl); (case s4 => rfl); (case s5 => exact (show Option.map (fun x => x.size) (Try.prog.info? 29) = some 4 from by kernel_rfl)); (case s6 => exact k29.K_one (Kd.FK_now HFK3.out)); (case s7 => omega); (case s8 => exact (Nat.le_refl 4)); (case s9 => have hd_ : List.drop 4 ci = [] := List.drop_of_length_le (Nat.le_of_eq HCL.out); simp only [List.take_zero, List.nil_append, List.length_cons, List.length_nil, Nat.zero_add, Nat.reduceAdd, hd_, List.append_nil]; exact HFK3.out); intro w3 hN hb hg; have HN4 := Aside0.mk hN; have HB5 := Aside0.mk hb; have HG := Aside0.mk hg; clear hN hb hg))
          go_roundw
          case rel =>
            have e1 : (j + 1).toNat = j.toNat + 1 := by omega
            have e3 : (i + 1).toNat = i.toNat + 1 := by omega
            have hlen : (keptL p l j.toNat).length = i.toNat := by have := HI.out; omega
            have e2 := keptL_set p l j.toNat i.toNat hjl hlen (by rw [HX.out]; exact HR.out)
            rw [HX.out] at e2
            have e4 : (keptL p l (j.toNat + 1)).length = (keptL p l j.toNat).length + 1 := by rw [keptL_snoc p l j.toNat hjl, HX.out, HR.out]; simp
            exact ⟨i + 1, j + 1, rfl, rfl, by omega, by omega, by omega, ⟨by rw [e1, e4, hlen]; omega⟩, ⟨by rw [e1, e3, ← e2]; exact HN4.out⟩, HB5, ⟨Kept.of_grown HG.out HK4.out (fun k hk => .inl hk)⟩, ⟨Nat.le_trans HA4.out HG.out.size⟩⟩
          case measure => simp [Go.RowKit.intOf]; omega
      · obtain rfl : j = l.length := by omega
        have hfin : keptL p l ((l.length : Int).toNat) = l.filter (fun x => !p x) := by rw [Int.toNat_natCast]; unfold keptL; rw [List.take_length]
        obtain ⟨cur, hblk, hcl, hnc2, hcm, _, hokg, _, hfk⟩ := N_cells HN2.out
        have hlen : (l.filter (fun x => !p x)).length = i.toNat := by have := HI.out; rw [hfin] at this; omega
        have hsz : k29.sz = 4 := rfl
        rw [hsz] at hcl hfk
        have hcs : ∀ q, q < (l.length - i.toNat) * 4 → (wr.cell? ⟨g, i.toNat * 4 + q, none⟩).isSome = true := by
          intro q hq
          rw [cell_of_row wr g _ cur.toArray 29 (0, 0) hblk]
          simp only [List.getElem?_toArray]
          rw [List.getElem?_eq_getElem (by omega)]; rfl
        have HCLR : Aside0 (∀ ty n c2, n = l.length - i.toNat → (Builtin.clear_ #[22] ty #[.slice (some ⟨g, i.toNat * 4, none⟩) n c2]).run Try.prog wr = .ok (.tuple #[]) (wr.setCells g (i.toNat * 4) (Builtin.zeroCells #[.slice none 0 0, .int .i64 0, .slice none 0 0, .int .i64 0] n).toList)) := by
          refine ⟨fun ty n c2 hn => ?_⟩
          subst hn
          exact run_clearN wr 22 29 ty (.agg #[.slice none 0 0, .int .i64 0, .slice none 0 0, .int .i64 0]) Try.underlying22 (fun W => by kernel_rfl) (by intro u hu; have hu2 : u ∈ [Value.slice none 0 0, .int .i64 0, .slice none 0 0, .int .i64 0] := hu; simp only [List.mem_cons, List.not_mem_nil, or_false] at hu2; rcases hu2 with rfl | rfl | rfl | rfl <;> rfl) g (i.toNat * 4) (l.length - i.toNat) c2 (by simpa [Value.cells] using hcs) (fun q _ => blk_frozen hblk _)
        have HBK := Aside0.mk hblk
        have HFK := Aside0.mk hfk
        have HCM := Aside0.mk hcm
        have HCL := Aside0.mk hcl
        have HFI := Aside0.mk hfin
        have HLE := Aside0.mk hlen
        clear hblk hfk hcs hcm hcl hfin hlen hsz
        go_wp2_with ((with_reducible refine gate_builtin (b := .clear) (xs := #[.tmp 38]) rfl ?_); go_must (refine wpList_clear_eq rfl (.tmp 38) 22 rfl _ rfl (HCLR.out _ _ _ (by omega)) ?_))
        go_ret
        have hzl : (Builtin.zeroCells #[Value.slice none 0 0, .int .i64 0, .slice none 0 0, .int .i64 0] (l.length - i.toNat)).toList.length = (l.length - i.toNat) * 4 := by rw [Array.length_toList, size_zeroCells]; rfl
        have hcut := N_cut HN2.out (m := i.toNat) (by omega) (Builtin.zeroCells #[Value.slice none 0 0, .int .i64 0, .slice none 0 0, .int .i64 0] (l.length - i.toNat)).toList (by rw [hzl]; show i.toNat * 4 + _ ≤ c * 4; omega)
        rw [HFI.out, ← HLE.out, List.take_left'  rfl] at hcut
        refine ⟨_, rfl, ?_, ?_⟩
        · rw [HLE.out] at hcut
          exact hcut
        · exact below_setCells HB2.out hbg _ _

def log_Drop.f (l0 : List S29) (l1 : List Int) (a2 : Int) : Option (List S29) := if l0.length ≤ 1000000000 then some (l0.filter (fun x => !prunedL x.f0 l1 a2)) else none
set_option maxHeartbeats 2000000 in
set_option maxRecDepth 100000 in
theorem log_Drop.calls (P0_ : Nat → Prop) (A0 : Option Addr) (c0 : Nat) (l0 : List S29) (A1 : Option Addr) (c1 : Nat) (l1 : List Int) (a2 : Int) (r : List S29) (w : World) (hs0 : Kd.V k29 29 w w.heap.size (fun k_ => P0_ k_) (.slice A0 l0.length c0) l0) (hr1 : Kd.C (Kd.int .i64) w A1 l1.length l1) (hc1 : l1.length ≤ c1) (h : log_Drop.f l0 l1 a2 = some r) :
    Calls Try.prog 10 #[.slice A0 l0.length c0, .slice A1 l1.length c1, .int .i64 a2] w fun e w' => ∃ v0_ : Value, e = .returned (v0_) ∧ Kd.N k29 29 w' w.heap.size (fun k_ => (P0_ k_ ∨ w.heap.size ≤ k_)) v0_ r ∧ Below w.heap.size w w' := by
  unfold log_Drop.f at h
  split at h
  · rename_i hlen
    injection h with h
    have HR := Aside0.mk h
    have HS := Aside0.mk hs0
    have HC := Aside0.mk hr1
    have HL := Aside0.mk hlen
    clear h hs0 hr1 hlen
    go_enter Try.func10, Try.ntmps10
    go_wp2_with (first
      | ((with_reducible refine gate_dst (N := 4) rfl ?_); refine box_event ?hg (N := 4) ?hd (cs := #[.slice A1 l1.length c1]) (t := 23) ?hr ?_; (case hd => rfl); (case hg => rfl); (case hr => first | (go_simp; done) | (go_simp; rfl)); intro b1 hgb w1 hbox hb; have H1 := Aside0.mk hb; have X1 := Aside0.mk hbox; clear hb hbox hgb)
      | ((with_reducible refine gate_dst (N := 5) rfl ?_); refine box_event ?hg (N := 5) ?hd (cs := #[.int .i64 a2]) (t := 3) ?hr ?_; (case hd => rfl); (case hg => rfl); (case hr => first | (go_simp; done) | (go_simp; rfl)); intro b2 hgb w2 hbox hb; have H2 := Aside0.mk (below_step H1.out hb); have X2 := Aside0.mk hbox; have X3 := Aside0.mk (pw_cell_below hb (blk_cell X1.out 0)); clear hb hbox hgb X1 H1)
      | fail)
    refine (clone_entry P0_ A0 c0 l0 w2 (Kd.V_below HS.out H2.out) HL.out).mono ?_
    rintro e w3 ⟨v, rfl, hN, hb⟩
    have HN := Aside0.mk hN
    have H3 := Aside0.mk (below_step H2.out hb)
    have H4 := Aside0.mk hb
    clear hN hb
    go_wp2_with fail
    have hnew : ∀ k, v.ownBlock = some k → w2.heap.size ≤ k := Kd.N_base HN.out
    have hb1 : b1 < w2.heap.size := World.block_lt_of_cell? w2 ⟨b1, 0, none⟩ X3.out
    have hb2 : b2 < w2.heap.size := blk_lt X2.out
    have HF := Aside0.mk (Kd.F_below (Kd.C_F (Kd.heap_int .i64) HC.out) (below_step H2.out H4.out))
    have hws : w.heap.size ≤ w2.heap.size := H2.out.size
    refine (delete_drop b1 b2 (fun x => prunedL x.f0 l1 a2) w2.heap.size (fun k => P0_ k ∨ w2.heap.size ≤ k) v l0 w2 w3 HN.out H4.out H4.out.size (fun W x cs hk hK => ?_)).mono ?_
    · refine drop_pred b1 b2 A1 c1 l1 a2 x cs W hK (cell_kept (pw_cell_below H4.out X3.out) hk (fun he => by have := hnew _ he; simp at this; omega)) (cell_kept (pw_cell_below H4.out ((blk_cell X2.out 0).trans rfl)) hk (fun he => by have := hnew _ he; simp at this; omega)) ?_ hc1
      exact Kd.F_now (Kd.F_kept HF.out hk (fun k hkk he => by have := hnew _ he; omega))
    · rintro e w4 ⟨v2, rfl, hN, hb⟩
      have HN2 := Aside0.mk hN
      have H5 := Aside0.mk (below_step H2.out hb)
      clear hN hb
      go_wp2
      go_ret
      refine ⟨_, rfl, ?_, H5.out⟩
      rw [← HR.out]
      exact Kd.N_lower (Kd.N_mono HN2.out (fun k hk => hk.imp (fun h => h) (fun h => by omega))) hws
  · cases h
end Go.Proofs.Ytlapiebnmbbemaa.A
end
section
/- The contract of log.Put, in the print's words: an entry laid down. -/
namespace Go.Proofs.Ytlapiebnmbbemaa.A
open Go.RowKit Go.Proofs.YtlapiebnmbbemaaW.PrintWords Go.Proofs.YtlapiebnmbbemaaW.PrintLast Go.Proofs.YtlapiebnmbbemaaW.PrintMore

/-- What the binary search comes to. -/
def searchF (p : Nat → Bool) : Nat → Nat → Nat → Nat
  | 0, i, _ => i
  | f + 1, i, j => if i < j then (if p ((i + j) / 2) then searchF p f i ((i + j) / 2) else searchF p f ((i + j) / 2 + 1) j) else i
theorem searchF_spec (p : Nat → Bool) : ∀ (f i j : Nat), i ≤ j → j - i ≤ f → i ≤ searchF p f i j ∧ searchF p f i j ≤ j ∧ (i < searchF p f i j → p (searchF p f i j - 1) = false) ∧ (searchF p f i j < j → p (searchF p f i j) = true)
  | 0, i, j, h1, h2 => by
    have : i = j := by omega
    subst this
    simp [searchF]
  | f + 1, i, j, h1, h2 => by
    unfold searchF
    by_cases h : i < j
    · rw [if_pos h]
      cases hp : p ((i + j) / 2) with
      | true =>
        simp only [if_true]
        obtain ⟨a, b, c, d⟩ := searchF_spec p f i ((i + j) / 2) (by omega) (by omega)
        refine ⟨a, by omega, c, fun hl => ?_⟩
        by_cases he : searchF p f i ((i + j) / 2) = (i + j) / 2
        · rw [he]; exact hp
        · exact d (by omega)
      | false =>
        simp only [Bool.false_eq_true, if_false]
        obtain ⟨a, b, c, d⟩ := searchF_spec p f ((i + j) / 2 + 1) j (by omega) (by omega)
        refine ⟨by omega, b, fun hl => ?_, d⟩
        by_cases he : searchF p f ((i + j) / 2 + 1) j = (i + j) / 2 + 1
        · rw [he]; simpa using hp
        · exact c (by omega)
    · rw [if_neg h]
      have : i = j := by omega
      subst this
      simp

set_option maxHeartbeats 2000000 in
set_option maxRecDepth 100000 in
/-- What Put hands to sort.Search. -/
theorem put_pred (b1 b2 : Nat) (A0 : Option Addr) (c0 : Nat) (l : List S29) (cs : Array Value) (x : S29) (i : Int) (W : World) (h0 : 0 ≤ i) (hi : i < l.length)
    (h1 : W.cell? ⟨b1, 0, none⟩ = some (.slice A0 l.length c0)) (h2 : W.heap[b2]? = some (.cells cs 29 (0, 0))) (hl : Kd.C k29 W A0 l.length l) (hx : k29.K W x cs.toList) :
    Calls Try.prog 36 #[.int .i64 i, .pointer (some ⟨b1, 0, none⟩), .pointer (some ⟨b2, 0, none⟩)] W fun e w' => e = .returned (.bool (decide (cmpL (l.getD i.toNat z29).f0 x.f0 ≥ 0))) ∧ Below W.heap.size W w' := by
  obtain ⟨A4, c4, A6, c6, he, l4, g4, l6, g6⟩ := k29_open hx
  obtain rfl : cs = #[.slice A4 x.f0.length c4, .int .i64 x.f1.f0, .slice A6 x.f1.f1.length c6, .int .i64 x.f1.f2] := by rw [← Array.toList_inj, he]
  obtain ⟨ad, A1, c1, A3, c3, rfl, x0, x1, x2, x3, l1, g1, l3, g3⟩ := at_T29 hl i h0 hi
  have k0 : W.cell? ⟨b2, 0, none⟩ = some (.slice A4 x.f0.length c4) := (blk_cell h2 0).trans rfl
  have G1 := Aside0.mk g1
  have G4 := Aside0.mk g4
  clear hx g4 g6 l6 he x1 x2 x3 g1 g3 l3 h2 hl
  go_enter Try.func36, Try.ntmps36
  go_wp2
  go_region_with (go_at_call 37; refine (label_CompareW.calls _ _ _ _ _ _ _ _ ?q1 l1 ?q2 l4 rfl).mono ?_; (case q1 => exact Kd.C_drew G1.out); (case q2 => exact Kd.C_drew G4.out); rintro e w' ⟨rfl, hb⟩; have HB := Aside0.mk hb; clear hb)
  all_goals
    go_wp2
    go_ret
    exact ⟨rfl, below_step (below_drew (Below.refl _ _)) HB.out⟩

set_option maxHeartbeats 2000000 in
set_option maxRecDepth 100000 in
/-- sort.Search, the predicate met by a contract. -/
theorem search_put (b1 b2 : Nat) (p : Nat → Bool) (n : Nat) (w : World) (hn : n ≤ 4611686018427387903)
    (hP : ∀ (W : World) (i : Int), 0 ≤ i → i < n → Below w.heap.size w W → Calls Try.prog 36 #[.int .i64 i, .pointer (some ⟨b1, 0, none⟩), .pointer (some ⟨b2, 0, none⟩)] W fun e w' => e = .returned (.bool (p i.toNat)) ∧ Below W.heap.size W w') :
    Calls Try.prog 35 #[.int .i64 n, .func (.func 36) #[] #[.pointer (some ⟨b1, 0, none⟩), .pointer (some ⟨b2, 0, none⟩)]] w fun e w' =>
      e = .returned (.int .i64 (searchF p n 0 n)) ∧ Below w.heap.size w w' := by
  have HP := Aside0.mk hP
  clear hP
  go_enter Try.func35, Try.ntmps35
  go_wp2
  go_loopw [5, 6] (fun v5 v6 wr => ∃ (i j : Int) (f : Nat), v5 = .int .i64 i ∧ v6 = .int .i64 j ∧ 0 ≤ i ∧ i ≤ j ∧ j ≤ n ∧ Aside0 (j - i ≤ f) ∧ Aside0 (searchF p f i.toNat j.toNat = searchF p n 0 n) ∧ Aside0 (Below w.heap.size w wr)) (fun v5 v6 _ => (Go.RowKit.intOf v6 - Go.RowKit.intOf v5).toNat)
  case atStart => exact ⟨0, n, n, rfl, rfl, Int.le_refl _, by omega, Int.le_refl _, ⟨by omega⟩, ⟨by simp⟩, ⟨Below.refl _ _⟩⟩
  case round =>
    obtain ⟨i, j, f, rfl, rfl, h0, hij, hj, HF, HS, HB⟩ := hrel
    by_cases hlt : i < j
    · go_wp2_with fail
      refine (HP.out wr ((i + j) / 2) (by omega) (by omega) HB.out).mono ?_
      rintro e w' ⟨rfl, hb⟩
      have HB2 := Aside0.mk (below_step HB.out hb)
      clear hb
      obtain ⟨f, rfl⟩ : ∃ f', f = f' + 1 := ⟨f - 1, by have := HF.out; omega⟩
      have em : ((i + j) / 2).toNat = (i.toNat + j.toNat) / 2 := by omega
      cases hp : p ((i + j) / 2).toNat with
      | true =>
        have HR := Aside0.mk hp
        have EM := Aside0.mk em
        clear hp em
        go_wp2
        go_roundw
        case rel => exact ⟨i, (i + j) / 2, f, rfl, rfl, h0, by omega, by omega, ⟨by have := HF.out; omega⟩, ⟨by
          have h1 := HS.out
          have h2 := HR.out
          rw [EM.out] at h2
          rw [searchF, if_pos (by omega), h2, if_pos rfl] at h1
          rw [EM.out]; exact h1⟩, HB2⟩
        case measure => simp [Go.RowKit.intOf]; omega
      | false =>
        have HR := Aside0.mk hp
        have EM := Aside0.mk em
        clear hp em
        go_wp2
        go_roundw
        case rel => exact ⟨(i + j) / 2 + 1, j, f, rfl, rfl, by omega, by omega, by omega, ⟨by have := HF.out; omega⟩, ⟨by
          have h1 := HS.out
          have h2 := HR.out
          rw [EM.out] at h2
          rw [searchF, if_pos (by omega), h2, if_neg (by simp)] at h1
          rw [show ((i + j) / 2 + 1).toNat = (i.toNat + j.toNat) / 2 + 1 by have := EM.out; omega]; exact h1⟩, HB2⟩
        case measure => simp [Go.RowKit.intOf]; omega
    · obtain rfl : i = j := by omega
      have HE := Aside0.mk (show searchF p f i.toNat i.toNat = i.toNat by cases f <;> simp [searchF])
      go_wp2
      go_ret
      exact ⟨by rw [← HS.out, HE.out]; simp; omega, HB.out⟩
end Go.Proofs.Ytlapiebnmbbemaa.A
end
section
/- The contract of slices.Insert of one value, in the print's words (elements of four cells). -/
namespace Go.Proofs.Ytlapiebnmbbemaa.A
open Go.RowKit Go.Lib Go.Proofs.YtlapiebnmbbemaaW.PrintWords Go.Proofs.YtlapiebnmbbemaaW.PrintLast Go.Proofs.YtlapiebnmbbemaaW.PrintMore

theorem list_seg {α : Type} (cur : List α) (a m b c : Nat) (h : a + m ≤ b + c) (hb : b ≤ a) : (((cur.drop b).take c).drop (a - b)).take m = (cur.drop a).take m := by
  apply List.ext_getElem?
  intro q
  simp only [List.getElem?_take, List.getElem?_drop]
  split
  · rw [if_pos (by omega), show b + (a - b + q) = a + q by omega]
  · rfl
/-- A row with one element put in. -/
theorem N_ins {α : Type} {d : Kd α} {e base g cap n i : Nat} {w : World} {ok : Nat → Prop} {l : List α} {x : α} {cur cur' cv : List Value}
    (hg : w.heap[g]? = some (.cells cur'.toArray e (0, 0))) (hc : cur'.length = cap * d.sz) (hn : n + 1 ≤ cap) (hm : cap ≤ maxLen) (hb : base ≤ g) (hok : ok g) (hl : l.length = n) (hi : i ≤ n) (hcv : cv.length = d.sz) (hcur : n * d.sz ≤ cur.length)
    (hcells : cur'.take ((n + 1) * d.sz) = cur.take (i * d.sz) ++ (cv ++ (cur.drop (i * d.sz)).take ((n - i) * d.sz)))
    (hf : ∀ j y, l[j]? = some y → Kd.FK d w (fun k => ok k ∧ k ≠ g) y ((cur.drop (j * d.sz)).take d.sz)) (hx : Kd.FK d w (fun k => ok k ∧ k ≠ g) x cv) :
    Kd.N d e w base ok (.slice (some ⟨g, 0, none⟩) (n + 1) cap) (l.take i ++ x :: l.drop i) := by
  refine N_mk hg hc hn hm hb hok (by simp; omega) (fun j y hj => ?_)
  have hjn : j < n + 1 := by have := (List.getElem?_eq_some_iff.1 hj).1; simp at this; omega
  have hjs : j * d.sz + d.sz ≤ (n + 1) * d.sz := by rw [← Nat.succ_mul]; exact Nat.mul_le_mul_right _ hjn
  have his : i * d.sz ≤ n * d.sz := Nat.mul_le_mul_right _ hi
  have e0 : (cur'.drop (j * d.sz)).take d.sz = ((cur.take (i * d.sz) ++ (cv ++ (cur.drop (i * d.sz)).take ((n - i) * d.sz))).drop (j * d.sz)).take d.sz := by
    rw [← hcells]
    have := list_seg cur' (j * d.sz) d.sz 0 ((n + 1) * d.sz) (by omega) (by omega)
    simpa using this.symm
  have hl1 : (cur.take (i * d.sz)).length = i * d.sz := by rw [List.length_take]; omega
  rw [e0]
  rcases Nat.lt_trichotomy j i with h | h | h
  · rw [List.getElem?_append_left (by rw [List.length_take]; omega), List.getElem?_take, if_pos h] at hj
    have h2 : j * d.sz + d.sz ≤ i * d.sz := by rw [← Nat.succ_mul]; exact Nat.mul_le_mul_right _ h
    have e1 : ((cur.take (i * d.sz) ++ (cv ++ (cur.drop (i * d.sz)).take ((n - i) * d.sz))).drop (j * d.sz)).take d.sz = (cur.drop (j * d.sz)).take d.sz := by
      rw [List.drop_append_of_le_length (by omega), List.take_append_of_le_length (by rw [List.length_drop]; omega)]
      have := list_seg cur (j * d.sz) d.sz 0 (i * d.sz) (by omega) (by omega)
      simpa using this
    rw [e1]
    exact hf j y hj
  · subst h
    rw [List.getElem?_append_right (by rw [List.length_take]; omega), List.length_take, show j - min j l.length = 0 by omega] at hj
    simp only [List.getElem?_cons_zero, Option.some.injEq] at hj
    subst hj
    have e1 : ((cur.take (j * d.sz) ++ (cv ++ (cur.drop (j * d.sz)).take ((n - j) * d.sz))).drop (j * d.sz)).take d.sz = cv := by
      rw [List.drop_left' hl1, List.take_append_of_le_length (by omega), List.take_of_length_le (by omega)]
    rw [e1]
    exact hx
  · rw [List.getElem?_append_right (by rw [List.length_take]; omega), List.length_take, show j - min i l.length = (j - i - 1) + 1 by omega, List.getElem?_cons_succ, List.getElem?_drop, show i + (j - i - 1) = j - 1 by omega] at hj
    have h3 : (j - 1) * d.sz + d.sz = j * d.sz := by rw [← Nat.succ_mul]; congr 1; omega
    have h4 : i * d.sz + (n - i) * d.sz = n * d.sz := by rw [← Nat.add_mul]; congr 1; omega
    have h5 : i * d.sz + d.sz ≤ j * d.sz := by rw [← Nat.succ_mul]; exact Nat.mul_le_mul_right _ h
    have h6 : (n + 1) * d.sz = n * d.sz + d.sz := Nat.succ_mul _ _
    have e1 : ((cur.take (i * d.sz) ++ (cv ++ (cur.drop (i * d.sz)).take ((n - i) * d.sz))).drop (j * d.sz)).take d.sz = (cur.drop ((j - 1) * d.sz)).take d.sz := by
      rw [List.drop_append, hl1, List.drop_of_length_le (by rw [hl1]; omega), List.nil_append, List.drop_append, hcv, List.drop_of_length_le (by omega), List.nil_append]
      have := list_seg cur ((j - 1) * d.sz) d.sz (i * d.sz) ((n - i) * d.sz) (by omega) (by omega)
      rw [← this]
      congr 2
      omega
    rw [e1]
    exact hf (j - 1) y hj

/-- The tail one place on, the new cells in the gap. -/
theorem shift_cells {α : Type} (cur cv : List α) (a z n : Nat) (hz : cv.length = z) (ha : a ≤ n) (hn : n + z ≤ cur.length) :
    (((cur.take (a + z) ++ (cur.drop a).take (n - a) ++ cur.drop (a + z + (n - a))).take a ++ cv ++ (cur.take (a + z) ++ (cur.drop a).take (n - a) ++ cur.drop (a + z + (n - a))).drop (a + z))).take (n + z) = cur.take a ++ (cv ++ (cur.drop a).take (n - a)) := by
  have h1 : (cur.take (a + z) ++ (cur.drop a).take (n - a) ++ cur.drop (a + z + (n - a))).take a = cur.take a := by
    rw [List.append_assoc, List.take_append_of_le_length (by rw [List.length_take]; omega), List.take_take, Nat.min_eq_left (by omega)]
  have h2 : (cur.take (a + z) ++ (cur.drop a).take (n - a) ++ cur.drop (a + z + (n - a))).drop (a + z) = (cur.drop a).take (n - a) ++ cur.drop (a + z + (n - a)) := by
    rw [List.append_assoc, List.drop_left' (by rw [List.length_take]; omega)]
  rw [h1, h2, List.append_assoc, ← List.append_assoc cv, ← List.append_assoc (cur.take a), List.take_left']
  · simp only [List.length_append, List.length_take, List.length_drop]; omega
/-- append(v, make([]T, m)...) that grows. -/
theorem run_append_zeros_grow {P : Program} (w : World) (t ti ty e : TypeId) (i : TypeInfo) (z : Value) (ht : P.underlying t = some (.slice e)) {k : IntKind} (hti : P.underlying ti = some (.int k)) (hi : P.info? e = some i) (hz : i.zero = some z) (hsz : 0 < i.size) (hb0 : 0 < i.bytes)
    (A : Option Addr) (n cap m : Nat) (olds : List Value) (hfo : (Builtin.firstCells i.size n (.slice A n cap)).run P w.drew = .ok olds.toArray w.drew) (hm : 0 < m) (hcap : cap < n + m) (hbytes : (n + m) * i.bytes ≤ 140737488355328) (kx : IntKind) :
    (Builtin.append_ #[t, ti] ty #[.slice A n cap, .int kx m]).run P w =
      .ok (.slice (some ⟨w.heap.size, 0, none⟩) (n + m) (grownCap w (n + m) cap e)) (w.drew.alloc (.cells (olds.toArray ++ Builtin.zeroCells z.cells m ++ Builtin.zeroCells z.cells (grownCap w (n + m) cap e - (n + m))) e)) := by
  have hle : n + m ≤ 140737488355328 := Nat.le_trans (Nat.le_mul_of_pos_right _ hb0) hbytes
  have hw : IntKind.i64.wrap (m : Int) = m := by rw [IntKind.wrap_i64]; omega
  have hneg : ¬ ((m : Int) < 0) := by omega
  have hmb : m * i.bytes ≤ 140737488355328 := Nat.le_trans (Nat.mul_le_mul_right _ (Nat.le_add_left m n)) hbytes
  have hbig : ¬ (281474976710656 < (m : Int) * (i.bytes : Int)) := by
    rw [← Int.natCast_mul]
    omega
  have hn : ¬ (n + m ≤ cap) := by omega
  have h63' : ¬ (9223372036854775807 < ((n : Int) + (m : Int))) := by omega
  have hfit := growslice_fits hcap hbytes
  have h48' : ¬ (281474976710656 < Builtin.nextslicecap (n + m) cap * i.bytes) := by omega
  have hmz : ¬ (m * i.size = 0) := Nat.mul_ne_zero (by omega) (by omega)
  simp [Builtin.append_, run_underlying ht, run_underlying hti, sizeOf, typeInfo, zeroValue, hi, hz, asInt, asIntOf, hw, hneg, hbig, hn, h63', h48', Question.forced, hfo, newRow, grownCap, hmz]
end Go.Proofs.Ytlapiebnmbbemaa.A
end
section
/- slices.Insert of one entry into a row of one's own. -/
namespace Go.Proofs.Ytlapiebnmbbemaa.A
open Go.RowKit Go.Lib Go.Proofs.YtlapiebnmbbemaaW.PrintWords Go.Proofs.YtlapiebnmbbemaaW.PrintLast Go.Proofs.YtlapiebnmbbemaaW.PrintMore

set_option maxHeartbeats 4000000 in
set_option maxRecDepth 100000 in
theorem insert_end (base : Nat) (ok okp : Nat → Prop) (vs : Value) (l : List S29) (gv : Nat) (x : S29) (w0 w : World)
    (hN : Kd.N k29 29 w base ok vs l) (hB : Below base w0 w) (hbase : base ≤ w.heap.size) (hfresh : ∀ k, w.heap.size ≤ k → ok k)
    (hv : Kd.F k29 w okp (some ⟨gv, 0, none⟩) 1 [x]) (hokp : ∀ k, okp k → ok k ∧ some k ≠ vs.ownBlock) (hl : l.length ≤ 1000000000) :
    Calls Try.prog 38 #[vs, .int .i64 l.length, .slice (some ⟨gv, 0, none⟩) 1 1] w fun e w' =>
      ∃ v', e = .returned v' ∧ Kd.N k29 29 w' base ok v' (l ++ [x]) ∧ Below base w0 w' := by
  obtain ⟨A, c, rfl⟩ := Kd.N_slice hN
  have HN := Aside0.mk hN
  have HB := Aside0.mk hB
  have HA := Aside0.mk hbase
  have HV := Aside0.mk hv
  have HO := Aside0.mk hokp
  have HF := Aside0.mk hfresh
  have hlc : l.length ≤ c := (Kd.N_reads' hN).2.1
  clear hN hB hbase hv hokp hfresh
  go_enter Try.func38, Try.ntmps38
  go_wp2_with (at_builtin; go_must (refine Kd.N_append_rows k29 (w0 := w0) base rfl (.tmp 23) (.tmp 24) 22 29 (.agg #[(.slice none 0 0), (.int .i64 0), (.slice none 0 0), (.int .i64 0)]) 64 rfl Try.underlying22 info29 rfl (by decide) (by omega) (.slice A l.length c) l [x] (some ⟨gv, 0, none⟩) 1 1 ok okp rfl rfl HN.out HV.out HO.out HF.out HB.out HA.out (by omega) ?_; intro v2 w2 hN2 hb hg hat; have HN2 := Aside0.mk hN2; have HB2 := Aside0.mk hb; clear hN2 hb hg hat))
  all_goals (go_ret; exact ⟨_, rfl, HN2.out, HB2.out⟩)

/-- The cells of a slice of one value, and that slices.overlaps says no. -/
theorem one_cells {w : World} {okp : Nat → Prop} {gv : Nat} {x : S29} (hv : Kd.F k29 w okp (some ⟨gv, 0, none⟩) 1 [x]) :
    ∃ cv : List Value, cv.length = 4 ∧ Kd.FK k29 w okp x cv ∧ (∀ j u, cv[j]? = some u → w.cell? ⟨gv, j, none⟩ = some u) ∧ okp gv := by
  obtain ⟨ad, cv, he, hl, hf, hc, ho⟩ := Kd.F_get hv z29 0 (by omega) (by omega)
  injection he with he
  subst he
  exact ⟨cv, hl, hf, fun j u hu => by have := hc j u hu; simpa [add_plain] using this, ho (by decide)⟩

set_option maxHeartbeats 4000000 in
set_option maxRecDepth 100000 in
theorem insert_room (base : Nat) (ok okp : Nat → Prop) (g n c : Nat) (l : List S29) (gv : Nat) (x : S29) (i : Nat) (w0 w : World)
    (hN : Kd.N k29 29 w base ok (.slice (some ⟨g, 0, none⟩) n c) l) (hB : Below base w0 w) (hbg : base ≤ g)
    (hv : Kd.F k29 w okp (some ⟨gv, 0, none⟩) 1 [x]) (hokp : ∀ k, okp k → ok k ∧ k ≠ g) (hvb : ∃ cells, w.heap[gv]? = some (.cells cells 29 (0, 0))) (hi : i < n) (hroom : n + 1 ≤ c) :
    Calls Try.prog 38 #[.slice (some ⟨g, 0, none⟩) n c, .int .i64 i, .slice (some ⟨gv, 0, none⟩) 1 1] w fun e w' =>
      ∃ v', e = .returned v' ∧ Kd.N k29 29 w' base ok v' (l.take i ++ x :: l.drop i) ∧ Below base w0 w' := by
  obtain ⟨cur, hblk, hcl, hnc, hcm, _, hokg, hxl, hfk⟩ := N_cells hN
  obtain ⟨cv, hcvl, hcvf, hcvc, hokv⟩ := one_cells hv
  have hgv : gv ≠ g := (hokp gv hokv).2
  have hsz : k29.sz = 4 := rfl
  rw [hsz] at hcl
  obtain ⟨cells, hvblk⟩ := hvb
  have hu := Try.underlying22
  have hmax : c ≤ 9223372036854775807 := by simpa [maxLen] using hcm
  -- the first copy: the tail one place on
  obtain ⟨seg, hseg⟩ : ∃ seg, seg = (cur.drop (i * 4)).take ((n - i) * 4) := ⟨_, rfl⟩
  have hsegl : seg.length = (n - i) * 4 := by rw [hseg, List.length_take, List.length_drop]; omega
  have hone : ∀ u ∈ cur.take (n * 4), u.oneCell' = true := by
    intro u hu2
    obtain ⟨q, hq, rfl⟩ := List.mem_iff_getElem.1 hu2
    rw [List.length_take] at hq
    have hj : q / 4 < l.length := by omega
    have := k29.K_one (Kd.FK_now (hfk (q / 4) _ (List.getElem?_eq_getElem hj))) cur[q] (by
      rw [hsz, List.mem_iff_getElem?]
      exact ⟨q % 4, by rw [List.getElem?_take, if_pos (by omega), List.getElem?_drop, show q / 4 * 4 + q % 4 = q by omega, List.getElem?_eq_getElem (by omega)]⟩)
    simpa using this
  have hsub : ∀ u ∈ seg, u ∈ cur.take (n * 4) := by
    intro u hu2
    rw [hseg] at hu2
    obtain ⟨q, hq, rfl⟩ := List.mem_iff_getElem.1 hu2
    rw [List.length_take, List.length_drop] at hq
    rw [List.mem_iff_getElem?]
    refine ⟨i * 4 + q, ?_⟩
    rw [List.getElem?_take, if_pos (by omega), List.getElem_take, List.getElem_drop, List.getElem?_eq_getElem (by omega)]
  have hcell : ∀ (W : World), W.heap[g]? = w.heap[g]? → ∀ q u, cur[q]? = some u → W.cell? ⟨g, q, none⟩ = some u := fun W hW q u hq => by
    rw [cell_of_row W g _ cur.toArray 29 (0, 0) (hW.trans hblk)]; simpa using hq
  have hsome : ∀ (W : World), W.heap[g]? = w.heap[g]? → ∀ q, q < c * 4 → (W.cell? ⟨g, q, none⟩).isSome = true := fun W hW q hq => by
    rw [hcell W hW q _ (List.getElem?_eq_getElem (by omega))]; rfl
  have hcp1 : Aside0 (∀ ty dl dc sl sc, dl = n - i → sl = n + 1 - i → (Builtin.copy_ #[22, 22] ty #[.slice (some ⟨g, (i + 1) * 4, none⟩) dl dc, .slice (some ⟨g, i * 4, none⟩) sl sc]).run Try.prog w.drew = .ok (goInt (n - i : Nat)) (w.drew.setCells g ((i + 1) * 4) seg)) := by
    refine ⟨fun ty dl dc sl sc hdl hs_ => ?_⟩
    subst hdl hs_
    have h := run_copyN (P := Try.prog) w.drew 22 22 ty 29 4 g ((i + 1) * 4) (n - i) dc ⟨g, i * 4, none⟩ (n + 1 - i) sc seg Try.underlying22 (by kernel_rfl) (by rw [hsegl]; congr 1; exact (Nat.min_eq_right (by omega)).symm)
      (fun q u hq => by
        rw [add_at]
        refine hcell w.drew rfl (i * 4 + q) u ?_
        rw [hseg, List.getElem?_take] at hq
        split at hq
        · rwa [List.getElem?_drop] at hq
        · cases hq)
      (fun q hq => hsome w.drew rfl _ (by omega)) (fun q _ => blk_frozen (show w.drew.heap[g]? = _ from hblk) _) (fun u hu2 => hone u (hsub u hu2))
    rw [show Nat.min (n + 1 - i) (n - i) = n - i from Nat.min_eq_right (by omega)] at h
    exact h
  obtain ⟨W1, hW1⟩ : ∃ W1, W1 = w.drew.setCells g ((i + 1) * 4) seg := ⟨_, rfl⟩
  obtain ⟨cur1, hb1, hs1, hl1⟩ := setCells_row seg ((i + 1) * 4) w.drew cur.toArray hblk (by simp; omega)
  rw [← hW1] at hb1 hcp1
  have hcp2 : Aside0 (∀ ty dl dc, dl = n + 1 - i → (Builtin.copy_ #[22, 22] ty #[.slice (some ⟨g, i * 4, none⟩) dl dc, .slice (some ⟨gv, 0, none⟩) 1 1]).run Try.prog W1 = .ok (goInt 1) (W1.setCells g (i * 4) cv)) := by
    refine ⟨fun ty dl dc hdl => ?_⟩
    subst hdl
    have h := run_copyN (P := Try.prog) W1 22 22 ty 29 4 g (i * 4) (n + 1 - i) dc ⟨gv, 0, none⟩ 1 1 cv Try.underlying22 (by kernel_rfl) (by rw [hcvl, show Nat.min 1 (n + 1 - i) = 1 from Nat.min_eq_left (by omega)])
      (fun q u hq => by
        rw [add_plain]
        have h1 := hcvc q u hq
        have h2 : W1.heap[gv]? = w.heap[gv]? := by rw [hW1]; exact setCells_far seg _ gv hgv
        simpa [World.cell?, h2] using h1)
      (fun q hq => by
        rw [cell_of_row W1 g _ cur1 29 (0, 0) hb1]
        have : i * 4 + q < cur1.size := by rw [hs1]; simp; omega
        rw [Array.getElem?_eq_getElem this]; rfl)
      (fun q _ => blk_frozen hb1 _) (k29.K_one (Kd.FK_now hcvf))
    rw [show Nat.min 1 (n + 1 - i) = 1 from Nat.min_eq_left (by omega)] at h
    exact h
  have hov : ∀ lb cb, (callFunc 60 #[.slice (some ⟨gv, 0, none⟩) 1 1, .slice (some ⟨g, (i + 1) * 4, none⟩) lb cb]).run Try.prog w = .ok (.value (.bool false)) w := fun lb cb => by
    rw [run_callFunc_extern Try.func60 (by kernel_rfl) (by kernel_rfl) (by kernel_rfl) (e := Extern.SlicesOverlaps.overlaps #[22, 22] #[4]) (by kernel_rfl),
      Lib.run_overlaps_apart w 22 4 29 Try.underlying22 4 (fun _ => by kernel_rfl) ⟨gv, 0, none⟩ ⟨g, (i + 1) * 4, none⟩ 1 1 lb cb hgv 29 29 cells.size cur.length ?_ ?_ (by omega) (blk_frozen hvblk _) (blk_frozen hvblk _)]
    · rfl
    · simp [World.shape?, hvblk]
    · simp [World.shape?, hblk]
  have HOV := Aside0.mk hov
  have hcap1 : ¬ (c = i + 1) := by omega
  have hcap2 : ¬ (c = i) := by omega
  have HW1 := Aside0.mk hW1
  have HB1 := Aside0.mk hb1
  have HS1 := Aside0.mk hs1
  have HL1 := Aside0.mk hl1
  have HSEG := Aside0.mk hseg
  have HSEGL := Aside0.mk hsegl
  have HFK := Aside0.mk hfk
  have HCV := Aside0.mk hcvf
  have HCVL := Aside0.mk hcvl
  have HCL := Aside0.mk hcl
  have HBK := Aside0.mk hblk
  have HXL := Aside0.mk hxl
  have HOKP := Aside0.mk hokp
  clear hone hsub hcell hsome hsz hfk hW1 hb1 hs1 hl1 hseg hsegl hcvf hcvl hcl hblk hxl hvblk hcvc hu hv hN hokp
  go_enter Try.func38, Try.ntmps38
  go_wp2_with (simp only [hov])
  have hw1 : IntKind.i64.wrap ((i : Int) + 1) = (i : Int) + 1 := by rw [IntKind.wrap_i64]; omega
  have hq1 : (0 : Int) ≤ (i : Int) + 1 := by omega
  have hq2 : ((i : Int) + 1).toNat = i + 1 := by omega
  have hq3 : (i : Int) ≤ (n : Int) + 1 := by omega
  have hq4 : (i : Int) ≤ (n : Int) := by omega
  go_region_law (refine step_copy_eq rfl (.tmp 73) (.tmp 76) 22 22 rfl (.slice (some ⟨g, (i + 1) * 4, none⟩) (n - i) (c - (i + 1))) (.slice (some ⟨g, i * 4, none⟩) (n + 1 - i) (c - i)) ?e1 ?e2 (hcp1.out _ _ _ _ _ rfl rfl) ?_; (case e1 => simp [Act.eval, Act.put]); (case e2 => simp [Act.eval, Act.put]))
  go_wp2_with ((with_reducible refine gate_builtin (b := .copy) (xs := #[.tmp 80, .tmp 81]) rfl ?_); refine wpList_copy_eq rfl (.tmp 80) (.tmp 81) 22 22 rfl (.slice (some ⟨g, i * 4, none⟩) (n + 1 - i) (c - i)) (.slice (some ⟨gv, 0, none⟩) 1 1) rfl rfl (hcp2.out _ _ _ rfl) ?_)
  go_ret
  obtain ⟨cur2, hb2, hs2, hl2⟩ := setCells_row cv (i * 4) W1 cur1 HB1.out (by have := HS1.out; simp at this; have := HCVL.out; have := HCL.out; omega)
  have hcl2 : cur2.toList.length = c * 4 := by rw [Array.length_toList, hs2, HS1.out]; simpa using HCL.out
  have hfar : ∀ k, k ≠ g → (W1.setCells g (i * 4) cv).heap[k]? = w.heap[k]? := fun k hk => by
    rw [setCells_far cv _ k hk, HW1.out, setCells_far seg _ k hk]; rfl
  refine ⟨_, rfl, N_ins (cur := cur) (cur' := cur2.toList) (cv := cv) (i := i) (by simpa using hb2) hcl2 hroom (by simp only [maxLen]; omega) hbg hokg HXL.out (by omega) HCVL.out (by have := HCL.out; show n * 4 ≤ _; omega) ?_ (fun j y hj => ?_) ?_, ?_⟩
  · show cur2.toList.take ((n + 1) * 4) = cur.take (i * 4) ++ (cv ++ (cur.drop (i * 4)).take ((n - i) * 4))
    have e := shift_cells cur cv (i * 4) 4 (n * 4) HCVL.out (by omega) (by have := HCL.out; omega)
    rw [hl2, HL1.out, HSEGL.out, HSEG.out, HCVL.out]
    rw [show n * 4 - i * 4 = (n - i) * 4 by omega, show n * 4 + 4 = (n + 1) * 4 by omega, show i * 4 + 4 = (i + 1) * 4 by omega] at e
    rw [show i * 4 + 4 = (i + 1) * 4 by omega]
    exact e
  · exact Kd.FK_step (HFK.out j y hj) (fun k hk _ => hfar k hk.2)
  · exact Kd.FK_mono (Kd.FK_step HCV.out (fun k hk _ => hfar k (HOKP.out k hk).2)) (fun k hk => HOKP.out k hk)
  · rw [HW1.out]
    exact below_setCells (below_setCells (below_drew hB) hbg _ _) hbg _ _

set_option maxHeartbeats 4000000 in
set_option maxRecDepth 100000 in
theorem insert_grow (base : Nat) (ok okp : Nat → Prop) (g n c : Nat) (l : List S29) (gv : Nat) (x : S29) (i : Nat) (w0 w : World)
    (hN : Kd.N k29 29 w base ok (.slice (some ⟨g, 0, none⟩) n c) l) (hB : Below base w0 w) (hbase : base ≤ w.heap.size) (hfresh : ∀ k, w.heap.size ≤ k → ok k)
    (hv : Kd.F k29 w okp (some ⟨gv, 0, none⟩) 1 [x]) (hokp : ∀ k, okp k → ok k) (hgv : gv < w.heap.size) (hl : l.length ≤ 1000000000) (hi : i < n) (hroom : c < n + 1) :
    Calls Try.prog 38 #[.slice (some ⟨g, 0, none⟩) n c, .int .i64 i, .slice (some ⟨gv, 0, none⟩) 1 1] w fun e w' =>
      ∃ v', e = .returned v' ∧ Kd.N k29 29 w' base ok v' (l.take i ++ x :: l.drop i) ∧ Below base w0 w' := by
  obtain ⟨cur, hblk, hcl, hnc, hcm, _, hokg, hxl, hfk⟩ := N_cells hN
  obtain ⟨cv, hcvl, hcvf, hcvc, hokv⟩ := one_cells hv
  have hsz : k29.sz = 4 := rfl
  rw [hsz] at hcl hfk
  obtain rfl : c = n := by omega
  have hg : g < w.heap.size := blk_lt hblk
  have hcell : ∀ q u, cur[q]? = some u → w.cell? ⟨g, q, none⟩ = some u := fun q u hq => by
    rw [cell_of_row w g _ cur.toArray 29 (0, 0) hblk]; simpa using hq
  have hone : ∀ u ∈ cur, u.oneCell' = true := by
    intro u hu2
    obtain ⟨q, hq, rfl⟩ := List.mem_iff_getElem.1 hu2
    have hj : q / 4 < l.length := by omega
    have := k29.K_one (Kd.FK_now (hfk (q / 4) _ (List.getElem?_eq_getElem hj))) cur[q] (by
      rw [List.mem_iff_getElem?]
      exact ⟨q % 4, by rw [List.getElem?_take, if_pos (by omega), List.getElem?_drop, show q / 4 * 4 + q % 4 = q by omega, List.getElem?_eq_getElem (by omega)]⟩)
    simpa using this
  -- the new row
  obtain ⟨i0, hi0, hzz⟩ := Option.map_eq_some_iff.1 info29
  simp only [Prod.mk.injEq] at hzz
  obtain ⟨hz0, hz1, hz2⟩ := hzz
  obtain ⟨C, hC⟩ : ∃ C, C = grownCap w (c + 1) c 29 := ⟨_, rfl⟩
  have hC1 : c + 1 ≤ C := by rw [hC]; exact grownCap_ge w (c + 1) c 29
  have hC2 : C ≤ maxLen := by rw [hC]; exact grownCap_le_maxLen w (c + 1) c 29 (by simp only [maxLen]; omega)
  have hC3 : C ≤ 9223372036854775807 := by simpa [maxLen] using hC2
  obtain ⟨nc, hnc1⟩ : ∃ nc : Array Value, nc = (cur.take (i * 4)).toArray ++ Builtin.zeroCells #[.slice none 0 0, .int .i64 0, .slice none 0 0, .int .i64 0] (c + 1 - i) ++ Builtin.zeroCells #[.slice none 0 0, .int .i64 0, .slice none 0 0, .int .i64 0] (C - (c + 1)) := ⟨_, rfl⟩
  have hncs : nc.size = C * 4 := by
    rw [hnc1]
    simp only [Array.size_append, List.size_toArray, size_zeroCells, List.length_take]
    simp; omega
  have hnct : nc.toList.take (i * 4) = cur.take (i * 4) := by
    rw [hnc1]
    simp only [Array.toList_append, List.append_assoc]
    exact List.take_left' (by rw [List.length_take]; omega)
  obtain ⟨W2, hW2⟩ : ∃ W2, W2 = w.drew.alloc (.cells nc 29) := ⟨_, rfl⟩
  have hap : Aside0 (∀ ty, (Builtin.append_ #[22, 3] ty #[.slice (some ⟨g, 0, none⟩) i c, .int .i64 ((c : Int) + 1 - i)]).run Try.prog w = .ok (.slice (some ⟨w.heap.size, 0, none⟩) (c + 1) C) W2) := by
    refine ⟨fun ty => ?_⟩
    have h := run_append_zeros_grow (P := Try.prog) w 22 3 ty 29 i0 _ Try.underlying22 Try.underlying3 hi0 hz0 (by omega) (by omega) (some ⟨g, 0, none⟩) i c (c + 1 - i) (cur.take (i * 4))
      (by
        rw [hz1]
        exact run_firstCells_some (P := Try.prog) w.drew 4 i _ i c _ (by rw [List.length_take]; omega) (fun q u hq => by
          rw [add_plain, World.cell?_drew]
          rw [List.getElem?_take] at hq
          split at hq
          · exact hcell q u hq
          · cases hq)) (by omega) (by omega) (by rw [hz2]; omega) .i64
    rw [show ((c : Int) + 1 - i) = ((c + 1 - i : Nat) : Int) by omega, h, hW2, hnc1, hC, show i + (c + 1 - i) = c + 1 by omega]
    rfl
  have hb2 : W2.heap[w.heap.size]? = some (.cells nc 29 (0, 0)) := by rw [hW2]; exact heap_alloc_new w.drew _
  have hold : ∀ k, k < w.heap.size → W2.heap[k]? = w.heap[k]? := fun k hk => by rw [hW2]; exact heap_alloc_old w.drew _ hk
  obtain ⟨G, hG⟩ : ∃ G, G = w.heap.size := ⟨_, rfl⟩
  rw [← hG] at hap hb2
  -- the value
  have hcp1 : Aside0 (∀ ty dl dc, dl = c + 1 - i → (Builtin.copy_ #[22, 22] ty #[.slice (some ⟨G, i * 4, none⟩) dl dc, .slice (some ⟨gv, 0, none⟩) 1 1]).run Try.prog W2 = .ok (goInt 1) (W2.setCells G (i * 4) cv)) := by
    refine ⟨fun ty dl dc hdl => ?_⟩
    subst hdl
    have h := run_copyN (P := Try.prog) W2 22 22 ty 29 4 G (i * 4) (c + 1 - i) dc ⟨gv, 0, none⟩ 1 1 cv Try.underlying22 (by kernel_rfl) (by rw [hcvl, show Nat.min 1 (c + 1 - i) = 1 from Nat.min_eq_left (by omega)])
      (fun q u hq => by
        rw [add_plain]
        have h1 := hcvc q u hq
        simpa [World.cell?, hold gv hgv] using h1)
      (fun q hq => by
        rw [cell_of_row W2 G _ nc 29 (0, 0) hb2]
        have : i * 4 + q < nc.size := by omega
        rw [Array.getElem?_eq_getElem this]; rfl)
      (fun q _ => blk_frozen hb2 _) (k29.K_one (Kd.FK_now hcvf))
    rw [show Nat.min 1 (c + 1 - i) = 1 from Nat.min_eq_left (by omega)] at h
    exact h
  obtain ⟨W3, hW3⟩ : ∃ W3, W3 = W2.setCells G (i * 4) cv := ⟨_, rfl⟩
  obtain ⟨cur3, hb3, hs3, hl3⟩ := setCells_row cv (i * 4) W2 nc hb2 (by omega)
  rw [← hW3] at hb3 hcp1
  -- the tail
  have hcp2 : Aside0 (∀ ty dl dc sl sc, dl = c - i → sl = c - i → (Builtin.copy_ #[22, 22] ty #[.slice (some ⟨G, (i + 1) * 4, none⟩) dl dc, .slice (some ⟨g, i * 4, none⟩) sl sc]).run Try.prog W3.drew = .ok (goInt (c - i : Nat)) (W3.drew.setCells G ((i + 1) * 4) (cur.drop (i * 4)))) := by
    refine ⟨fun ty dl dc sl sc hdl hs_ => ?_⟩
    subst hdl hs_
    have h := run_copyN (P := Try.prog) W3.drew 22 22 ty 29 4 G ((i + 1) * 4) (c - i) dc ⟨g, i * 4, none⟩ (c - i) sc (cur.drop (i * 4)) Try.underlying22 (by kernel_rfl) (by rw [List.length_drop, show Nat.min (c - i) (c - i) = c - i from Nat.min_self _]; omega)
      (fun q u hq => by
        rw [add_at]
        have h1 := hcell (i * 4 + q) u (by rwa [List.getElem?_drop] at hq)
        have h2 : W3.drew.heap[g]? = w.heap[g]? := by
          show W3.heap[g]? = _
          rw [hW3, setCells_far cv _ g (by omega)]; exact hold g hg
        simpa [World.cell?, h2] using h1)
      (fun q hq => by
        rw [cell_of_row W3.drew G _ cur3 29 (0, 0) hb3]
        have : (i + 1) * 4 + q < cur3.size := by rw [hs3, hncs]; rw [List.length_drop] at hq; omega
        rw [Array.getElem?_eq_getElem this]; rfl)
      (fun q _ => blk_frozen (show W3.drew.heap[G]? = _ from hb3) _) (fun u hu2 => hone u (List.mem_of_mem_drop hu2))
    rw [show Nat.min (c - i) (c - i) = c - i from Nat.min_self _] at h
    exact h
  have hGw : w.heap.size = G := hG.symm
  have HW2 := Aside0.mk hW2
  have HW3 := Aside0.mk hW3
  have HB2 := Aside0.mk hb2
  have HB3 := Aside0.mk hb3
  have HS3 := Aside0.mk hs3
  have HL3 := Aside0.mk hl3
  have HNCS := Aside0.mk hncs
  have HNCT := Aside0.mk hnct
  have HFK := Aside0.mk hfk
  have HCV := Aside0.mk hcvf
  have HCVL := Aside0.mk hcvl
  have HCL := Aside0.mk hcl
  have HXL := Aside0.mk hxl
  have HOLD := Aside0.mk hold
  have HBS := Aside0.mk hB
  have HG := Aside0.mk hGw
  have HF := Aside0.mk hfresh
  have HO := Aside0.mk hokp
  have hcap1 : ¬ (C = i + 1) := by omega
  have hcap2 : ¬ (C = i) := by omega
  have hcap3 : ¬ (c = i) := by omega
  have hCm := Aside0.mk hC2
  clear hone hcell hsz hfk hW2 hb2 hW3 hb3 hs3 hl3 hncs hnct hcvf hcvl hcl hblk hxl hold hB hGw hG hC hnc1 hz0 hz1 hz2 hi0 hfresh hokp hN hv hcvc hcm hC2 hnc
  go_enter Try.func38, Try.ntmps38
  go_wp2_with (first
    | ((with_reducible refine gate_builtin (b := .append) (xs := #[.tmp 34, .tmp 39]) rfl ?_); go_must (refine Lib.wpList_append_run _ rfl (.tmp 34) (.tmp 39) 22 3 rfl (.slice (some ⟨g, 0, none⟩) i c) (.int .i64 ((c : Int) + 1 - i)) rfl rfl _ _ (hap.out _) ?_))
    | ((with_reducible refine gate_builtin (b := .copy) (xs := #[.tmp 43, .tmp 44]) rfl ?_); go_must (refine wpList_copy_eq rfl (.tmp 43) (.tmp 44) 22 22 rfl (.slice (some ⟨G, i * 4, none⟩) (c + 1 - i) (C - i)) (.slice (some ⟨gv, 0, none⟩) 1 1) rfl rfl (hcp1.out _ _ _ rfl) ?_)))
  have hw1 : IntKind.i64.wrap ((i : Int) + 1) = (i : Int) + 1 := by rw [IntKind.wrap_i64]; omega
  have hq1 : (0 : Int) ≤ (i : Int) + 1 := by omega
  have hq2 : ((i : Int) + 1).toNat = i + 1 := by omega
  have hq3 : (i : Int) + 1 ≤ (c : Int) + 1 := by omega
  have hq4 : (i : Int) ≤ (c : Int) := by omega
  go_region_law (refine step_copy_eq rfl (.tmp 50) (.tmp 53) 22 22 rfl (.slice (some ⟨G, (i + 1) * 4, none⟩) (c - i) (C - (i + 1))) (.slice (some ⟨g, i * 4, none⟩) (c - i) (c - i)) ?e1 ?e2 (hcp2.out _ _ _ _ _ rfl rfl) ?_; (case e1 => simp [Act.eval, Act.put]); (case e2 => simp [Act.eval, Act.put]))
  go_wp2
  go_ret
  have hcurl : cur.length = c * 4 := HCL.out
  have hdl : (cur.drop (i * 4)).length = (c - i) * 4 := by rw [List.length_drop]; omega
  obtain ⟨cur4, hb4, hs4, hl4⟩ := setCells_row (cur.drop (i * 4)) ((i + 1) * 4) W3.drew cur3 HB3.out (by rw [HS3.out, HNCS.out, hdl]; omega)
  have hGb : base ≤ G := by rw [← HG.out]; exact hbase
  have hfar : ∀ k, k < G → (W3.drew.setCells G ((i + 1) * 4) (cur.drop (i * 4))).heap[k]? = w.heap[k]? := fun k hk => by
    rw [setCells_far _ _ k (by omega)]
    show W3.heap[k]? = _
    rw [HW3.out, setCells_far cv _ k (by omega)]
    exact HOLD.out k (by rw [HG.out]; exact hk)
  refine ⟨_, rfl, N_ins (cur := cur) (cur' := cur4.toList) (cv := cv) (i := i) (by simpa using hb4) (by rw [Array.length_toList, hs4, HS3.out, HNCS.out]; rfl) hC1 hCm.out hGb (HF.out G (by rw [HG.out]; exact Nat.le_refl _)) HXL.out (by omega) HCVL.out (by show c * 4 ≤ _; omega) ?_ (fun j y hj => ?_) ?_, ?_⟩
  · show cur4.toList.take ((c + 1) * 4) = cur.take (i * 4) ++ (cv ++ (cur.drop (i * 4)).take ((c - i) * 4))
    have hcv4 : cv.length = 4 := HCVL.out
    have e1 : cur3.toList.take ((i + 1) * 4) = cur.take (i * 4) ++ cv := by
      rw [HL3.out, HNCT.out, hcv4]
      exact List.take_left' (by rw [List.length_append, List.length_take, hcv4]; omega)
    rw [hl4, e1, List.append_assoc, List.append_assoc, ← List.append_assoc cv, ← List.append_assoc (cur.take (i * 4)), List.take_of_length_le (l := cur.drop (i * 4)) (by omega)]
    exact List.take_left' (by simp only [List.length_append, List.length_take, hcv4, hdl]; omega)
  · exact Kd.FK_mono (Kd.FK_step (Kd.FK_bound (HFK.out j y hj)) (fun k hk _ => hfar k (by rw [← HG.out]; exact hk.2))) (fun k hk => ⟨hk.1.1, by have := hk.2; rw [HG.out] at this; omega⟩)
  · exact Kd.FK_mono (Kd.FK_step (Kd.FK_bound HCV.out) (fun k hk _ => hfar k (by rw [← HG.out]; exact hk.2))) (fun k hk => ⟨HO.out k hk.1, by have := hk.2; rw [HG.out] at this; omega⟩)
  · have h1 : Below base w0 W2 := by rw [HW2.out]; exact (below_drew HBS.out).alloc (by simpa using hbase) _
    have h2 : Below base w0 W3 := by rw [HW3.out]; exact below_setCells h1 hGb _ _
    exact below_setCells (below_drew h2) hGb _ _

theorem insert_any (base : Nat) (ok okp : Nat → Prop) (vs : Value) (l : List S29) (gv : Nat) (x : S29) (i : Nat) (w0 w : World)
    (hN : Kd.N k29 29 w base ok vs l) (hB : Below base w0 w) (hbase : base ≤ w.heap.size) (hfresh : ∀ k, w.heap.size ≤ k → ok k)
    (hv : Kd.F k29 w okp (some ⟨gv, 0, none⟩) 1 [x]) (hokp : ∀ k, okp k → ok k ∧ some k ≠ vs.ownBlock) (hvb : ∃ cells, w.heap[gv]? = some (.cells cells 29 (0, 0))) (hl : l.length ≤ 1000000000) (hi : i ≤ l.length) :
    Calls Try.prog 38 #[vs, .int .i64 i, .slice (some ⟨gv, 0, none⟩) 1 1] w fun e w' =>
      ∃ v', e = .returned v' ∧ Kd.N k29 29 w' base ok v' (l.take i ++ x :: l.drop i) ∧ Below base w0 w' := by
  by_cases he : i = l.length
  · subst he
    rw [List.take_length, List.drop_length]
    exact insert_end base ok okp vs l gv x w0 w hN hB hbase hfresh hv hokp hl
  · obtain ⟨g, cap, rfl, hbg, _⟩ := Kd.N_form hN (by omega)
    have hob : (Value.slice (some ⟨g, 0, none⟩) l.length cap).ownBlock = some g := rfl
    by_cases hr : l.length + 1 ≤ cap
    · exact insert_room base ok okp g l.length cap l gv x i w0 w hN hB hbg hv (fun k hk => ⟨(hokp k hk).1, fun e => (hokp k hk).2 (by rw [e]; rfl)⟩) hvb (by omega) hr
    · obtain ⟨cells, hc⟩ := hvb
      exact insert_grow base ok okp g l.length cap l gv x i w0 w hN hB hbase hfresh hv (fun k hk => (hokp k hk).1) (blk_lt hc) hl (by omega) (by omega)
end Go.Proofs.Ytlapiebnmbbemaa.A
end
section
/- The contract of log.Put, in the print's words: an entry laid down. -/
namespace Go.Proofs.Ytlapiebnmbbemaa.A
open Go.RowKit Go.Proofs.YtlapiebnmbbemaaW.PrintWords Go.Proofs.YtlapiebnmbbemaaW.PrintLast Go.Proofs.YtlapiebnmbbemaaW.PrintMore

/-- Where Put lays an entry. -/
def putAt (l : List S29) (lab : List Int) : Nat := searchF (fun h => decide (cmpL (l.getD h z29).f0 lab ≥ 0)) l.length 0 l.length
theorem putAt_le (l : List S29) (lab : List Int) : putAt l lab ≤ l.length := (searchF_spec _ l.length 0 l.length (by omega) (by omega)).2.1
def log_Put.f (l0 : List S29) (l1_0 : List Int) (a1_1 : Int) (l1_2 : List S47) (a1_3 : Int) : Option (List S29 × Int) :=
  if l0.length ≤ 1000000000 then (if putAt l0 l1_0 < l0.length ∧ cmpL (l0.getD (putAt l0 l1_0) z29).f0 l1_0 = 0 then some ([], 1) else some (l0.take (putAt l0 l1_0) ++ ⟨l1_0, ⟨a1_1, l1_2, a1_3⟩⟩ :: l0.drop (putAt l0 l1_0), 0)) else none

theorem ne_lt {v : Value} {n : Nat} (h : ∀ k, v.ownBlock = some k → k < n) : v.ownBlock ≠ some n := fun e => by have := h n e; omega
theorem ne_base {v : Value} {w : World} {o : Obj} (h : ∀ k, v.ownBlock = some k → (w.alloc o).heap.size ≤ k) : v.ownBlock ≠ some w.heap.size := fun e => by
  have := h _ e
  rw [World.alloc, Array.size_push] at this
  omega

theorem insert_put (P0 P1 : Nat → Prop) (base : Nat) (w W : World) (v : Value) (l0 : List S29) (gv : Nat) (x : S29) (cs : List Value) (i : Nat)
    (hN : Kd.N k29 29 W base (fun k => P0 k ∨ base ≤ k) v l0) (hwb : w.heap.size ≤ base) (hbw : Below w.heap.size w W) (hblk : W.heap[gv]? = some (.cells cs.toArray 29 (0, 0)))
    (hx : Kd.FK k29 W (fun k => P1 k ∧ k < w.heap.size) x cs) (hne : v.ownBlock ≠ some gv) (hgv : w.heap.size ≤ gv) (hl : l0.length ≤ 1000000000) (hi : i ≤ l0.length) :
    Calls Try.prog 38 #[v, .int .i64 i, .slice (some ⟨gv, 0, none⟩) 1 1] W fun e w' =>
      ∃ v', e = .returned v' ∧ Kd.N k29 29 w' w.heap.size (fun k => (P0 k ∨ P1 k) ∨ w.heap.size ≤ k) v' (l0.take i ++ x :: l0.drop i) ∧ Below w.heap.size w w' := by
  have hnb := Kd.N_base hN
  refine insert_any w.heap.size (fun k => (P0 k ∨ P1 k) ∨ w.heap.size ≤ k) (fun k => (P1 k ∧ k < w.heap.size) ∨ k = gv) v l0 gv x i w W
    (Kd.N_lower (Kd.N_mono hN (fun k hk => hk.elim (fun h => .inl (.inl h)) (fun h => .inr (by omega)))) hwb) hbw hbw.size (fun k hk => .inr (by have := hbw.size; omega)) ?_ (fun k hk => ?_) ⟨_, hblk⟩ hl hi
  · intro W' hW
    refine ⟨rfl, by omega, fun _ => ⟨_, rfl, fun j p hj => ?_⟩⟩
    cases j with
    | succ j => simp at hj
    | zero =>
      simp only [List.getElem?_cons_zero, Option.some.injEq] at hj
      subst hj
      have hg : W'.heap[gv]? = some (.cells cs.toArray 29 (0, 0)) := (hW gv (.inr rfl) (blk_lt hblk)).trans hblk
      refine ⟨cs, k29.K_len (Kd.FK_now hx), hx W' (fun k hk hlt => hW k (.inl hk) hlt), fun q u hq => ?_⟩
      rw [Nat.zero_mul, Nat.zero_add, add_plain, cell_of_row W' gv _ cs.toArray 29 (0, 0) hg]
      simpa using hq
  · rcases hk with hk | rfl
    · exact ⟨.inl (.inr hk.1), fun e => by have := hnb k e.symm; have := hk.2; omega⟩
    · exact ⟨.inr hgv, fun e => hne e.symm⟩

set_option maxHeartbeats 4000000 in
set_option maxRecDepth 100000 in
theorem log_Put.calls (P0_ : Nat → Prop) (A0 : Option Addr) (c0 : Nat) (l0 : List S29) (P1_0_ : Nat → Prop) (A1_0 : Option Addr) (c1_0 : Nat) (l1_0 : List Int) (a1_1 : Int) (P1_2_ : Nat → Prop) (A1_2 : Option Addr) (c1_2 : Nat) (l1_2 : List S47) (a1_3 : Int) (r1 : List S29) (r2 : Int) (w : World) (hs0 : Kd.V k29 29 w w.heap.size (fun k_ => P0_ k_) (.slice A0 l0.length c0) l0) (hs1_0 : Kd.V (Kd.int .i64) 3 w w.heap.size (fun k_ => P1_0_ k_) (.slice A1_0 l1_0.length c1_0) l1_0) (hs1_2 : Kd.V k47 47 w w.heap.size (fun k_ => P1_2_ k_) (.slice A1_2 l1_2.length c1_2) l1_2) (h : log_Put.f l0 l1_0 a1_1 l1_2 a1_3 = some (r1, r2)) :
    Calls Try.prog 12 #[.slice A0 l0.length c0, .agg #[.slice A1_0 l1_0.length c1_0, .int .i64 a1_1, .slice A1_2 l1_2.length c1_2, .int .i64 a1_3]] w fun e w' => ∃ v0_ : Value, e = .returned (.tuple #[v0_, .int .i64 r2]) ∧ Kd.N k29 29 w' w.heap.size (fun k_ => ((P0_ k_ ∨ P1_0_ k_ ∨ P1_2_ k_) ∨ w.heap.size ≤ k_)) v0_ r1 ∧ Below w.heap.size w w' := by
  unfold log_Put.f at h
  split at h
  · rename_i hlen
    have HR := Aside0.mk h
    have HS := Aside0.mk hs0
    have HX := Aside0.mk (k29_mkF w (fun k_ => P1_0_ k_ ∨ P1_2_ k_) ⟨l1_0, ⟨a1_1, l1_2, a1_3⟩⟩ (Kd.V_reads' hs1_0).2.1 (Kd.F_mono (Kd.V_F hs1_0) (fun _ h => .inl h)) (Kd.V_reads' hs1_2).2.1 (Kd.F_mono (Kd.V_F hs1_2) (fun _ h => .inr h)))
    have HL := Aside0.mk hlen
    have HC1 := Aside0.mk (Kd.V_reads' hs1_0).2.1
    have HC0 := Aside0.mk (Kd.V_reads' hs1_0).2.2
    clear h hs0 hs1_0 hs1_2 hlen
    go_enter Try.func12, Try.ntmps12
    go_wp2_with (first
      | ((with_reducible refine gate_dst (N := 2) rfl ?_); refine box_event ?hg (N := 2) ?hd (cs := #[.slice A0 l0.length c0]) (t := 22) ?hr ?_; (case hd => rfl); (case hg => rfl); (case hr => first | (go_simp; done) | (go_simp; rfl)); intro b1 hgb w1 hbox hb; have H1 := Aside0.mk hb; have X1 := Aside0.mk hbox; clear hb hbox hgb)
      | ((with_reducible refine gate_dst (N := 3) rfl ?_); refine box_event ?hg (N := 3) ?hd (cs := #[.slice A1_0 l1_0.length c1_0, .int .i64 a1_1, .slice A1_2 l1_2.length c1_2, .int .i64 a1_3]) (t := 29) ?hr ?_; (case hd => rfl); (case hg => rfl); (case hr => first | (go_simp; done) | (go_simp; rfl)); intro b2 hgb w2 hbox hb; have H2 := Aside0.mk (below_step H1.out hb); have X2 := Aside0.mk hbox; have k1 := pw_cell_below hb ((blk_cell X1.out 0).trans rfl); clear hb hbox hgb X1 H1)
      | fail)
    have HS2 := Aside0.mk (Kd.V_below HS.out H2.out)
    have HX2 := Aside0.mk (Kd.FK_below HX.out H2.out)
    clear HS
    refine (search_put b1 b2 (fun h => decide (cmpL (l0.getD h z29).f0 l1_0 ≥ 0)) l0.length w2 (by have := HL.out; omega) (fun W i h0 hi hb => put_pred b1 b2 A0 c0 l0 #[.slice A1_0 l1_0.length c1_0, .int .i64 a1_1, .slice A1_2 l1_2.length c1_2, .int .i64 a1_3] ⟨l1_0, ⟨a1_1, l1_2, a1_3⟩⟩ i W h0 hi (pw_cell_below hb k1) ((hb.block b2 (blk_lt X2.out)).trans X2.out) (Kd.C_below (Kd.V_reads' HS2.out).2.2 hb) (Kd.FK_now (Kd.FK_below HX2.out hb)))).mono ?_
    rintro e w3 ⟨rfl, hb⟩
    have hpl := putAt_le l0 l1_0
    rw [show searchF (fun h => decide (cmpL (l0.getD h z29).f0 l1_0 ≥ 0)) l0.length 0 l0.length = putAt l0 l1_0 from rfl]
    obtain ⟨i, hi⟩ : ∃ i, putAt l0 l1_0 = i := ⟨_, rfl⟩
    rw [hi] at hpl ⊢
    have HI := Aside0.mk hi
    have k1' := pw_cell_below hb k1
    have X3 := Aside0.mk ((hb.block b2 (blk_lt X2.out)).trans X2.out)
    have HS3 := Aside0.mk (Kd.V_below HS2.out hb)
    have HX3 := Aside0.mk (Kd.FK_below HX2.out hb)
    have H3 := Aside0.mk (below_step H2.out hb)
    clear hb hi k1 X2 HS2 HX2 H2
    have e0 : w3.cell? ⟨b2, 0, none⟩ = some (.slice A1_0 l1_0.length c1_0) := (blk_cell X3.out 0).trans rfl
    have e1 : w3.cell? ⟨b2, 1, none⟩ = some (.int .i64 a1_1) := (blk_cell X3.out 1).trans rfl
    have e2 : w3.cell? ⟨b2, 2, none⟩ = some (.slice A1_2 l1_2.length c1_2) := (blk_cell X3.out 2).trans rfl
    have e3 : w3.cell? ⟨b2, 3, none⟩ = some (.int .i64 a1_3) := (blk_cell X3.out 3).trans rfl
    go_upto_region 2 with (fail)
    go_cut [25] (fun v25 wc => v25 = .bool (decide (i < l0.length ∧ cmpL (l0.getD i z29).f0 l1_0 = 0)) ∧ Aside0 (Below w3.heap.size w3 wc))
    case first =>
      by_cases hlt : i < l0.length
      · have hd1 : decide (i < l0.length) = true := decide_eq_true hlt
        have hd2 : decide ((i : Int) < (l0.length : Int)) = true := decide_eq_true (by omega)
        have hd3 : (0 : Int) ≤ (i : Int) := by omega
        have hd4 : (i : Int) < (l0.length : Int) := by omega
        obtain ⟨ad, A1, c1, A3, c3, rfl, x0, x1, x2, x3, l1, g1, l3, g3⟩ := at_T29 (Kd.V_reads' HS3.out).2.2 (i : Int) hd3 hd4
        have G1 := Aside0.mk g1
        clear x1 x2 x3 g1 g3 l3
        rw [Int.toNat_natCast] at x0
        go_wp2
        go_region_with (go_at_call 37; refine (label_CompareW.calls _ _ _ _ _ _ _ _ ?q1 l1 ?q2 HC1.out rfl).mono ?_; (case q1 => exact Kd.C_drew G1.out); (case q2 => exact Kd.C_drew (Kd.C_below HC0.out H3.out)); rintro e w' ⟨rfl, hb⟩; have HB := Aside0.mk hb; clear hb)
        all_goals
          go_wp2
          go_meet
          case rel => exact ⟨congrArg Value.bool (by rw [show rd_T29 l0 (i : Int) = l0.getD i z29 from by simp only [rd_T29, Int.toNat_natCast], Bool.eq_iff_iff, beq_iff_eq, decide_eq_true_eq]; exact ⟨fun h => ⟨hlt, h⟩, fun h => h.2⟩), ⟨below_step (below_drew (Below.refl _ _)) HB.out⟩⟩
      · have hd1 : decide (i < l0.length) = false := decide_eq_false hlt
        have hd2 : decide ((i : Int) < (l0.length : Int)) = false := decide_eq_false (by omega)
        go_wp2
        go_quiet (fail)
        go_wp2
        go_meet
        case rel => exact ⟨by simp [hlt], ⟨pw_below_drewN (Below.refl _ _) _⟩⟩
    case rest =>
      obtain ⟨rfl, hb⟩ := hcut
      have e0' := pw_cell_below hb.out e0
      have e1' := pw_cell_below hb.out e1
      have e2' := pw_cell_below hb.out e2
      have e3' := pw_cell_below hb.out e3
      have k2 := pw_cell_below hb.out k1'
      have HS4 := Aside0.mk (Kd.V_below HS3.out hb.out)
      have HX4 := Aside0.mk (Kd.FK_below HX3.out hb.out)
      have H4 := Aside0.mk (below_step H3.out hb.out)
      clear hb e0 e1 e2 e3 k1' HS3 HX3 H3 X3 HC0
      by_cases hq : i < l0.length ∧ cmpL (l0.getD i z29).f0 l1_0 = 0
      · have HQ := Aside0.mk hq
        have hdq : decide (i < l0.length ∧ cmpL (l0.getD i z29).f0 l1_0 = 0) = true := decide_eq_true hq
        clear hq
        rw [hdq]
        clear hdq
        go_wp2
        go_ret2
        have hr := HR.out
        rw [HI.out, if_pos HQ.out] at hr
        injection hr with hr
        injection hr with hr1 hr2
        subst hr1; subst hr2
        exact ⟨_, rfl, Kd.N_nil _ _ _ _ _, H4.out⟩
      · have HQ := Aside0.mk hq
        have hdq : decide (i < l0.length ∧ cmpL (l0.getD i z29).f0 l1_0 = 0) = false := decide_eq_false hq
        clear hq
        rw [hdq]
        clear hdq
        have HXB := Aside0.mk (Kd.FK_below (Kd.FK_bound HX.out) H4.out)
        go_wp2
        have k3 : (wc.alloc (Obj.cells #[.slice A1_0 l1_0.length c1_0, .int .i64 a1_1, .slice A1_2 l1_2.length c1_2, .int .i64 a1_3] 29)).cell? ⟨b1, 0, none⟩ = _ := pw_cell_below (below_alloc (Below.refl _ _) _) k2
        go_region_with (first
          | (go_at_call 31; go_must (refine (clone_entry P0_ A0 c0 l0 _ ?v1 HL.out).mono ?_; (case v1 => first | exact Kd.V_drew HS4.out | exact Kd.V_alloc (Kd.V_drew HS4.out) _ | exact Kd.V_drew (Kd.V_alloc HS4.out _)); rintro e wq ⟨v, rfl, hN, hb⟩; obtain ⟨Av, cv, rfl⟩ := Kd.N_slice hN; have HN := Aside0.mk hN; have HBq := Aside0.mk hb; (have HBw : Aside0 (Below wc.heap.size wc wq) := (by first | exact ⟨below_step (below_drew (Below.refl _ _)) hb⟩ | exact ⟨below_step (below_drew (below_alloc (Below.refl _ _) _)) hb⟩)); have f0 := pw_cell_below HBw.out e0'; have f1 := pw_cell_below HBw.out e1'; have f2 := pw_cell_below HBw.out e2'; have f3 := pw_cell_below HBw.out e3'; (first | (with_reducible have hb2 : Below (World.drew (World.alloc wc (.cells #[.slice A1_0 l1_0.length c1_0, .int .i64 a1_1, .slice A1_2 l1_2.length c1_2, .int .i64 a1_3] 29 (0, 0)))).heap.size (World.drew (World.alloc wc (.cells #[.slice A1_0 l1_0.length c1_0, .int .i64 a1_1, .slice A1_2 l1_2.length c1_2, .int .i64 a1_3] 29 (0, 0)))) wq := hb); have HBK := Aside0.mk ((hb2.block wc.heap.size (blk_lt (blk_new wc _))).trans (blk_new wc _)); clear hb2 | skip); clear hN hb))
          | (go_at_call 38; go_must ((first | refine (insert_put P0_ (fun k => P1_0_ k ∨ P1_2_ k) _ w _ _ l0 _ ⟨l1_0, ⟨a1_1, l1_2, a1_3⟩⟩ _ i HN.out ?n2 ?n3 HBK.out ?n5 ?n6 ?n7 HL.out ?n8).mono ?_ | refine (insert_put P0_ (fun k => P1_0_ k ∨ P1_2_ k) _ w _ _ l0 _ ⟨l1_0, ⟨a1_1, l1_2, a1_3⟩⟩ _ i (Kd.N_below HN.out (below_alloc (Below.refl _ _) _)) ?n2 ?n3 (blk_new wq _) ?n5 ?n6 ?n7 HL.out ?n8).mono ?_); (case n2 => first | exact H4.out.size | exact Nat.le_trans H4.out.size (below_alloc (Below.refl _ _) _).size); (case n3 => first | exact below_step H4.out HBw.out | exact below_alloc (below_step H4.out HBw.out) _); (case n5 => first | exact Kd.FK_below HXB.out HBw.out | exact Kd.FK_below HXB.out (below_alloc HBw.out _)); (case n6 => first | exact ne_lt (Kd.N_lt HN.out) | exact ne_base (Kd.N_base HN.out)); (case n7 => first | exact H4.out.size | exact Nat.le_trans H4.out.size HBq.out.size); (case n8 => exact hpl); rintro e wf ⟨v', rfl, hN, hb⟩; have HNF := Aside0.mk hN; have HBF := Aside0.mk hb; clear hN hb HN HBq HBw))
          | fail)
        all_goals
          go_wp2
          go_ret2
          have hr := HR.out
          rw [HI.out, if_neg HQ.out] at hr
          injection hr with hr
          injection hr with hr1 hr2
          subst hr1; subst hr2
          exact ⟨_, rfl, Kd.N_mono HNF.out (fun k hk => hk.imp (fun h => by rcases h with h | h | h; exact .inl h; exact .inr (.inl h); exact .inr (.inr h)) (fun h => h)), HBF.out⟩
  · cases h
end Go.Proofs.Ytlapiebnmbbemaa.A
end
section
/- The contracts of log.Ready and spinneyref20.Ready, in the print's words: what is ahead of the least open place. -/
namespace Go.Proofs.Ytlapiebnmbbemaa.A
open Go.RowKit Go.Proofs.YtlapiebnmbbemaaW.PrintWords Go.Proofs.YtlapiebnmbbemaaW.PrintLast Go.Proofs.YtlapiebnmbbemaaW.PrintMore

set_option linter.unusedVariables false
/-- The least of some labels, m among them. -/
def leastL : List Int → List (List Int) → List Int
  | m, [] => m
  | m, o :: os => leastL (if cmpL o m < 0 then o else m) os
/-- The least of some labels. -/
def leastOf (l : List (List Int)) : List Int := leastL (l.getD 0 []) l
theorem leastL_snoc (o : List Int) : ∀ (os : List (List Int)) (m : List Int), leastL m (os ++ [o]) = if cmpL o (leastL m os) < 0 then o else leastL m os
  | [], m => rfl
  | x :: os, m => by simp only [List.cons_append, leastL]; exact leastL_snoc o os _

set_option maxHeartbeats 1000000 in
set_option maxRecDepth 100000 in
/-- What Ready hands to IndexFunc. -/
theorem ready_pred (b1 : Nat) (A1 : Option Addr) (c1 : Nat) (by_ : List Int) (x : S29) (cs : List Value) (W : World) (hx : k29.K W x cs)
    (h1 : W.cell? ⟨b1, 0, none⟩ = some (.slice A1 by_.length c1)) (hr : Kd.C (Kd.int .i64) W A1 by_.length by_) (hc : by_.length ≤ c1) :
    Calls Try.prog 42 #[.agg cs.toArray, .pointer (some ⟨b1, 0, none⟩)] W fun e w' => e = .returned (.bool (decide (cmpL x.f0 by_ ≥ 0))) ∧ Below W.heap.size W w' := by
  obtain ⟨A0, c0, A2, c2, rfl, l0, g0, l2, g2⟩ := k29_open hx
  have HG := Aside0.mk g0
  have HR := Aside0.mk hr
  clear hx g0 g2 hr
  go_enter Try.func42, Try.ntmps42
  go_wp2_with (first
    | ((with_reducible refine gate_dst (N := 2) rfl ?_); refine box_event ?hg (N := 2) ?hd (cs := #[.slice A0 x.f0.length c0, .int .i64 x.f1.f0, .slice A2 x.f1.f1.length c2, .int .i64 x.f1.f2]) (t := 29) ?hr ?_; (case hd => rfl); (case hg => rfl); (case hr => first | (go_simp; done) | (go_simp; rfl)); intro gb hgb w1 hbox hb; have k0 : w1.cell? ⟨gb, 0, none⟩ = some (.slice A0 x.f0.length c0) := (blk_cell hbox 0).trans rfl; have k1 := pw_cell_below hb h1; have HB1 := Aside0.mk hb; clear hb hbox hgb h1)
    | (go_at_call 37; refine (label_CompareW.calls _ _ _ _ _ _ _ _ ?q1 l0 ?q2 ?q3 rfl).mono ?_; (case q1 => exact Kd.C_below HG.out HB1.out); (case q2 => exact Kd.C_below HR.out HB1.out); (case q3 => exact hc); rintro e w' ⟨rfl, hb⟩; have HB := Aside0.mk hb; clear hb))
  go_ret
  exact ⟨rfl, below_step HB1.out HB.out⟩

theorem leastL_take (z m : List Int) (l : List (List Int)) (k : Nat) (h : k < l.length) : leastL m (l.take (k + 1)) = if cmpL (l.getD k z) (leastL m (l.take k)) < 0 then l.getD k z else leastL m (l.take k) := by
  rw [List.take_succ_eq_append_getElem h, leastL_snoc, List.getD_eq_getElem?_getD, List.getElem?_eq_getElem h]; rfl
theorem leastLz_lt (z m : List Int) (l : List (List Int)) (i : Int) (h0 : 0 ≤ i) (hlt : i < l.length) (hf : leastL z (l.take i.toNat) = m) (h : cmpL (rd_L3 l i) m < 0) : leastL z (l.take (i + 1).toNat) = rd_L3 l i := by
  rw [show (i + 1).toNat = i.toNat + 1 by omega, leastL_take [] _ l i.toNat (by omega), hf]
  exact if_pos h
theorem leastLz_ge (z m : List Int) (l : List (List Int)) (i : Int) (h0 : 0 ≤ i) (hlt : i < l.length) (hf : leastL z (l.take i.toNat) = m) (h : 0 ≤ cmpL (rd_L3 l i) m) : leastL z (l.take (i + 1).toNat) = m := by
  rw [show (i + 1).toNat = i.toNat + 1 by omega, leastL_take [] _ l i.toNat (by omega), hf]
  exact if_neg (by unfold rd_L3 at h; omega)
theorem leastL_one (z : List Int) (l : List (List Int)) (h : 0 < l.length) : leastL (l.getD 0 z) (l.take 1) = l.getD 0 z := by
  cases l with
  | nil => simp at h
  | cons x xs => simp [leastL]

set_option maxHeartbeats 1000000 in
set_option maxRecDepth 100000 in
/-- slices.MinFunc over labels. -/
theorem min_labels (A : Option Addr) (c : Nat) (l : List (List Int)) (w : World) (hl : Kd.C (Kd.slice 3 (Kd.int .i64)) w A l.length l) (hpos : 0 < l.length) :
    Calls Try.prog 40 #[.slice A l.length c, .func (.func 37) #[] #[]] w fun e w' =>
      ∃ A1 c1, e = .returned (.slice A1 (leastOf l).length c1) ∧ (leastOf l).length ≤ c1 ∧ Kd.C (Kd.int .i64) w' A1 (leastOf l).length (leastOf l) ∧ Below w.heap.size w w' := by
  have HL := Aside0.mk hl
  have hm : l.length ≤ 9223372036854775807 := hl.2.1
  clear hl
  obtain ⟨ad, A0, c0, rfl, x0, l0, g0⟩ := at_L3 HL.out 0 (Int.le_refl _) (by omega)
  have G0 := Aside0.mk g0
  have x0' : w.cell? ad = some (.slice A0 (rd_L3 l 0).length c0) := by simpa [Addr.add] using x0
  have hd1 : decide ((l.length : Int) < 1) = false := decide_eq_false (by omega)
  have hd2 : ¬ (l.length : Int) < 1 := by omega
  have hd3 : 0 < (l.length : Int) := by omega
  clear g0 x0
  go_enter Try.func40, Try.ntmps40
  go_wp2
  go_loopw [5, 6] (fun v5 v6 wr => ∃ (i : Int) (A1 : Option Addr) (c1 : Nat) (m : List Int), v6 = .int .i64 i ∧ v5 = .slice A1 m.length c1 ∧ 1 ≤ i ∧ i ≤ l.length ∧ Aside0 (leastL (l.getD 0 []) (l.take i.toNat) = m) ∧ m.length ≤ c1 ∧ Aside0 (Kd.C (Kd.int .i64) w A1 m.length m) ∧ Aside0 (Below w.heap.size w wr)) (fun _ v6 _ => l.length - (Go.RowKit.intOf v6).toNat)
  case atStart => exact ⟨1, A0, c0, _, rfl, rfl, by omega, by omega, ⟨leastL_one [] l hpos⟩, l0, G0, ⟨Below.refl _ _⟩⟩
  case round =>
    obtain ⟨i, A1, c1, m, rfl, rfl, h0, hk, HF, hc1, G1, HB⟩ := hrel
    by_cases hlt : i < l.length
    · obtain ⟨ad, A2, c2, he, x2, l2, g2⟩ := at_L3 HL.out i (by omega) hlt
      injection he with he
      subst he
      have G2 := Aside0.mk g2
      have x3 := pw_cell_below HB.out x2
      clear g2 x2
      go_wp2_with (go_at_call 37; refine (label_CompareW.calls _ _ _ _ _ _ _ _ ?q1 l2 ?q2 hc1 rfl).mono ?_; (case q1 => exact Kd.C_below G2.out HB.out); (case q2 => exact Kd.C_below G1.out HB.out); rintro e w' ⟨rfl, hb⟩; have HB2 := Aside0.mk (below_step HB.out hb); have x4 := pw_cell_below hb x3; clear hb)
      all_goals rename_i h
      all_goals first
        | exact ⟨⟨i + 1, A2, c2, _, rfl, rfl, by omega, by omega, ⟨leastLz_lt _ m l i (by omega) hlt HF.out h⟩, l2, G2, HB2⟩, by simp [Go.RowKit.intOf]; omega⟩
        | exact ⟨⟨i + 1, A1, c1, m, rfl, rfl, by omega, by omega, ⟨leastLz_ge _ m l i (by omega) hlt HF.out h⟩, hc1, G1, HB2⟩, by simp [Go.RowKit.intOf]; omega⟩
    · obtain rfl : i = l.length := by omega
      go_wp2
      go_ret
      have hf : leastL (l.getD 0 []) (l.take (l.length : Int).toNat) = m := HF.out
      rw [Int.toNat_natCast, List.take_length] at hf
      have hf2 : leastOf l = m := hf
      rw [hf2]
      exact ⟨_, _, rfl, hc1, Kd.C_below G1.out HB.out, HB.out⟩

set_option maxHeartbeats 2000000 in
set_option maxRecDepth 100000 in
/-- slices.IndexFunc, the predicate met by a contract. -/
theorem index_ready (b1 : Nat) (p : S29 → Bool) (A : Option Addr) (c : Nat) (l : List S29) (w : World) (hl : Kd.C k29 w A l.length l)
    (hP : ∀ W x cs, Below w.heap.size w W → k29.K W x cs → Calls Try.prog 42 #[.agg cs.toArray, .pointer (some ⟨b1, 0, none⟩)] W fun e w' => e = .returned (.bool (p x)) ∧ Below W.heap.size W w') :
    Calls Try.prog 41 #[.slice A l.length c, .func (.func 42) #[] #[.pointer (some ⟨b1, 0, none⟩)]] w fun e w' =>
      e = .returned (.int .i64 (atOr (firstAt p l))) ∧ Below w.heap.size w w' := by
  have HL := Aside0.mk hl
  have HP := Aside0.mk hP
  have hm : l.length ≤ 9223372036854775807 := hl.2.1
  clear hl hP
  have hu := Try.underlying29
  go_enter Try.func41, Try.ntmps41
  go_wp2
  go_loopw [8] (fun v8 wr => ∃ i : Int, v8 = .int .i64 i ∧ 0 ≤ i ∧ i ≤ l.length ∧ Aside0 (∀ j : Nat, (j : Int) < i → p (l.getD j z29) = false) ∧ Aside0 (Below w.heap.size w wr)) (fun v8 _ => l.length - (Go.RowKit.intOf v8).toNat)
  case atStart => exact ⟨0, rfl, Int.le_refl _, by omega, ⟨fun j hj => by omega⟩, ⟨Below.refl _ _⟩⟩
  case round =>
    obtain ⟨i, rfl, h0, hk, HF, HB⟩ := hrel
    by_cases hlt : i < l.length
    · obtain ⟨ad, A0, c0, A2, c2, rfl, x0, x1, x2, x3, l0, g0, l2, g2⟩ := at_T29 (Kd.C_below HL.out HB.out) i h0 hlt
      have HK := Aside0.mk (k29_mk wr (rd_T29 l i) l0 g0 l2 g2)
      clear l0 g0 l2 g2
      go_wp2_with fail
      refine (HP.out wr (rd_T29 l i) _ HB.out HK.out).mono ?_
      rintro e w' ⟨rfl, hb⟩
      have HB2 := Aside0.mk (below_step HB.out hb)
      clear hb
      cases hp : p (rd_T29 l i) with
      | true =>
        have HR := Aside0.mk (firstAt_some p z29 l i.toNat (by omega) (fun j hj => HF.out j (by omega)) hp)
        clear hp
        go_wp2
        go_ret
        exact ⟨by rw [HR.out]; simp [atOr]; omega, HB2.out⟩
      | false =>
        have HR := Aside0.mk hp
        clear hp
        go_wp2
        go_roundw
        case rel => exact ⟨i + 1, rfl, by omega, by omega, ⟨fun j hj => by
          by_cases hji : (j : Int) < i
          · exact HF.out j hji
          · obtain rfl : j = i.toNat := by omega
            exact HR.out⟩, HB2⟩
        case measure => simp [Go.RowKit.intOf]; omega
    · go_wp2
      go_ret
      exact ⟨by rw [firstAt_none p z29 l (fun j hj => HF.out j (by omega))]; rfl, HB.out⟩

/-- How many stand ahead of all open places. -/
def readyL (l : List S29) (op : List (List Int)) : Int := if op.length = 0 then l.length else match firstAt (fun x => decide (cmpL x.f0 (leastOf op) ≥ 0)) l with
  | some k => k
  | none => l.length
theorem readyL_nil (l : List S29) (op : List (List Int)) (h : op.length = 0) : readyL l op = l.length := if_pos h
theorem readyL_neg (l : List S29) (op : List (List Int)) (h : op.length ≠ 0) (hk : atOr (firstAt (fun x => decide (cmpL x.f0 (leastOf op) ≥ 0)) l) < 0) : readyL l op = l.length := by
  unfold readyL
  rw [if_neg h]
  cases hf : firstAt (fun x => decide (cmpL x.f0 (leastOf op) ≥ 0)) l with
  | none => rfl
  | some k => rw [hf] at hk; simp only [atOr] at hk; omega
theorem readyL_pos (l : List S29) (op : List (List Int)) (h : op.length ≠ 0) (hk : 0 ≤ atOr (firstAt (fun x => decide (cmpL x.f0 (leastOf op) ≥ 0)) l)) : readyL l op = atOr (firstAt (fun x => decide (cmpL x.f0 (leastOf op) ≥ 0)) l) := by
  unfold readyL
  rw [if_neg h]
  cases hf : firstAt (fun x => decide (cmpL x.f0 (leastOf op) ≥ 0)) l with
  | none => rw [hf] at hk; simp [atOr] at hk
  | some k => rfl

def log_Ready.f (l0 : List S29) (l1 : List (List Int)) : Option Int := some (readyL l0 l1)
set_option maxHeartbeats 2000000 in
set_option maxRecDepth 100000 in
theorem log_Ready.calls (A0 : Option Addr) (c0 : Nat) (l0 : List S29) (A1 : Option Addr) (c1 : Nat) (l1 : List (List Int)) (r : Int) (w : World) (hr0 : Kd.C k29 w A0 l0.length l0) (hc0 : l0.length ≤ c0) (hr1 : Kd.C (Kd.slice 3 (Kd.int .i64)) w A1 l1.length l1) (hc1 : l1.length ≤ c1) (h : log_Ready.f l0 l1 = some r) :
    Calls Try.prog 15 #[.slice A0 l0.length c0, .slice A1 l1.length c1] w fun e w' => e = .returned (.int .i64 r) ∧ Below w.heap.size w w' := by
  injection h with h
  subst h
  have H0 := Aside0.mk hr0
  have H1 := Aside0.mk hr1
  have hm0 := hr0.2.1
  have hm1 := hr1.2.1
  clear hr0 hr1
  go_enter Try.func15, Try.ntmps15
  by_cases hz : l1.length = 0
  · have hd : (l1.length : Int) = 0 := by omega
    go_wp2
    go_ret
    exact ⟨by rw [readyL_nil l0 l1 hz]; rfl, Below.refl _ _⟩
  · have hd : ¬ (l1.length : Int) = 0 := by omega
    have HZ := Aside0.mk hz
    clear hz
    go_wp2_with (first
      | (go_at_call 40; go_must (refine (min_labels A1 c1 l1 _ H1.out (by have := HZ.out; omega)).mono ?_; rintro e w1 ⟨A2, c2, rfl, hc2, hC, hb⟩; have HC := Aside0.mk hC; have HB1 := Aside0.mk hb; have HC2 := Aside0.mk hc2; clear hC hb hc2))
      | fail)
    refine (index_ready _ (fun x => decide (cmpL x.f0 (leastOf l1) ≥ 0)) A0 c0 l0 _ (Kd.C_below H0.out (below_alloc HB1.out _)) (fun W x cs hb hK => ready_pred _ A2 c2 (leastOf l1) x cs W hK (pw_cell_below hb ((blk_cell (blk_new w1 _) 0).trans rfl)) (Kd.C_below (Kd.C_below HC.out (below_alloc (Below.refl _ _) _)) hb) HC2.out)).mono ?_
    rintro e w2 ⟨rfl, hb⟩
    have HB2 := Aside0.mk (below_step (below_alloc HB1.out _) hb)
    clear hb
    obtain ⟨n, hn⟩ : ∃ n, atOr (firstAt (fun x : S29 => decide (cmpL x.f0 (leastOf l1) ≥ 0)) l0) = n := ⟨_, rfl⟩
    rw [hn]
    have HN := Aside0.mk hn
    clear hn
    by_cases hlt : n < 0
    · have hle : ¬ 0 ≤ n := by omega
      go_wp2
      go_ret
      exact ⟨by rw [readyL_neg l0 l1 HZ.out (by rw [HN.out]; exact hlt)]; rfl, HB2.out⟩
    · have hle : 0 ≤ n := by omega
      go_wp2
      go_ret
      exact ⟨by rw [readyL_pos l0 l1 HZ.out (by rw [HN.out]; exact hle), HN.out]; rfl, HB2.out⟩

theorem readyL_at (l0 : List S29) (l1 : List (List Int)) (m : List Int) (i : Int) (hz : ¬ l1.length = 0) (hm : leastOf l1 = m) (h0 : 0 ≤ i) (hlt : i < l0.length) (hf : ∀ j : Nat, (j : Int) < i → decide (cmpL (l0.getD j z29).f0 m ≥ 0) = false) (h : 0 ≤ cmpL (rd_T29 l0 i).f0 m) : readyL l0 l1 = i := by
  unfold readyL
  rw [if_neg hz, hm, firstAt_some (fun x => decide (cmpL x.f0 m ≥ 0)) z29 l0 i.toNat (by omega) (fun j hj => hf j (by omega)) (decide_eq_true h)]
  show ((i.toNat : Nat) : Int) = i
  omega
theorem readyL_end (l0 : List S29) (l1 : List (List Int)) (m : List Int) (hz : ¬ l1.length = 0) (hm : leastOf l1 = m) (hf : ∀ j : Nat, (j : Int) < l0.length → decide (cmpL (l0.getD j z29).f0 m ≥ 0) = false) : readyL l0 l1 = l0.length := by
  unfold readyL
  rw [if_neg hz, hm, firstAt_none (fun x => decide (cmpL x.f0 m ≥ 0)) z29 l0 (fun j hj => hf j (by omega))]
theorem ahead_snoc (l0 : List S29) (m : List Int) (i : Int) (h0 : 0 ≤ i) (hlt : i < l0.length) (hf : ∀ j : Nat, (j : Int) < i → decide (cmpL (l0.getD j z29).f0 m ≥ 0) = false) (h : cmpL (rd_T29 l0 i).f0 m < 0) (j : Nat) (hj : (j : Int) < i + 1) : decide (cmpL (l0.getD j z29).f0 m ≥ 0) = false := by
  by_cases hji : (j : Int) < i
  · exact hf j hji
  · obtain rfl : j = i.toNat := by omega
    exact decide_eq_false (by unfold rd_T29 at h; omega)
def spinneyref20_Ready.f (l0 : List S29) (l1 : List (List Int)) : Option Int := some (readyL l0 l1)
set_option maxHeartbeats 2000000 in
set_option maxRecDepth 100000 in
theorem spinneyref20_Ready.calls (A0 : Option Addr) (c0 : Nat) (l0 : List S29) (A1 : Option Addr) (c1 : Nat) (l1 : List (List Int)) (r : Int) (w : World) (hr0 : Kd.C k29 w A0 l0.length l0) (hc0 : l0.length ≤ c0) (hr1 : Kd.C (Kd.slice 3 (Kd.int .i64)) w A1 l1.length l1) (hc1 : l1.length ≤ c1) (h : spinneyref20_Ready.f l0 l1 = some r) :
    Calls Try.prog 16 #[.slice A0 l0.length c0, .slice A1 l1.length c1] w fun e w' => e = .returned (.int .i64 r) ∧ Below w.heap.size w w' := by
  injection h with h
  subst h
  have H0 := Aside0.mk hr0
  have H1 := Aside0.mk hr1
  have hm0 := hr0.2.1
  have hm1 := hr1.2.1
  clear hr0 hr1
  by_cases hz : l1.length = 0
  · have hd : (l1.length : Int) = 0 := by omega
    go_enter Try.func16, Try.ntmps16
    go_wp2
    go_ret
    exact ⟨by rw [readyL_nil l0 l1 hz]; rfl, Below.refl _ _⟩
  · have hd : ¬ (l1.length : Int) = 0 := by omega
    have hd5 : ((l1.length : Int) == 0) = false := by simpa using hz
    have hd3 : 0 < (l1.length : Int) := by omega
    obtain ⟨ad, A2, c2, rfl, x0, l2, g2⟩ := at_L3 H1.out 0 (Int.le_refl _) (by omega)
    have x0' : w.cell? ad = some (.slice A2 (rd_L3 l1 0).length c2) := by simpa [Addr.add] using x0
    have G2 := Aside0.mk g2
    have HZ := Aside0.mk hz
    clear hz g2 x0
    go_enter Try.func16, Try.ntmps16
    go_wp2
    have hu := Try.underlying29
    go_loopw [5, 20] (fun v5 v20 wr => ∃ (i : Int) (A3 : Option Addr) (c3 : Nat) (m : List Int), v20 = .int .i64 i ∧ v5 = .slice A3 m.length c3 ∧ 0 ≤ i ∧ i ≤ l1.length ∧ Aside0 (leastL (rd_L3 l1 0) (l1.take i.toNat) = m) ∧ m.length ≤ c3 ∧ Aside0 (Kd.C (Kd.int .i64) w A3 m.length m) ∧ Aside0 (Below w.heap.size w wr)) (fun _ v20 _ => l1.length - (Go.RowKit.intOf v20).toNat)
    case atStart => exact ⟨0, A2, c2, _, rfl, rfl, by omega, by omega, ⟨rfl⟩, l2, G2, ⟨Below.refl _ _⟩⟩
    case round =>
      obtain ⟨i, A3, c3, m, rfl, rfl, h0, hk, HF, hc3, G3, HB⟩ := hrel
      by_cases hlt : i < l1.length
      · obtain ⟨ad, A4, c4, he, x2, l4, g4⟩ := at_L3 H1.out i (by omega) hlt
        injection he with he
        subst he
        have G4 := Aside0.mk g4
        have x3 := pw_cell_below HB.out x2
        clear g4 x2
        go_wp2_with (go_at_call 13; refine (spinneyref19_CompareW.calls _ _ _ _ _ _ _ _ ?q1 l4 ?q2 hc3 rfl).mono ?_; (case q1 => exact Kd.C_below G4.out HB.out); (case q2 => exact Kd.C_below G3.out HB.out); rintro e w' ⟨rfl, hb⟩; have HB2 := Aside0.mk (below_step HB.out hb); have x4 := pw_cell_below hb x3; clear hb)
        all_goals rename_i h
        all_goals first
        | exact ⟨⟨i + 1, A4, c4, _, rfl, rfl, by omega, by omega, ⟨leastLz_lt _ m l1 i (by omega) hlt HF.out h⟩, l4, G4, HB2⟩, by simp [Go.RowKit.intOf]; omega⟩
        | exact ⟨⟨i + 1, A3, c3, m, rfl, rfl, by omega, by omega, ⟨leastLz_ge _ m l1 i (by omega) hlt HF.out h⟩, hc3, G3, HB2⟩, by simp [Go.RowKit.intOf]; omega⟩
      · obtain rfl : i = l1.length := by omega
        have hf : leastL (rd_L3 l1 0) (l1.take (l1.length : Int).toNat) = m := HF.out
        rw [Int.toNat_natCast, List.take_length] at hf
        have HL := Aside0.mk (show leastOf l1 = m from hf)
        clear hf HF
        go_wp2
        go_loopw [32] (fun v32 wr2 => ∃ i : Int, v32 = .int .i64 i ∧ 0 ≤ i ∧ i ≤ l0.length ∧ Aside0 (∀ j : Nat, (j : Int) < i → decide (cmpL (l0.getD j z29).f0 m ≥ 0) = false) ∧ Aside0 (Below w.heap.size w wr2)) (fun v32 _ => l0.length - (Go.RowKit.intOf v32).toNat)
        case atStart => exact ⟨0, rfl, Int.le_refl _, by omega, ⟨fun j hj => by omega⟩, HB⟩
        case round =>
          obtain ⟨i, rfl, h0, hk, HF, HB1⟩ := hrel
          by_cases hlt : i < l0.length
          · obtain ⟨ae, A5, c5, A6, c6, rfl, y0, y1, y2, y3, l5, g5, l6, g6⟩ := at_T29 (Kd.C_below H0.out HB1.out) i h0 hlt
            have G5 := Aside0.mk g5
            clear g5 g6 l6
            go_wp2_with (first
              | (go_at_call 13; refine (spinneyref19_CompareW.calls _ _ _ _ _ _ _ _ ?q1 l5 ?q2 hc3 rfl).mono ?_; (case q1 => exact Kd.C_below G5.out (below_alloc (Below.refl _ _) _)); (case q2 => exact Kd.C_below G3.out (below_alloc HB1.out _)); rintro e w' ⟨rfl, hb⟩; have HB2 := Aside0.mk (below_step (below_alloc HB1.out _) hb); clear hb))
            all_goals rename_i h
            · go_ret
              exact ⟨by rw [readyL_at l0 l1 m i HZ.out HL.out h0 hlt HF.out h]; rfl, HB2.out⟩
            · exact ⟨⟨i + 1, rfl, by omega, by omega, ⟨ahead_snoc l0 m i h0 hlt HF.out h⟩, HB2⟩, by simp [Go.RowKit.intOf]; omega⟩
          · obtain rfl : i = l0.length := by omega
            go_wp2
            go_ret
            exact ⟨by rw [readyL_end l0 l1 m HZ.out HL.out HF.out]; rfl, HB1.out⟩
end Go.Proofs.Ytlapiebnmbbemaa.A
end
section
/- The contract of live: the chapter's examples hold. -/
namespace Go.Proofs.Ytlapiebnmbbemaa.A
open Go.RowKit Go.Proofs.YtlapiebnmbbemaaW.PrintWords Go.Proofs.YtlapiebnmbbemaaW.PrintLast Go.Proofs.YtlapiebnmbbemaaW.PrintMore
set_option linter.unusedVariables false

set_option maxHeartbeats 1000000 in
set_option maxRecDepth 100000 in
theorem at_any (v : Value) (A : Option Addr) (n c : Nat) (hv : v = .slice A n c) (w : World) :
    Calls Try.prog 29 #[v] w fun e w' => e = .returned (.agg #[v, .int .i64 1, .slice none 0 0, .int .i64 0]) ∧ Below w.heap.size w w' := by
  subst hv
  have hu := Try.underlying29
  have hu2 := Try.underlying27
  go_enter Try.func29, Try.ntmps29
  go_wp2
  refine bodyPost_ret (results_cell_row rfl _ _ w.heap.size 29 #[.slice A n c, .int .i64 1, .slice none 0 0, .int .i64 0] (0, 0) _ rfl (blk_new w _) Try.underlying29 rfl (by kernel_rfl)) rfl ?_
  exact ⟨rfl, below_alloc (Below.refl _ _) _⟩

/-- The examples' entries. -/
def enL (a : List Int) : S29 := ⟨a, ⟨1, [], 0⟩⟩
theorem blk_below_a {W w1 : World} {g : Nat} {o : Obj} (hb : Aside0 (Below W.heap.size W w1)) (h : W.heap[g]? = some o) : w1.heap[g]? = some o := (hb.out.block g (blk_lt h)).trans h
theorem C_below_a {α : Type} {d : Kd α} {W w1 : World} {A : Option Addr} {n : Nat} {xs : List α} (hb : Aside0 (Below W.heap.size W w1)) (h : d.C W A n xs) : d.C w1 A n xs := Kd.C_below h hb.out
theorem C_lit {α : Type} (d : Kd α) (W : World) (g e : Nat) (cells : List Value) (xs : List α) (hblk : W.heap[g]? = some (.cells cells.toArray e (0, 0))) (hm : xs.length ≤ 9223372036854775807)
    (hx : ∀ j p, xs[j]? = some p → ∃ c, c.length = d.sz ∧ d.K W p c ∧ ∀ i u, c[i]? = some u → cells[j * d.sz + i]? = some u) : d.C W (some ⟨g, 0, none⟩) xs.length xs := by
  refine ⟨rfl, hm, fun _ => ⟨_, rfl, fun j p hj => ?_⟩⟩
  obtain ⟨c, h1, h2, h3⟩ := hx j p hj
  refine ⟨c, h1, h2, fun i u hu => ?_⟩
  rw [add_plain, cell_of_row W g _ cells.toArray e (0, 0) hblk]
  simpa using h3 i u hu
theorem ints_lit (W : World) (g : Nat) (xs : List Int) (hblk : W.heap[g]? = some (.cells (xs.map (Value.int .i64)).toArray 3 (0, 0))) (hm : xs.length ≤ 1000) : (Kd.int .i64).C W (some ⟨g, 0, none⟩) xs.length xs := by
  refine C_lit _ W g 3 _ xs hblk (by omega) (fun j p hj => ⟨[.int .i64 p], rfl, rfl, fun i u hu => ?_⟩)
  cases i with
  | succ i => simp at hu
  | zero =>
    show (xs.map (Value.int .i64))[j * 1 + 0]? = some u
    rw [Nat.mul_one, Nat.add_zero, List.getElem?_map, hj]
    exact hu
theorem rows_lit (W : World) (g g2 : Nat) (xs : List Int) (hblk : W.heap[g]? = some (.cells #[.slice (some ⟨g2, 0, none⟩) xs.length xs.length] 23 (0, 0))) (hx : (Kd.int .i64).C W (some ⟨g2, 0, none⟩) xs.length xs) : (Kd.slice 3 (Kd.int .i64)).C W (some ⟨g, 0, none⟩) 1 [xs] := by
  refine C_lit _ W g 23 [_] [xs] hblk (by simp) (fun j p hj => ⟨[.slice (some ⟨g2, 0, none⟩) xs.length xs.length], rfl, ?_, fun i u hu => ?_⟩)
  · cases j with
    | succ j => simp at hj
    | zero =>
      simp only [List.getElem?_cons_zero, Option.some.injEq] at hj
      subst hj
      exact ⟨_, _, rfl, Nat.le_refl _, hx⟩
  · cases j with
    | succ j => simp at hj
    | zero => show [_][0 * 1 + i]? = some u; simpa using hu
/-- A call of Put, where only what can be read counts. -/
theorem put_reads (A0 : Option Addr) (c0 : Nat) (l0 : List S29) (A1 : Option Addr) (c1 : Nat) (la : List Int) (W : World) (h0 : Kd.C k29 W A0 l0.length l0) (hc0 : l0.length ≤ c0) (h1 : (Kd.int .i64).C W A1 la.length la) (hc1 : la.length ≤ c1) (r1 : List S29) (r2 : Int)
    (hf : log_Put.f l0 la 1 [] 0 = some (r1, r2)) :
    Calls Try.prog 12 #[.slice A0 l0.length c0, .agg #[.slice A1 la.length c1, .int .i64 1, .slice none 0 0, .int .i64 0]] W fun e w' => ∃ A c, e = .returned (.tuple #[.slice A r1.length c, .int .i64 r2]) ∧ r1.length ≤ c ∧ Kd.C k29 w' A r1.length r1 ∧ Below W.heap.size W w' := by
  refine (log_Put.calls (fun k => k < W.heap.size) A0 c0 l0 (fun k => k < W.heap.size) A1 c1 la 1 (fun k => k < W.heap.size) none 0 [] 0 r1 r2 W (Kd.V_mk hc0 (Kd.C_F k29_heap h0)) (Kd.V_mk hc1 (Kd.C_F (Kd.heap_int .i64) h1)) (Kd.V_nil _ _ _ _ _) hf).mono ?_
  rintro e w' ⟨v, rfl, hN, hb⟩
  obtain ⟨A, c, rfl⟩ := Kd.N_slice hN
  exact ⟨A, c, rfl, (Kd.N_reads' hN).2.1, (Kd.N_reads' hN).2.2, hb⟩

theorem ints_one (W : World) (g : Nat) (a : Int) (hblk : W.heap[g]? = some (.cells #[.int .i64 a] 3 (0, 0))) : (Kd.int .i64).C W (some ⟨g, 0, none⟩) 1 [a] := ints_lit W g [a] hblk (by simp)
theorem ints_two (W : World) (g : Nat) (a b : Int) (hblk : W.heap[g]? = some (.cells #[.int .i64 a, .int .i64 b] 3 (0, 0))) : (Kd.int .i64).C W (some ⟨g, 0, none⟩) 2 [a, b] := ints_lit W g [a, b] hblk (by simp)
theorem below_a {w W w1 : World} (hb : Aside0 (Below W.heap.size W w1)) (h : Below w.heap.size w W) : Below w.heap.size w w1 := below_step h hb.out
theorem put1 : log_Put.f [] [2] 1 [] 0 = some ([enL [2]], 0) := by kernel_rfl
theorem put2 : log_Put.f [enL [2]] [0] 1 [] 0 = some ([enL [0], enL [2]], 0) := by kernel_rfl
theorem put3 : log_Put.f [enL [0], enL [2]] [1, 2] 1 [] 0 = some ([enL [0], enL [1, 2], enL [2]], 0) := by kernel_rfl
theorem put4 : log_Put.f [enL [0], enL [1, 2], enL [2]] [0] 1 [] 0 = some ([], 1) := by kernel_rfl
theorem ready1 : log_Ready.f [enL [0], enL [1, 2], enL [2]] [[1, 3]] = some 2 := by kernel_rfl
theorem ready2 : log_Ready.f [enL [0], enL [1, 2], enL [2]] [[1]] = some 1 := by kernel_rfl
theorem ready3 : log_Ready.f [enL [0], enL [1, 2], enL [2]] [[2]] = some 2 := by kernel_rfl
theorem ready4 : log_Ready.f [enL [0], enL [1, 2], enL [2]] [] = some 3 := by kernel_rfl
theorem same3 : spinneyref20_Same.f 20 [enL [0], enL [1, 2], enL [2]] [enL [0], enL [1, 2], enL [2]] = some true := by kernel_rfl
/-- A log that can be read. -/
structure Logged (W : World) (A : Option Addr) (c : Nat) (L : List S29) : Prop where
  fits : L.length ≤ c
  reads : Kd.C k29 W A L.length L
theorem put_a (A0 : Option Addr) (c0 : Nat) (A1 : Option Addr) (W : World) (h : Logged W A0 c0 []) (h1 : (Kd.int .i64).C W A1 1 [2]) :
    Calls Try.prog 12 #[.slice A0 0 c0, .agg #[.slice A1 1 1, .int .i64 1, .slice none 0 0, .int .i64 0]] W fun e w' => ∃ A c, e = .returned (.tuple #[.slice A 1 c, .int .i64 0]) ∧ Logged w' A c [enL [2]] ∧ Below W.heap.size W w' := by
  refine (put_reads A0 c0 [] A1 1 [2] W h.reads h.fits h1 (Nat.le_refl _) [enL [2]] 0 put1).mono ?_
  rintro e w2 ⟨A, c, rfl, hc, hC, hb⟩
  exact ⟨A, c, rfl, ⟨hc, hC⟩, hb⟩
theorem put_b (A0 : Option Addr) (c0 : Nat) (A1 : Option Addr) (W : World) (h : Logged W A0 c0 [enL [2]]) (h1 : (Kd.int .i64).C W A1 1 [0]) :
    Calls Try.prog 12 #[.slice A0 1 c0, .agg #[.slice A1 1 1, .int .i64 1, .slice none 0 0, .int .i64 0]] W fun e w' => ∃ A c, e = .returned (.tuple #[.slice A 2 c, .int .i64 0]) ∧ Logged w' A c [enL [0], enL [2]] ∧ Below W.heap.size W w' := by
  refine (put_reads A0 c0 [enL [2]] A1 1 [0] W h.reads h.fits h1 (Nat.le_refl _) [enL [0], enL [2]] 0 put2).mono ?_
  rintro e w2 ⟨A, c, rfl, hc, hC, hb⟩
  exact ⟨A, c, rfl, ⟨hc, hC⟩, hb⟩
theorem put_c (A0 : Option Addr) (c0 : Nat) (A1 : Option Addr) (W : World) (h : Logged W A0 c0 [enL [0], enL [2]]) (h1 : (Kd.int .i64).C W A1 2 [1, 2]) :
    Calls Try.prog 12 #[.slice A0 2 c0, .agg #[.slice A1 2 2, .int .i64 1, .slice none 0 0, .int .i64 0]] W fun e w' => ∃ A c, e = .returned (.tuple #[.slice A 3 c, .int .i64 0]) ∧ Logged w' A c [enL [0], enL [1, 2], enL [2]] ∧ Below W.heap.size W w' := by
  refine (put_reads A0 c0 [enL [0], enL [2]] A1 2 [1, 2] W h.reads h.fits h1 (Nat.le_refl _) [enL [0], enL [1, 2], enL [2]] 0 put3).mono ?_
  rintro e w2 ⟨A, c, rfl, hc, hC, hb⟩
  exact ⟨A, c, rfl, ⟨hc, hC⟩, hb⟩
theorem put_d (A0 : Option Addr) (c0 : Nat) (A1 : Option Addr) (W : World) (h : Logged W A0 c0 [enL [0], enL [1, 2], enL [2]]) (h1 : (Kd.int .i64).C W A1 1 [0]) :
    Calls Try.prog 12 #[.slice A0 3 c0, .agg #[.slice A1 1 1, .int .i64 1, .slice none 0 0, .int .i64 0]] W fun e w' => ∃ A c, e = .returned (.tuple #[.slice A 0 c, .int .i64 1]) ∧ Logged w' A c [] ∧ Below W.heap.size W w' := by
  refine (put_reads A0 c0 [enL [0], enL [1, 2], enL [2]] A1 1 [0] W h.reads h.fits h1 (Nat.le_refl _) [] 1 put4).mono ?_
  rintro e w2 ⟨A, c, rfl, hc, hC, hb⟩
  exact ⟨A, c, rfl, ⟨hc, hC⟩, hb⟩
theorem Logged.below {W w1 : World} {A : Option Addr} {c : Nat} {L : List S29} (h : Logged W A c L) (hb : Below W.heap.size W w1) : Logged w1 A c L := ⟨h.fits, Kd.C_below h.reads hb⟩
theorem Logged.alloc {W : World} {A : Option Addr} {c : Nat} {L : List S29} (h : Logged W A c L) (o : Obj) : Logged (W.alloc o) A c L := ⟨h.fits, Kd.C_alloc h.reads o⟩
theorem Logged.drew {W : World} {A : Option Addr} {c : Nat} {L : List S29} (h : Logged W A c L) : Logged W.drew A c L := ⟨h.fits, Kd.C_drew h.reads⟩
theorem same_lit (A0 : Option Addr) (c0 : Nat) (A1 : Option Addr) (W : World) (h : Logged W A0 c0 [enL [0], enL [1, 2], enL [2]]) (h1 : Kd.C k29 W A1 3 [enL [0], enL [1, 2], enL [2]]) :
    Calls Try.prog 11 #[.slice A0 3 c0, .slice A1 3 3] W fun e w' => e = .returned (.bool true) ∧ Below W.heap.size W w' :=
  spinneyref20_Same.calls 20 A0 c0 [enL [0], enL [1, 2], enL [2]] A1 3 [enL [0], enL [1, 2], enL [2]] true W h.reads h.fits h1 (Nat.le_refl _) same3
theorem ready_lit (A0 : Option Addr) (c0 : Nat) (A1 : Option Addr) (W : World) (os : List Int) (r : Int) (hf : log_Ready.f [enL [0], enL [1, 2], enL [2]] [os] = some r) (h : Logged W A0 c0 [enL [0], enL [1, 2], enL [2]]) (h1 : (Kd.slice 3 (Kd.int .i64)).C W A1 1 [os]) :
    Calls Try.prog 15 #[.slice A0 3 c0, .slice A1 1 1] W fun e w' => e = .returned (.int .i64 r) ∧ Below W.heap.size W w' :=
  log_Ready.calls A0 c0 [enL [0], enL [1, 2], enL [2]] A1 1 [os] r W h.reads h.fits h1 (Nat.le_refl _) hf
theorem ready_nil (A0 : Option Addr) (c0 : Nat) (W : World) (h : Logged W A0 c0 [enL [0], enL [1, 2], enL [2]]) :
    Calls Try.prog 15 #[.slice A0 3 c0, .slice none 0 0] W fun e w' => e = .returned (.int .i64 3) ∧ Below W.heap.size W w' :=
  log_Ready.calls A0 c0 [enL [0], enL [1, 2], enL [2]] none 0 [] 3 W h.reads h.fits (Kd.C_nil _ _) (Nat.le_refl _) ready4
theorem rows_one (W : World) (g g2 : Nat) (a : Int) (hblk : W.heap[g]? = some (.cells #[.slice (some ⟨g2, 0, none⟩) 1 1] 23 (0, 0))) (hx : W.heap[g2]? = some (.cells #[.int .i64 a] 3 (0, 0))) : (Kd.slice 3 (Kd.int .i64)).C W (some ⟨g, 0, none⟩) 1 [[a]] := rows_lit W g g2 [a] hblk (ints_one W g2 a hx)
theorem rows_two (W : World) (g g2 : Nat) (a b : Int) (hblk : W.heap[g]? = some (.cells #[.slice (some ⟨g2, 0, none⟩) 2 2] 23 (0, 0))) (hx : W.heap[g2]? = some (.cells #[.int .i64 a, .int .i64 b] 3 (0, 0))) : (Kd.slice 3 (Kd.int .i64)).C W (some ⟨g, 0, none⟩) 1 [[a, b]] := rows_lit W g g2 [a, b] hblk (ints_two W g2 a b hx)
theorem en_K (W : World) (g n : Nat) (a : List Int) (h : (Kd.int .i64).C W (some ⟨g, 0, none⟩) a.length a) (hn : a.length = n) : k29.K W (enL a) [.slice (some ⟨g, 0, none⟩) n n, .int .i64 1, .slice none 0 0, .int .i64 0] := by
  subst hn
  exact k29_mk W (enL a) (Nat.le_refl _) h (Nat.le_refl _) (Kd.C_nil _ _)
theorem rows3 (W : World) (g g0 g1 g2 : Nat) (hblk : W.heap[g]? = some (.cells #[.slice (some ⟨g0, 0, none⟩) 1 1, .int .i64 1, .slice none 0 0, .int .i64 0, .slice (some ⟨g1, 0, none⟩) 2 2, .int .i64 1, .slice none 0 0, .int .i64 0, .slice (some ⟨g2, 0, none⟩) 1 1, .int .i64 1, .slice none 0 0, .int .i64 0] 29 (0, 0)))
    (h0 : W.heap[g0]? = some (.cells #[.int .i64 0] 3 (0, 0))) (h1 : W.heap[g1]? = some (.cells #[.int .i64 1, .int .i64 2] 3 (0, 0))) (h2 : W.heap[g2]? = some (.cells #[.int .i64 2] 3 (0, 0))) : Kd.C k29 W (some ⟨g, 0, none⟩) 3 [enL [0], enL [1, 2], enL [2]] := by
  refine C_lit _ W g 29 [_, _, _, _, _, _, _, _, _, _, _, _] [enL [0], enL [1, 2], enL [2]] hblk (by simp) (fun j p hj => ?_)
  match j with
  | 0 => cases hj; exact ⟨_, rfl, en_K W g0 1 [0] (ints_one W g0 0 h0) rfl, fun i u hu => by match i with | 0 => exact hu | 1 => exact hu | 2 => exact hu | 3 => exact hu | i + 4 => simp at hu⟩
  | 1 => cases hj; exact ⟨_, rfl, en_K W g1 2 [1, 2] (ints_two W g1 1 2 h1) rfl, fun i u hu => by match i with | 0 => exact hu | 1 => exact hu | 2 => exact hu | 3 => exact hu | i + 4 => simp at hu⟩
  | 2 => cases hj; exact ⟨_, rfl, en_K W g2 1 [2] (ints_one W g2 2 h2) rfl, fun i u hu => by match i with | 0 => exact hu | 1 => exact hu | 2 => exact hu | 3 => exact hu | i + 4 => simp at hu⟩
  | j + 3 => simp at hj
theorem blk_new2 (w : World) (o o' : Obj) : ((w.alloc o).alloc o').heap[w.heap.size + 1]? = some o' := by
  have h := blk_new (w.alloc o) o'
  rwa [show (w.alloc o).heap.size = w.heap.size + 1 from Array.size_push ..] at h
theorem rows_one' (w : World) (a : Int) : (Kd.slice 3 (Kd.int .i64)).C ((w.alloc (.cells #[.int .i64 a] 3)).alloc (.cells #[.slice (some ⟨w.heap.size, 0, none⟩) 1 1] 23)) (some ⟨w.heap.size + 1, 0, none⟩) 1 [[a]] :=
  rows_one _ _ w.heap.size a (blk_new2 _ _ _) (blk_alloc (blk_new _ _) _)
theorem rows_two' (w : World) (a b : Int) : (Kd.slice 3 (Kd.int .i64)).C ((w.alloc (.cells #[.int .i64 a, .int .i64 b] 3)).alloc (.cells #[.slice (some ⟨w.heap.size, 0, none⟩) 2 2] 23)) (some ⟨w.heap.size + 1, 0, none⟩) 1 [[a, b]] :=
  rows_two _ _ w.heap.size a b (blk_new2 _ _ _) (blk_alloc (blk_new _ _) _)

def spinneylaw20_live.f : Option Bool := some true
set_option maxHeartbeats 1000000 in
set_option maxRecDepth 100000 in
theorem spinneylaw20_live.calls (r : Bool) (w : World) (h : spinneylaw20_live.f = some r) :
    Calls Try.prog 7 #[] w fun e w' => e = .returned (.bool r) ∧ Below w.heap.size w w' := by
  injection h with h
  subst h
  go_enter Try.func7, Try.ntmps7
  go_upto_region 5 with (first
    | (go_at_call 29; go_must (refine (at_any _ _ _ _ rfl _).mono ?_; rintro e w1 ⟨rfl, hb⟩; have HB1 := Aside0.mk hb; (try have HC2 := Aside0.mk (Logged.below (Logged.alloc HC2.out _) hb)); clear hb))
    | (go_at_call 12; go_must ((first
        | (rename Aside0 (Logged _ _ _ [enL [0], enL [1, 2], enL [2]]) => hg; refine (put_d _ _ _ _ hg.out ?i).mono ?_; (case i => refine ints_one _ _ _ ?_; (repeat (first | (with_reducible exact blk_new _ _) | (with_reducible exact blk_new2 _ _ _) | (with_reducible refine blk_alloc ?_ _) | (with_reducible refine blk_drew ?_) | (with_reducible refine blk_below_a (by assumption) ?_))); done))
        | (rename Aside0 (Logged _ _ _ [enL [0], enL [2]]) => hg; refine (put_c _ _ _ _ hg.out ?i).mono ?_; (case i => refine ints_two _ _ _ _ ?_; (repeat (first | (with_reducible exact blk_new _ _) | (with_reducible exact blk_new2 _ _ _) | (with_reducible refine blk_alloc ?_ _) | (with_reducible refine blk_drew ?_) | (with_reducible refine blk_below_a (by assumption) ?_))); done))
        | (rename Aside0 (Logged _ _ _ [enL [2]]) => hg; refine (put_b _ _ _ _ hg.out ?i).mono ?_; (case i => refine ints_one _ _ _ ?_; (repeat (first | (with_reducible exact blk_new _ _) | (with_reducible exact blk_new2 _ _ _) | (with_reducible refine blk_alloc ?_ _) | (with_reducible refine blk_drew ?_) | (with_reducible refine blk_below_a (by assumption) ?_))); done))
        | ((fail_if_success (rename Aside0 (Logged _ _ _ _) => hg)); refine (put_a none 0 _ _ ⟨Nat.le_refl _, Kd.C_nil _ _⟩ ?i).mono ?_; (case i => refine ints_one _ _ _ ?_; (repeat (first | (with_reducible exact blk_new _ _) | (with_reducible exact blk_new2 _ _ _) | (with_reducible refine blk_alloc ?_ _) | (with_reducible refine blk_drew ?_) | (with_reducible refine blk_below_a (by assumption) ?_))); done))); rintro e w2 ⟨A, c, rfl, hL, hb⟩; have HB2 := Aside0.mk hb; (try have HL := Aside0.mk (Logged.below hg.out hb)); have HC2 := Aside0.mk hL; clear hb hL))
    | fail)
  have HB0 : Aside0 (Below w.heap.size w w2) := ⟨by (repeat (first | (with_reducible exact Below.refl _ _) | (with_reducible refine below_alloc ?_ _) | (with_reducible refine below_drew ?_) | (with_reducible refine below_a (by assumption) ?_)))⟩
  go_wp2_with (first
    | (go_at_call 29; go_must (refine (at_any _ _ _ _ rfl _).mono ?_; rintro e w1 ⟨rfl, hb⟩; have HB1 := Aside0.mk hb; clear hb))
    | (go_at_call 11; go_must (refine (same_lit _ _ _ _ ?ql ?qr).mono ?_; (case ql => exact ⟨HL.out.fits, by (repeat (first | (with_reducible exact HL.out.reads) | (with_reducible refine Kd.C_alloc ?_ _) | (with_reducible refine Kd.C_drew ?_) | (with_reducible refine C_below_a (by assumption) ?_)))⟩); (case qr => exact rows3 _ _ _ _ _ (by (repeat (first | (with_reducible exact blk_new _ _) | (with_reducible exact blk_new2 _ _ _) | (with_reducible refine blk_alloc ?_ _) | (with_reducible refine blk_drew ?_) | (with_reducible refine blk_below_a (by assumption) ?_)))) (by (repeat (first | (with_reducible exact blk_new _ _) | (with_reducible exact blk_new2 _ _ _) | (with_reducible refine blk_alloc ?_ _) | (with_reducible refine blk_drew ?_) | (with_reducible refine blk_below_a (by assumption) ?_)))) (by (repeat (first | (with_reducible exact blk_new _ _) | (with_reducible exact blk_new2 _ _ _) | (with_reducible refine blk_alloc ?_ _) | (with_reducible refine blk_drew ?_) | (with_reducible refine blk_below_a (by assumption) ?_)))) (by (repeat (first | (with_reducible exact blk_new _ _) | (with_reducible exact blk_new2 _ _ _) | (with_reducible refine blk_alloc ?_ _) | (with_reducible refine blk_drew ?_) | (with_reducible refine blk_below_a (by assumption) ?_))))); rintro e w3 ⟨rfl, hb⟩; have HB1 := Aside0.mk hb; clear hb))
    | (go_at_call_of 15 (Value.slice none 0 0); go_must (refine (ready_nil _ _ _ ?ql).mono ?_; (case ql => exact ⟨HL.out.fits, by (repeat (first | (with_reducible exact HL.out.reads) | (with_reducible refine Kd.C_alloc ?_ _) | (with_reducible refine Kd.C_drew ?_) | (with_reducible refine C_below_a (by assumption) ?_)))⟩); rintro e w3 ⟨rfl, hb⟩; have HB1 := Aside0.mk hb; clear hb))
    | (go_at_call 15; go_must ((first
        | (refine (ready_lit _ _ _ _ [1, 3] 2 ready1 ?ql ?qr).mono ?_; (case ql => exact ⟨HL.out.fits, by (repeat (first | (with_reducible exact HL.out.reads) | (with_reducible refine Kd.C_alloc ?_ _) | (with_reducible refine Kd.C_drew ?_) | (with_reducible refine C_below_a (by assumption) ?_)))⟩); (case qr => with_reducible exact rows_two' _ _ _))
        | (refine (ready_lit _ _ _ _ [1] 1 ready2 ?ql ?qr).mono ?_; (case ql => exact ⟨HL.out.fits, by (repeat (first | (with_reducible exact HL.out.reads) | (with_reducible refine Kd.C_alloc ?_ _) | (with_reducible refine Kd.C_drew ?_) | (with_reducible refine C_below_a (by assumption) ?_)))⟩); (case qr => with_reducible exact rows_one' _ _))
        | (refine (ready_lit _ _ _ _ [2] 2 ready3 ?ql ?qr).mono ?_; (case ql => exact ⟨HL.out.fits, by (repeat (first | (with_reducible exact HL.out.reads) | (with_reducible refine Kd.C_alloc ?_ _) | (with_reducible refine Kd.C_drew ?_) | (with_reducible refine C_below_a (by assumption) ?_)))⟩); (case qr => with_reducible exact rows_one' _ _))); rintro e w3 ⟨rfl, hb⟩; have HB1 := Aside0.mk hb; clear hb))
    | fail)
  go_ret
  exact ⟨rfl, by (repeat (first | (with_reducible exact Below.refl _ _) | (with_reducible refine below_alloc ?_ _) | (with_reducible refine below_drew ?_) | (with_reducible refine below_a (by assumption) ?_)))⟩
end Go.Proofs.Ytlapiebnmbbemaa.A
end
