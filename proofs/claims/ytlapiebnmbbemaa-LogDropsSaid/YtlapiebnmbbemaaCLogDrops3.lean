/- The statement of LogDrops holds: whatever comes in, the law returns true and what came in reads as it did. -/
import Derived.Test.YtlapiebnmbbemaaCLogDrops0
import Derived.Test.YtlapiebnmbbemaaCLogDrops1
import Derived.Test.YtlapiebnmbbemaaCLogDrops2
import Derived.ChangeArms
import Derived.ChangeSlices
import Derived.Test.YtlapiebnmbbemaaRows
import Derived.WalkKit
import Derived.ProofKit
import Derived.OpenShut
import Derived.ShutString
import Derived.ChangeOld
import Derived.Below
import Derived.SizedLaws
section
-- Written by my drive.py over the kit's print program. Not trusted: Lean checks it.
namespace Go.Proofs.Ytlapiebnmbbemaa.A
open Go.RowKit Go.Proofs.YtlapiebnmbbemaaW.PrintWords Go.Proofs.YtlapiebnmbbemaaW.PrintLast Go.Proofs.YtlapiebnmbbemaaW.PrintMore
attribute [local go_sem] max2_int min2_int max_two min_two max_three min_three max_four min_four   -- for this text's walks alone
set_option linter.unusedVariables false
set_option linter.unusedSimpArgs false

/-! ### spinneylaw20_LogDrops: function 4 -/
mutual
def spinneylaw20_LogDrops.j0 : Nat → List (S29) → List Int → Int → List (List Int) → Bool → Bool → Option (Bool)
  | 0, _, _, _, _, _, _ => none
  | k + 1, x0, x1, x2, x3, x9, x22 => if x22 = true then (some x9) else (if ([] : List (S29)).length + x0.length < 2199023255552 then ((some (([] : List (S29)) ++ x0 : List (S29))).bind fun y103 => ((log_Drop.f y103 x1 x2).bind fun t106 => ((spinneyref20_Drop.f k x0 x1 x2).bind fun t109 => ((spinneyref20_Same.f k t106 t109).bind fun t112 => (if t112 = true then ((log_Ready.f y103 x3).bind fun t113 => ((spinneyref20_Ready.f x0 x3).bind fun t114 => (if t113 = t114 then ((log_Events.f k y103).bind fun t115 => ((spinneyref20_Events.f k x0).bind fun t118 => ((spinneyref14_SameEvents.f k t115 t118).bind fun t121 => (spinneylaw20_LogDrops.j1 k x0 x9 y103 t106 t121)))) else (spinneylaw20_LogDrops.j1 k x0 x9 y103 t106 false)))) else (spinneylaw20_LogDrops.j1 k x0 x9 y103 t106 false)))))) else (none))
def spinneylaw20_LogDrops.j1 : Nat → List (S29) → Bool → List (S29) → List (S29) → Bool → Option (Bool)
  | 0, _, _, _, _, _ => none
  | k + 1, x0, x9, x10, x11, x12 => spinneylaw20_LogDrops.l0 k x0 x9 x10 x11 x12 (x11.length : Int) 0
def spinneylaw20_LogDrops.l0 : Nat → List (S29) → Bool → List (S29) → List (S29) → Bool → Int → Int → Option (Bool)
  | 0, _, _, _, _, _, _, _ => none
  | k + 1, x0, x9, x10, x11, x12, x53, x54 => if x54 < x53 then (if 0 ≤ x54 then (if x54 < (x11.length : Int) then (spinneylaw20_LogDrops.l0 k x0 x9 x10 (x11.set (x54 : Int).toNat (⟨(rd_T29 x11 x54).f0, (⟨77, (rd_T29 x11 x54).f1.f1, (rd_T29 x11 x54).f1.f2⟩ : S27)⟩ : S29)) x12 x53 (wrap64 (x54 + 1))) else (none)) else (none)) else (if x9 = true then (if x12 = true then ((spinneyref20_Same.f k x10 x0).bind fun t123 => (some t123)) else (some false)) else (some false))
end
def spinneylaw20_LogDrops.f (k : Nat) (l0 : List (S29)) (l1 : List Int) (a2 : Int) (l3 : List (List Int)) : Option (Bool) := (spinneylaw20_live.f).bind fun t101 => ((spinneylaw20_big.f k l0 l3).bind fun t102 => (if t102 = true then (spinneylaw20_LogDrops.j0 k l0 l1 a2 l3 t101 true) else (spinneylaw20_LogDrops.j0 k l0 l1 a2 l3 t101 (decide ((l1.length : Int) > 100)))))
theorem spinneylaw20_LogDrops.mono_l : ∀ k, (∀ y0 y1 y2 y3 y4 y5, LeO (spinneylaw20_LogDrops.j0 k y0 y1 y2 y3 y4 y5) (spinneylaw20_LogDrops.j0 (k + 1) y0 y1 y2 y3 y4 y5)) ∧ (∀ y0 y1 y2 y3 y4, LeO (spinneylaw20_LogDrops.j1 k y0 y1 y2 y3 y4) (spinneylaw20_LogDrops.j1 (k + 1) y0 y1 y2 y3 y4)) ∧ (∀ y0 y1 y2 y3 y4 y5 y6, LeO (spinneylaw20_LogDrops.l0 k y0 y1 y2 y3 y4 y5 y6) (spinneylaw20_LogDrops.l0 (k + 1) y0 y1 y2 y3 y4 y5 y6))
  | 0 => ⟨fun _ _ _ _ _ _ r h => by simp [spinneylaw20_LogDrops.j0] at h, fun _ _ _ _ _ r h => by simp [spinneylaw20_LogDrops.j1] at h, fun _ _ _ _ _ _ _ r h => by simp [spinneylaw20_LogDrops.l0] at h⟩
  | k + 1 => by
    obtain ⟨ih0, ih1, ih2⟩ := spinneylaw20_LogDrops.mono_l k
    refine ⟨?_, ?_, ?_⟩
    · intro y0 y1 y2 y3 y4 y5
      unfold spinneylaw20_LogDrops.j0
      repeat' first
      | (with_reducible exact ih0 _ _ _ _ _ _)
      | (with_reducible exact ih1 _ _ _ _ _)
      | (with_reducible exact ih2 _ _ _ _ _ _ _)
      | (with_reducible exact log_Events.mono _ _)
      | (with_reducible exact spinneylaw20_big.mono _ _ _)
      | (with_reducible exact spinneyref14_SameEvents.mono _ _ _)
      | (with_reducible exact spinneyref20_Drop.mono _ _ _ _)
      | (with_reducible exact spinneyref20_Events.mono _ _)
      | (with_reducible exact spinneyref20_Same.mono _ _ _)
      | (with_reducible exact LeO.refl _)
      | (with_reducible exact LeO.none _)
      | (with_reducible refine LeO.ite ?_ ?_)
      | (with_reducible refine LeO.bind ?_ (fun _ => ?_))
      | exact ih0 _ _ _ _ _ _
      | exact ih1 _ _ _ _ _
      | exact ih2 _ _ _ _ _ _ _
      | exact log_Events.mono _ _
      | exact spinneylaw20_big.mono _ _ _
      | exact spinneyref14_SameEvents.mono _ _ _
      | exact spinneyref20_Drop.mono _ _ _ _
      | exact spinneyref20_Events.mono _ _
      | exact spinneyref20_Same.mono _ _ _
      | exact LeO.none _
      | refine LeO.ite ?_ ?_
      | refine LeO.bind ?_ (fun _ => ?_)
    · intro y0 y1 y2 y3 y4
      unfold spinneylaw20_LogDrops.j1
      repeat' first
      | (with_reducible exact ih0 _ _ _ _ _ _)
      | (with_reducible exact ih1 _ _ _ _ _)
      | (with_reducible exact ih2 _ _ _ _ _ _ _)
      | (with_reducible exact log_Events.mono _ _)
      | (with_reducible exact spinneylaw20_big.mono _ _ _)
      | (with_reducible exact spinneyref14_SameEvents.mono _ _ _)
      | (with_reducible exact spinneyref20_Drop.mono _ _ _ _)
      | (with_reducible exact spinneyref20_Events.mono _ _)
      | (with_reducible exact spinneyref20_Same.mono _ _ _)
      | (with_reducible exact LeO.refl _)
      | (with_reducible exact LeO.none _)
      | (with_reducible refine LeO.ite ?_ ?_)
      | (with_reducible refine LeO.bind ?_ (fun _ => ?_))
      | exact ih0 _ _ _ _ _ _
      | exact ih1 _ _ _ _ _
      | exact ih2 _ _ _ _ _ _ _
      | exact log_Events.mono _ _
      | exact spinneylaw20_big.mono _ _ _
      | exact spinneyref14_SameEvents.mono _ _ _
      | exact spinneyref20_Drop.mono _ _ _ _
      | exact spinneyref20_Events.mono _ _
      | exact spinneyref20_Same.mono _ _ _
      | exact LeO.none _
      | refine LeO.ite ?_ ?_
      | refine LeO.bind ?_ (fun _ => ?_)
    · intro y0 y1 y2 y3 y4 y5 y6
      unfold spinneylaw20_LogDrops.l0
      repeat' first
      | (with_reducible exact ih0 _ _ _ _ _ _)
      | (with_reducible exact ih1 _ _ _ _ _)
      | (with_reducible exact ih2 _ _ _ _ _ _ _)
      | (with_reducible exact log_Events.mono _ _)
      | (with_reducible exact spinneylaw20_big.mono _ _ _)
      | (with_reducible exact spinneyref14_SameEvents.mono _ _ _)
      | (with_reducible exact spinneyref20_Drop.mono _ _ _ _)
      | (with_reducible exact spinneyref20_Events.mono _ _)
      | (with_reducible exact spinneyref20_Same.mono _ _ _)
      | (with_reducible exact LeO.refl _)
      | (with_reducible exact LeO.none _)
      | (with_reducible refine LeO.ite ?_ ?_)
      | (with_reducible refine LeO.bind ?_ (fun _ => ?_))
      | exact ih0 _ _ _ _ _ _
      | exact ih1 _ _ _ _ _
      | exact ih2 _ _ _ _ _ _ _
      | exact log_Events.mono _ _
      | exact spinneylaw20_big.mono _ _ _
      | exact spinneyref14_SameEvents.mono _ _ _
      | exact spinneyref20_Drop.mono _ _ _ _
      | exact spinneyref20_Events.mono _ _
      | exact spinneyref20_Same.mono _ _ _
      | exact LeO.none _
      | refine LeO.ite ?_ ?_
      | refine LeO.bind ?_ (fun _ => ?_)
theorem spinneylaw20_LogDrops.mono : ∀ a0 a1 a2 a3 k, LeO (spinneylaw20_LogDrops.f k a0 a1 a2 a3) (spinneylaw20_LogDrops.f (k + 1) a0 a1 a2 a3) := by
  intro a0 a1 a2 a3 k
  obtain ⟨ih0, ih1, ih2⟩ := spinneylaw20_LogDrops.mono_l k
  unfold spinneylaw20_LogDrops.f
  repeat' first
      | (with_reducible exact ih0 _ _ _ _ _ _)
      | (with_reducible exact ih1 _ _ _ _ _)
      | (with_reducible exact ih2 _ _ _ _ _ _ _)
      | (with_reducible exact log_Events.mono _ _)
      | (with_reducible exact spinneylaw20_big.mono _ _ _)
      | (with_reducible exact spinneyref14_SameEvents.mono _ _ _)
      | (with_reducible exact spinneyref20_Drop.mono _ _ _ _)
      | (with_reducible exact spinneyref20_Events.mono _ _)
      | (with_reducible exact spinneyref20_Same.mono _ _ _)
      | (with_reducible exact LeO.refl _)
      | (with_reducible exact LeO.none _)
      | (with_reducible refine LeO.ite ?_ ?_)
      | (with_reducible refine LeO.bind ?_ (fun _ => ?_))
      | exact ih0 _ _ _ _ _ _
      | exact ih1 _ _ _ _ _
      | exact ih2 _ _ _ _ _ _ _
      | exact log_Events.mono _ _
      | exact spinneylaw20_big.mono _ _ _
      | exact spinneyref14_SameEvents.mono _ _ _
      | exact spinneyref20_Drop.mono _ _ _ _
      | exact spinneyref20_Events.mono _ _
      | exact spinneyref20_Same.mono _ _ _
      | exact LeO.none _
      | refine LeO.ite ?_ ?_
      | refine LeO.bind ?_ (fun _ => ?_)
set_option maxHeartbeats 8000000 in
set_option maxRecDepth 100000 in
theorem spinneylaw20_LogDrops.calls (k : Nat) (P0_ : Nat → Prop) (A0 : Option Addr) (c0 : Nat) (l0 : List (S29)) (A1 : Option Addr) (c1 : Nat) (l1 : List Int) (a2 : Int) (A3 : Option Addr) (c3 : Nat) (l3 : List (List Int)) (r : Bool) (w : World) (hs0 : Kd.V k29 29 w w.heap.size (fun k_ => P0_ k_) (.slice A0 l0.length c0) l0) (hr1 : Kd.C (Kd.int .i64) w A1 l1.length l1) (hc1 : l1.length ≤ c1) (hr3 : Kd.C (Kd.slice 3 (Kd.int .i64)) w A3 l3.length l3) (hc3 : l3.length ≤ c3) (h : spinneylaw20_LogDrops.f k l0 l1 a2 l3 = some r) :
    Calls Try.prog 4 #[.slice A0 l0.length c0, .slice A1 l1.length c1, .int .i64 a2, .slice A3 l3.length c3] w fun e w' => e = .returned (.bool r) ∧ Below w.heap.size w w' := by
  have HO0 := Aside0.mk (show Kd.V k29 29 w w.heap.size (fun k_ => (P0_ k_ ∨ w.heap.size ≤ k_)) (.slice A0 l0.length c0) l0 from Kd.V_mono hs0 (fun k_ hk => .inl hk))
  have HR1 := Aside0.mk hr1
  have HC1 := Aside0.mk hc1
  clear hr1 hc1
  have HR3 := Aside0.mk hr3
  have HC3 := Aside0.mk hc3
  clear hr3 hc3
  have HB := Aside0.mk (Below.refl w.heap.size w)
  have H : ((spinneylaw20_live.f).bind fun t101 => ((spinneylaw20_big.f k l0 l3).bind fun t102 => (if t102 = true then (spinneylaw20_LogDrops.j0 k l0 l1 a2 l3 t101 true) else (spinneylaw20_LogDrops.j0 k l0 l1 a2 l3 t101 (decide ((l1.length : Int) > 100)))))) = some r := h
  clear h
  replace H := Option.bind_eq_some_iff.mp H
  obtain ⟨t101, A50, H⟩ := H
  replace H : ((spinneylaw20_big.f k l0 l3).bind fun t102 => (if t102 = true then (spinneylaw20_LogDrops.j0 k l0 l1 a2 l3 t101 true) else (spinneylaw20_LogDrops.j0 k l0 l1 a2 l3 t101 (decide ((l1.length : Int) > 100))))) = some r := H
  have A5 := Aside0.mk A50
  clear A50
  have HC6 := Aside0.mk H
  clear H
  go_enter Try.func4, Try.ntmps4
  go_upto_region 2 with (first | ((with_reducible refine gate_callee (f := 7) rfl ?_); refine goesL_ (some 14) rfl rfl Try.func7 (by kernel_rfl) rfl #[] rfl (by (try simp only [List.map_toArray, List.map_cons, List.map_nil]); first | done | rfl | (simp only [List.length_drop, List.length_take]; rfl)) ?_; (with_reducible refine (spinneylaw20_live.calls  t101 _ A5.out).mono ?_); rintro e w7 ⟨rfl, hb⟩; refine ⟨_, rfl, ?_⟩; have n0_ := Aside0.mk (Kd.V_below (by (with_reducible repeat (first | apply Kd.V_alloc | apply Kd.V_drewN | apply Kd.V_drew)); exact HO0.out) hb); have n1_ := Aside0.mk (below_step (by repeat (first | (with_reducible first | exact HB.out | apply below_alloc | apply pw_below_drewN | apply below_drew1) | exact HB.out)) hb); clear HO0; clear HB; have HO0 := n0_; have HB := n1_; clear n0_ n1_; (try clear hb); (try clear hb2); (try clear hk); (try clear hi)))
  (try simp only [Act.put, List.setIfInBounds_toArray, List.set_cons_zero, List.set_cons_succ])
  go_cut [22] (fun v22 wc => ∃ (kq : Nat) (x22_5 : Bool), v22 = .bool x22_5 ∧ Aside0 (spinneylaw20_LogDrops.j0 kq l0 l1 a2 l3 t101 x22_5 = some r) ∧ Aside0 (kq ≤ k) ∧ Aside0 (Kd.V k29 29 wc w.heap.size (fun k_ => (P0_ k_ ∨ w.heap.size ≤ k_)) (.slice A0 l0.length c0) l0) ∧ Aside0 (Below w.heap.size w wc))
  case first =>
    have H := HC6.out
    clear HC6
    replace H := Option.bind_eq_some_iff.mp H
    obtain ⟨t102, A80, H⟩ := H
    replace H : (if t102 = true then (spinneylaw20_LogDrops.j0 k l0 l1 a2 l3 t101 true) else (spinneylaw20_LogDrops.j0 k l0 l1 a2 l3 t101 (decide ((l1.length : Int) > 100)))) = some r := H
    have A8 := Aside0.mk A80
    clear A80
    by_cases c9 : t102 = true
    · subst c9
      have H1 : (spinneylaw20_LogDrops.j0 k l0 l1 a2 l3 t101 true) = some r := by rw [if_pos rfl] at H; exact H
      clear H
      have H := H1
      clear H1
      have H' := Aside0.mk H
      clear H
      go_wp2_with (first | ((with_reducible refine gate_callee (f := 8) rfl ?_); refine goesL_ (some 17) rfl rfl Try.func8 (by kernel_rfl) rfl #[.slice A0 l0.length c0, .slice A3 l3.length c3] rfl (by (try simp only [List.map_toArray, List.map_cons, List.map_nil]); first | done | rfl | (simp only [List.length_drop, List.length_take]; rfl)) ?_; (with_reducible refine (spinneylaw20_big.calls k _ _ l0 _ _ l3 true _ ?side1 ?side2 ?side3 ?side4 A8.out).mono ?_); (case side1 => repeat (first | exact (Kd.V_reads' HO0.out).2.2 | (with_reducible refine Kd.C_alloc ?_ _) | (with_reducible refine Kd.C_drewN ?_ _) | (with_reducible refine Kd.C_drew ?_))); (case side2 => exact (Kd.V_reads' HO0.out).2.1); (case side3 => repeat (first | exact (Kd.C_below HR3.out HB.out) | (with_reducible refine Kd.C_alloc ?_ _) | (with_reducible refine Kd.C_drewN ?_ _) | (with_reducible refine Kd.C_drew ?_))); (case side4 => exact HC3.out); rintro e w10 ⟨rfl, hb⟩; refine ⟨_, rfl, ?_⟩; have n0_ := Aside0.mk (Kd.V_below (by (with_reducible repeat (first | apply Kd.V_alloc | apply Kd.V_drewN | apply Kd.V_drew)); exact HO0.out) hb); have n1_ := Aside0.mk (below_step (by repeat (first | (with_reducible first | exact HB.out | apply below_alloc | apply pw_below_drewN | apply below_drew1) | exact HB.out)) hb); clear HO0; clear HB; have HO0 := n0_; have HB := n1_; clear n0_ n1_; (try clear hb); (try clear hb2); (try clear hk); (try clear hi)))
      go_meet
      case rel => exact ⟨_, (true), (by first | rfl | (simp; done) | (simp [*]; done)), H', ⟨by first | omega | exact Nat.le_refl _⟩, ⟨by (with_reducible repeat (first | apply Kd.V_alloc | apply Kd.V_drewN | apply Kd.V_drew)); exact HO0.out⟩, ⟨by repeat (first | (with_reducible first | exact HB.out | apply below_alloc | apply pw_below_drewN | apply below_drew1) | exact HB.out)⟩⟩
    · replace c9 := Bool.eq_false_iff.mpr c9
      subst c9
      have H1 : (spinneylaw20_LogDrops.j0 k l0 l1 a2 l3 t101 (decide ((l1.length : Int) > 100))) = some r := by rw [if_neg (show ¬ (false = true) by decide)] at H; exact H
      clear H
      have H := H1
      clear H1
      have H' := Aside0.mk H
      clear H
      go_wp2_with (first | ((with_reducible refine gate_callee (f := 8) rfl ?_); refine goesL_ (some 17) rfl rfl Try.func8 (by kernel_rfl) rfl #[.slice A0 l0.length c0, .slice A3 l3.length c3] rfl (by (try simp only [List.map_toArray, List.map_cons, List.map_nil]); first | done | rfl | (simp only [List.length_drop, List.length_take]; rfl)) ?_; (with_reducible refine (spinneylaw20_big.calls k _ _ l0 _ _ l3 false _ ?side1 ?side2 ?side3 ?side4 A8.out).mono ?_); (case side1 => repeat (first | exact (Kd.V_reads' HO0.out).2.2 | (with_reducible refine Kd.C_alloc ?_ _) | (with_reducible refine Kd.C_drewN ?_ _) | (with_reducible refine Kd.C_drew ?_))); (case side2 => exact (Kd.V_reads' HO0.out).2.1); (case side3 => repeat (first | exact (Kd.C_below HR3.out HB.out) | (with_reducible refine Kd.C_alloc ?_ _) | (with_reducible refine Kd.C_drewN ?_ _) | (with_reducible refine Kd.C_drew ?_))); (case side4 => exact HC3.out); rintro e w11 ⟨rfl, hb⟩; refine ⟨_, rfl, ?_⟩; have n0_ := Aside0.mk (Kd.V_below (by (with_reducible repeat (first | apply Kd.V_alloc | apply Kd.V_drewN | apply Kd.V_drew)); exact HO0.out) hb); have n1_ := Aside0.mk (below_step (by repeat (first | (with_reducible first | exact HB.out | apply below_alloc | apply pw_below_drewN | apply below_drew1) | exact HB.out)) hb); clear HO0; clear HB; have HO0 := n0_; have HB := n1_; clear n0_ n1_; (try clear hb); (try clear hb2); (try clear hk); (try clear hi)))
      go_meet
      case rel => exact ⟨_, (decide ((l1.length : Int) > 100)), (by first | rfl | (simp; done) | (simp [*]; done)), H', ⟨by first | omega | exact Nat.le_refl _⟩, ⟨by (with_reducible repeat (first | apply Kd.V_alloc | apply Kd.V_drewN | apply Kd.V_drew)); exact HO0.out⟩, ⟨by repeat (first | (with_reducible first | exact HB.out | apply below_alloc | apply pw_below_drewN | apply below_drew1) | exact HB.out)⟩⟩
  case rest =>
    clear HC6
    try clear c1
    try clear p2
    try clear c3
    try clear c4
    try clear c7
    try clear c8
    try clear c9
    obtain ⟨kq, x22_5, rfl, HA, HJ5, HO_0, HB⟩ := hcut
    cases kq with
    | zero => exact absurd HA.out (by simp [spinneylaw20_LogDrops.j0])
    | succ kj5 =>
      have H := HA.out
      clear HA
      simp only [spinneylaw20_LogDrops.j0] at H
      by_cases c12 : x22_5 = true
      · subst c12
        have H1 : (some t101) = some r := by rw [if_pos rfl] at H; exact H
        clear H
        have H := H1
        clear H1
        obtain rfl := Option.some.inj H
        go_wp2
        go_ret
        exact ⟨by first | rfl | (simp [errW_none, errW_some] <;> rfl) | (simp [*, errW_none, errW_some] <;> rfl), by repeat (first | (with_reducible first | exact HB.out | apply below_alloc | apply pw_below_drewN | apply below_drew1) | exact HB.out)⟩
      · replace c12 := Bool.eq_false_iff.mpr c12
        subst c12
        have H1 : (if ([] : List (S29)).length + l0.length < 2199023255552 then ((some (([] : List (S29)) ++ l0 : List (S29))).bind fun y103 => ((log_Drop.f y103 l1 a2).bind fun t106 => ((spinneyref20_Drop.f kj5 l0 l1 a2).bind fun t109 => ((spinneyref20_Same.f kj5 t106 t109).bind fun t112 => (if t112 = true then ((log_Ready.f y103 l3).bind fun t113 => ((spinneyref20_Ready.f l0 l3).bind fun t114 => (if t113 = t114 then ((log_Events.f kj5 y103).bind fun t115 => ((spinneyref20_Events.f kj5 l0).bind fun t118 => ((spinneyref14_SameEvents.f kj5 t115 t118).bind fun t121 => (spinneylaw20_LogDrops.j1 kj5 l0 t101 y103 t106 t121)))) else (spinneylaw20_LogDrops.j1 kj5 l0 t101 y103 t106 false)))) else (spinneylaw20_LogDrops.j1 kj5 l0 t101 y103 t106 false)))))) else (none)) = some r := by rw [if_neg (show ¬ (false = true) by decide)] at H; exact H
        clear H
        have H := H1
        clear H1
        by_cases c13 : ([] : List (S29)).length + l0.length < 2199023255552
        · rw [if_pos c13] at H
          have LMc13 := Aside0.mk c13
          clear c13
          obtain ⟨y103, hy103⟩ : ∃ y_ : List (S29), y_ = (([] : List (S29)) ++ l0) := ⟨_, rfl⟩
          replace H : ((log_Drop.f y103 l1 a2).bind fun t106 => ((spinneyref20_Drop.f kj5 l0 l1 a2).bind fun t109 => ((spinneyref20_Same.f kj5 t106 t109).bind fun t112 => (if t112 = true then ((log_Ready.f y103 l3).bind fun t113 => ((spinneyref20_Ready.f l0 l3).bind fun t114 => (if t113 = t114 then ((log_Events.f kj5 y103).bind fun t115 => ((spinneyref20_Events.f kj5 l0).bind fun t118 => ((spinneyref14_SameEvents.f kj5 t115 t118).bind fun t121 => (spinneylaw20_LogDrops.j1 kj5 l0 t101 y103 t106 t121)))) else (spinneylaw20_LogDrops.j1 kj5 l0 t101 y103 t106 false)))) else (spinneylaw20_LogDrops.j1 kj5 l0 t101 y103 t106 false))))) = some r := by first | (rw [hy103]; with_reducible exact H) | (have H2_ := (Option.bind_some _ _).symm.trans H; rw [hy103]; with_reducible exact H2_) | (have H2_ := (Option.bind_some _ _).symm.trans H; with_reducible exact H2_) | with_reducible exact H | (rw [hy103]; exact H) | exact H
          have Ny103 := Aside0.mk hy103
          clear hy103
          replace H := Option.bind_eq_some_iff.mp H
          obtain ⟨t106, A140, H⟩ := H
          replace H : ((spinneyref20_Drop.f kj5 l0 l1 a2).bind fun t109 => ((spinneyref20_Same.f kj5 t106 t109).bind fun t112 => (if t112 = true then ((log_Ready.f y103 l3).bind fun t113 => ((spinneyref20_Ready.f l0 l3).bind fun t114 => (if t113 = t114 then ((log_Events.f kj5 y103).bind fun t115 => ((spinneyref20_Events.f kj5 l0).bind fun t118 => ((spinneyref14_SameEvents.f kj5 t115 t118).bind fun t121 => (spinneylaw20_LogDrops.j1 kj5 l0 t101 y103 t106 t121)))) else (spinneylaw20_LogDrops.j1 kj5 l0 t101 y103 t106 false)))) else (spinneylaw20_LogDrops.j1 kj5 l0 t101 y103 t106 false)))) = some r := H
          have A14 := Aside0.mk A140
          clear A140
          have HC15 := Aside0.mk H
          clear H
          go_upto_region 6 with (first | ((with_reducible refine gate_builtin (b := .append) (xs := #[.const (.slice none 0 0), .tmp 24]) rfl ?_); (try (refine gate_guard (by rfl) ?_; dsimp only)); at_builtin; refine Kd.N_append_rows k29 (w0 := w) w.heap.size rfl (.const (.slice none 0 0)) (.tmp 24) 22 29 (.agg #[(.slice none 0 0), (.int .i64 0), (.slice none 0 0), (.int .i64 0)]) 64 rfl Try.underlying22 info29 rfl (by decide) (by omega) (.slice none 0 0) ([] : List (S29)) l0 _ _ _ (fun k_ => (P0_ k_ ∨ w.heap.size ≤ k_)) (fun k_ => ((fun k_ => (P0_ k_ ∨ w.heap.size ≤ k_))) k_ ∧ some k_ ≠ (.slice none 0 0 : Value).ownBlock) rfl rfl ?aO ?aR (fun _ hk => hk) ?aF ?aB ?aS ?aL ?_; (case aR => exact (by skip; exact Kd.V_F (Kd.V_mono (ok' := (fun k_ => ((fun k_ => (P0_ k_ ∨ w.heap.size ≤ k_))) k_ ∧ some k_ ≠ (.slice none 0 0 : Value).ownBlock)) (HO_0.out) (fun k_ hk => ⟨hk, (by simp [Value.ownBlock])⟩)))); (case aB => exact (by repeat (first | (with_reducible first | exact HB.out | apply below_alloc | apply pw_below_drewN | apply below_drew1) | exact HB.out))); (case aF => exact (fun k_ hk => (.inr (Nat.le_trans (below_size (by repeat (first | (with_reducible first | exact HB.out | apply below_alloc | apply pw_below_drewN | apply below_drew1) | exact HB.out))) hk)))); (case aO => exact ((Kd.N_nil _ _ _ _ (fun k_ => (P0_ k_ ∨ w.heap.size ≤ k_))))); (case aS => exact (below_size (by repeat (first | (with_reducible first | exact HB.out | apply below_alloc | apply pw_below_drewN | apply below_drew1) | exact HB.out)))); (case aL => have := LMc13.out; omega); intro v104 w16 ho hb hg hat; rw [← Ny103.out] at ho; have n0_ := Aside0.mk (Kd.V_afterv (Kd.V_apart_nil (by (with_reducible repeat (first | apply Kd.V_alloc | apply Kd.V_drewN | apply Kd.V_drew)); exact HO_0.out)) hg hat); have n1_ := Aside0.mk (hb); have n2_ := Aside0.mk (ho); clear HO_0; clear HB; have HO_0 := n0_; have HB := n1_; have HO105 := n2_; clear n0_ n1_ n2_; clear ho hb hg hat; obtain ⟨Ao17, co17, eo17⟩ := Kd.N_slice HO105.out; subst eo17) | ((with_reducible refine gate_callee (f := 10) rfl ?_); refine goesL_ (some 29) rfl rfl Try.func10 (by kernel_rfl) rfl #[.slice Ao17 y103.length co17, .slice A1 l1.length c1, .int .i64 a2] rfl (by (try simp only [List.map_toArray, List.map_cons, List.map_nil]); first | done | rfl | (simp only [List.length_drop, List.length_take]; rfl)) ?_; (with_reducible refine (log_Drop.calls (fun k_ => (P0_ k_ ∨ w.heap.size ≤ k_)) _ _ y103 _ _ l1 a2 t106 _ ?side1 ?side2 ?side3 A14.out).mono ?_); (case side1 => exact Kd.N_V (HO105.out)); (case side2 => repeat (first | exact (Kd.C_below HR1.out HB.out) | (with_reducible refine Kd.C_alloc ?_ _) | (with_reducible refine Kd.C_drewN ?_ _) | (with_reducible refine Kd.C_drew ?_))); (case side3 => exact HC1.out); rintro e w18 ⟨v107, rfl, ho0, hb⟩; refine ⟨_, rfl, ?_⟩; have n0_ := Aside0.mk (Kd.V_elder' (by (with_reducible repeat (first | apply Kd.V_alloc | apply Kd.V_drewN | apply Kd.V_drew)); exact HO_0.out) (Kd.N_base ho0) hb); have n1_ := Aside0.mk (Kd.N_elder' (by (with_reducible repeat (first | apply Kd.N_alloc | apply Kd.N_drewN | apply Kd.N_drew)); exact HO105.out) (Kd.N_base ho0) hb); have n2_ := Aside0.mk (Kd.N_lower (Kd.N_mono (ok' := fun k_ => (P0_ k_ ∨ w.heap.size ≤ k_)) ho0 (fun k_ hk_ => Or.elim hk_ (fun hs_ => hs_) (fun hn_ => (.inr (Nat.le_trans (below_size (by repeat (first | (with_reducible first | exact HB.out | apply below_alloc | apply pw_below_drewN | apply below_drew1) | exact HB.out))) hn_))))) (below_size (by repeat (first | (with_reducible first | exact HB.out | apply below_alloc | apply pw_below_drewN | apply below_drew1) | exact HB.out)))); have n3_ := Aside0.mk (below_step (by repeat (first | (with_reducible first | exact HB.out | apply below_alloc | apply pw_below_drewN | apply below_drew1) | exact HB.out)) hb); clear HO_0; clear HO105; clear HB; have HO_0 := n0_; have HO105 := n1_; have HO108 := n2_; have HB := n3_; clear n0_ n1_ n2_ n3_; (try clear hb); (try clear hb2); (try clear hk); (try clear hi); (try clear ho0)))
          (try simp only [Act.put, List.setIfInBounds_toArray, List.set_cons_zero, List.set_cons_succ])
          go_cut [12] (fun v12 wc => ∃ (kq : Nat) (x12_14 : Bool), v12 = .bool x12_14 ∧ Aside0 (spinneylaw20_LogDrops.j1 kq l0 t101 y103 t106 x12_14 = some r) ∧ Aside0 (kq ≤ kj5) ∧ Aside0 (Kd.V k29 29 wc w.heap.size (fun k_ => (P0_ k_ ∨ w.heap.size ≤ k_) ∧ some k_ ≠ ((.slice Ao17 y103.length co17) : Value).ownBlock ∧ some k_ ≠ (v107 : Value).ownBlock) (.slice A0 l0.length c0) l0) ∧ Aside0 (Kd.N k29 29 wc w.heap.size (fun k_ => (P0_ k_ ∨ w.heap.size ≤ k_) ∧ some k_ ≠ (v107 : Value).ownBlock) (.slice Ao17 y103.length co17) y103) ∧ Aside0 (Kd.N k29 29 wc w.heap.size (fun k_ => (P0_ k_ ∨ w.heap.size ≤ k_)) v107 t106) ∧ Aside0 (Below w.heap.size w wc))
          case first =>
            have H := HC15.out
            clear HC15
            replace H := Option.bind_eq_some_iff.mp H
            obtain ⟨t109, A190, H⟩ := H
            replace H : ((spinneyref20_Same.f kj5 t106 t109).bind fun t112 => (if t112 = true then ((log_Ready.f y103 l3).bind fun t113 => ((spinneyref20_Ready.f l0 l3).bind fun t114 => (if t113 = t114 then ((log_Events.f kj5 y103).bind fun t115 => ((spinneyref20_Events.f kj5 l0).bind fun t118 => ((spinneyref14_SameEvents.f kj5 t115 t118).bind fun t121 => (spinneylaw20_LogDrops.j1 kj5 l0 t101 y103 t106 t121)))) else (spinneylaw20_LogDrops.j1 kj5 l0 t101 y103 t106 false)))) else (spinneylaw20_LogDrops.j1 kj5 l0 t101 y103 t106 false))) = some r := H
            have A19 := Aside0.mk A190
            clear A190
            replace H := Option.bind_eq_some_iff.mp H
            obtain ⟨t112, A200, H⟩ := H
            replace H : (if t112 = true then ((log_Ready.f y103 l3).bind fun t113 => ((spinneyref20_Ready.f l0 l3).bind fun t114 => (if t113 = t114 then ((log_Events.f kj5 y103).bind fun t115 => ((spinneyref20_Events.f kj5 l0).bind fun t118 => ((spinneyref14_SameEvents.f kj5 t115 t118).bind fun t121 => (spinneylaw20_LogDrops.j1 kj5 l0 t101 y103 t106 t121)))) else (spinneylaw20_LogDrops.j1 kj5 l0 t101 y103 t106 false)))) else (spinneylaw20_LogDrops.j1 kj5 l0 t101 y103 t106 false)) = some r := H
            have A20 := Aside0.mk A200
            clear A200
            by_cases c21 : t112 = true
            · subst c21
              have H1 : ((log_Ready.f y103 l3).bind fun t113 => ((spinneyref20_Ready.f l0 l3).bind fun t114 => (if t113 = t114 then ((log_Events.f kj5 y103).bind fun t115 => ((spinneyref20_Events.f kj5 l0).bind fun t118 => ((spinneyref14_SameEvents.f kj5 t115 t118).bind fun t121 => (spinneylaw20_LogDrops.j1 kj5 l0 t101 y103 t106 t121)))) else (spinneylaw20_LogDrops.j1 kj5 l0 t101 y103 t106 false)))) = some r := by rw [if_pos rfl] at H; exact H
              clear H
              have H := H1
              clear H1
              replace H := Option.bind_eq_some_iff.mp H
              obtain ⟨t113, A220, H⟩ := H
              replace H : ((spinneyref20_Ready.f l0 l3).bind fun t114 => (if t113 = t114 then ((log_Events.f kj5 y103).bind fun t115 => ((spinneyref20_Events.f kj5 l0).bind fun t118 => ((spinneyref14_SameEvents.f kj5 t115 t118).bind fun t121 => (spinneylaw20_LogDrops.j1 kj5 l0 t101 y103 t106 t121)))) else (spinneylaw20_LogDrops.j1 kj5 l0 t101 y103 t106 false))) = some r := H
              have A22 := Aside0.mk A220
              clear A220
              replace H := Option.bind_eq_some_iff.mp H
              obtain ⟨t114, A230, H⟩ := H
              replace H : (if t113 = t114 then ((log_Events.f kj5 y103).bind fun t115 => ((spinneyref20_Events.f kj5 l0).bind fun t118 => ((spinneyref14_SameEvents.f kj5 t115 t118).bind fun t121 => (spinneylaw20_LogDrops.j1 kj5 l0 t101 y103 t106 t121)))) else (spinneylaw20_LogDrops.j1 kj5 l0 t101 y103 t106 false)) = some r := H
              have A23 := Aside0.mk A230
              clear A230
              by_cases c24 : t113 = t114
              · rw [if_pos c24] at H
                have c24b0 : (t113 == t114) = true := beq_iff_eq.mpr c24
                have c24b1 : (t113 != t114) = false := bne_eq_false_iff_eq.mpr c24
                clear c24
                (first | rw [c24b0] | (simp only [i64_w, i32_w]; rw [c24b0]) | skip)
                replace H := Option.bind_eq_some_iff.mp H
                obtain ⟨t115, A250, H⟩ := H
                replace H : ((spinneyref20_Events.f kj5 l0).bind fun t118 => ((spinneyref14_SameEvents.f kj5 t115 t118).bind fun t121 => (spinneylaw20_LogDrops.j1 kj5 l0 t101 y103 t106 t121))) = some r := H
                have A25 := Aside0.mk A250
                clear A250
                replace H := Option.bind_eq_some_iff.mp H
                obtain ⟨t118, A260, H⟩ := H
                replace H : ((spinneyref14_SameEvents.f kj5 t115 t118).bind fun t121 => (spinneylaw20_LogDrops.j1 kj5 l0 t101 y103 t106 t121)) = some r := H
                have A26 := Aside0.mk A260
                clear A260
                replace H := Option.bind_eq_some_iff.mp H
                obtain ⟨t121, A270, H⟩ := H
                replace H : (spinneylaw20_LogDrops.j1 kj5 l0 t101 y103 t106 t121) = some r := H
                have A27 := Aside0.mk A270
                clear A270
                have H' := Aside0.mk H
                clear H
                go_wp2_with (first | ((with_reducible refine gate_callee (f := 14) rfl ?_); refine goesL_ (some 34) rfl rfl Try.func14 (by kernel_rfl) rfl #[.slice A0 l0.length c0, .slice A1 l1.length c1, .int .i64 a2] rfl (by (try simp only [List.map_toArray, List.map_cons, List.map_nil]); first | done | rfl | (simp only [List.length_drop, List.length_take]; rfl)) ?_; (with_reducible refine (spinneyref20_Drop.calls kj5 (fun k_ => (((P0_ k_ ∨ w.heap.size ≤ k_) ∧ some k_ ≠ (.slice Ao17 y103.length co17 : Value).ownBlock) ∧ some k_ ≠ (v107 : Value).ownBlock)) _ _ l0 _ _ l1 a2 t109 _ ?side1 ?side2 ?side3 A19.out).mono ?_); (case side1 => exact HO_0.out); (case side2 => repeat (first | exact (Kd.C_below HR1.out HB.out) | (with_reducible refine Kd.C_alloc ?_ _) | (with_reducible refine Kd.C_drewN ?_ _) | (with_reducible refine Kd.C_drew ?_))); (case side3 => exact HC1.out); rintro e w28 ⟨v110, rfl, ho0, hb⟩; refine ⟨_, rfl, ?_⟩; have n0_ := Aside0.mk (Kd.V_elder' (by (with_reducible repeat (first | apply Kd.V_alloc | apply Kd.V_drewN | apply Kd.V_drew)); exact HO_0.out) (Kd.N_base ho0) hb); have n1_ := Aside0.mk (Kd.N_elder' (by (with_reducible repeat (first | apply Kd.N_alloc | apply Kd.N_drewN | apply Kd.N_drew)); exact HO105.out) (Kd.N_base ho0) hb); have n2_ := Aside0.mk (Kd.N_elder' (by (with_reducible repeat (first | apply Kd.N_alloc | apply Kd.N_drewN | apply Kd.N_drew)); exact HO108.out) (Kd.N_base ho0) hb); have n3_ := Aside0.mk (Kd.N_lower (Kd.N_mono (ok' := fun k_ => (P0_ k_ ∨ w.heap.size ≤ k_) ∧ some k_ ≠ (.slice Ao17 y103.length co17 : Value).ownBlock ∧ some k_ ≠ (v107 : Value).ownBlock) ho0 (fun k_ hk_ => ⟨Or.elim hk_ (fun hs_ => hs_.1.1) (fun hn_ => (.inr (Nat.le_trans (below_size (by repeat (first | (with_reducible first | exact HB.out | apply below_alloc | apply pw_below_drewN | apply below_drew1) | exact HB.out))) hn_))), Or.elim hk_ (fun hs_ => hs_.1.2) (fun hn_ => (Kd.fresh' (Kd.N_lt (by (with_reducible repeat (first | apply Kd.N_alloc | apply Kd.N_drewN | apply Kd.N_drew)); exact HO105.out)) k_ hn_)), Or.elim hk_ (fun hs_ => hs_.2) (fun hn_ => (Kd.fresh' (Kd.N_lt (by (with_reducible repeat (first | apply Kd.N_alloc | apply Kd.N_drewN | apply Kd.N_drew)); exact HO108.out)) k_ hn_))⟩)) (below_size (by repeat (first | (with_reducible first | exact HB.out | apply below_alloc | apply pw_below_drewN | apply below_drew1) | exact HB.out)))); have n4_ := Aside0.mk (below_step (by repeat (first | (with_reducible first | exact HB.out | apply below_alloc | apply pw_below_drewN | apply below_drew1) | exact HB.out)) hb); clear HO_0; clear HO105; clear HO108; clear HB; have HO_0 := n0_; have HO105 := n1_; have HO108 := n2_; have HO111 := n3_; have HB := n4_; clear n0_ n1_ n2_ n3_ n4_; (try clear hb); (try clear hb2); (try clear hk); (try clear hi); (try clear ho0); obtain ⟨Ao29, co29, eo29⟩ := Kd.N_slice HO108.out; subst eo29; obtain ⟨Ao30, co30, eo30⟩ := Kd.N_slice HO111.out; subst eo30) | ((with_reducible refine gate_callee (f := 11) rfl ?_); refine goesL_ (some 35) rfl rfl Try.func11 (by kernel_rfl) rfl #[.slice Ao29 t106.length co29, .slice Ao30 t109.length co30] rfl (by (try simp only [List.map_toArray, List.map_cons, List.map_nil]); first | done | rfl | (simp only [List.length_drop, List.length_take]; rfl)) ?_; (with_reducible refine (spinneyref20_Same.calls kj5 _ _ t106 _ _ t109 true _ ?side1 ?side2 ?side3 ?side4 A20.out).mono ?_); (case side1 => repeat (first | exact (Kd.N_reads' HO108.out).2.2 | (with_reducible refine Kd.C_alloc ?_ _) | (with_reducible refine Kd.C_drewN ?_ _) | (with_reducible refine Kd.C_drew ?_))); (case side2 => exact (Kd.N_reads' HO108.out).2.1); (case side3 => repeat (first | exact (Kd.N_reads' HO111.out).2.2 | (with_reducible refine Kd.C_alloc ?_ _) | (with_reducible refine Kd.C_drewN ?_ _) | (with_reducible refine Kd.C_drew ?_))); (case side4 => exact (Kd.N_reads' HO111.out).2.1); rintro e w31 ⟨rfl, hb⟩; refine ⟨_, rfl, ?_⟩; have n0_ := Aside0.mk (Kd.V_below (by (with_reducible repeat (first | apply Kd.V_alloc | apply Kd.V_drewN | apply Kd.V_drew)); exact HO_0.out) hb); have n1_ := Aside0.mk (Kd.N_below (by (with_reducible repeat (first | apply Kd.N_alloc | apply Kd.N_drewN | apply Kd.N_drew)); exact HO105.out) hb); have n2_ := Aside0.mk (Kd.N_below (by (with_reducible repeat (first | apply Kd.N_alloc | apply Kd.N_drewN | apply Kd.N_drew)); exact HO108.out) hb); have n3_ := Aside0.mk (Kd.N_below (by (with_reducible repeat (first | apply Kd.N_alloc | apply Kd.N_drewN | apply Kd.N_drew)); exact HO111.out) hb); have n4_ := Aside0.mk (below_step (by repeat (first | (with_reducible first | exact HB.out | apply below_alloc | apply pw_below_drewN | apply below_drew1) | exact HB.out)) hb); clear HO_0; clear HO105; clear HO108; clear HO111; clear HB; have HO_0 := n0_; have HO105 := n1_; have HO108 := n2_; have HO111 := n3_; have HB := n4_; clear n0_ n1_ n2_ n3_ n4_; (try clear hb); (try clear hb2); (try clear hk); (try clear hi)) | (go_at_call 15; (with_reducible refine (log_Ready.calls _ _ y103 _ _ l3 t113 _ ?side1 ?side2 ?side3 ?side4 A22.out).mono ?_); (case side1 => repeat (first | exact (Kd.N_reads' HO105.out).2.2 | (with_reducible refine Kd.C_alloc ?_ _) | (with_reducible refine Kd.C_drewN ?_ _) | (with_reducible refine Kd.C_drew ?_))); (case side2 => exact (Kd.N_reads' HO105.out).2.1); (case side3 => repeat (first | exact (Kd.C_below HR3.out HB.out) | (with_reducible refine Kd.C_alloc ?_ _) | (with_reducible refine Kd.C_drewN ?_ _) | (with_reducible refine Kd.C_drew ?_))); (case side4 => exact HC3.out); rintro e w32 ⟨rfl, hb⟩; have n0_ := Aside0.mk (Kd.V_below (by (with_reducible repeat (first | apply Kd.V_alloc | apply Kd.V_drewN | apply Kd.V_drew)); exact HO_0.out) hb); have n1_ := Aside0.mk (Kd.N_below (by (with_reducible repeat (first | apply Kd.N_alloc | apply Kd.N_drewN | apply Kd.N_drew)); exact HO105.out) hb); have n2_ := Aside0.mk (Kd.N_below (by (with_reducible repeat (first | apply Kd.N_alloc | apply Kd.N_drewN | apply Kd.N_drew)); exact HO108.out) hb); have n3_ := Aside0.mk (Kd.N_below (by (with_reducible repeat (first | apply Kd.N_alloc | apply Kd.N_drewN | apply Kd.N_drew)); exact HO111.out) hb); have n4_ := Aside0.mk (below_step (by repeat (first | (with_reducible first | exact HB.out | apply below_alloc | apply pw_below_drewN | apply below_drew1) | exact HB.out)) hb); clear HO_0; clear HO105; clear HO108; clear HO111; clear HB; have HO_0 := n0_; have HO105 := n1_; have HO108 := n2_; have HO111 := n3_; have HB := n4_; clear n0_ n1_ n2_ n3_ n4_; (try clear hb); (try clear hb2); (try clear hk); (try clear hi)) | (go_at_call 16; (with_reducible refine (spinneyref20_Ready.calls _ _ l0 _ _ l3 t114 _ ?side1 ?side2 ?side3 ?side4 A23.out).mono ?_); (case side1 => repeat (first | exact (Kd.V_reads' HO_0.out).2.2 | (with_reducible refine Kd.C_alloc ?_ _) | (with_reducible refine Kd.C_drewN ?_ _) | (with_reducible refine Kd.C_drew ?_))); (case side2 => exact (Kd.V_reads' HO_0.out).2.1); (case side3 => repeat (first | exact (Kd.C_below HR3.out HB.out) | (with_reducible refine Kd.C_alloc ?_ _) | (with_reducible refine Kd.C_drewN ?_ _) | (with_reducible refine Kd.C_drew ?_))); (case side4 => exact HC3.out); rintro e w33 ⟨rfl, hb⟩; have n0_ := Aside0.mk (Kd.V_below (by (with_reducible repeat (first | apply Kd.V_alloc | apply Kd.V_drewN | apply Kd.V_drew)); exact HO_0.out) hb); have n1_ := Aside0.mk (Kd.N_below (by (with_reducible repeat (first | apply Kd.N_alloc | apply Kd.N_drewN | apply Kd.N_drew)); exact HO105.out) hb); have n2_ := Aside0.mk (Kd.N_below (by (with_reducible repeat (first | apply Kd.N_alloc | apply Kd.N_drewN | apply Kd.N_drew)); exact HO108.out) hb); have n3_ := Aside0.mk (Kd.N_below (by (with_reducible repeat (first | apply Kd.N_alloc | apply Kd.N_drewN | apply Kd.N_drew)); exact HO111.out) hb); have n4_ := Aside0.mk (below_step (by repeat (first | (with_reducible first | exact HB.out | apply below_alloc | apply pw_below_drewN | apply below_drew1) | exact HB.out)) hb); clear HO_0; clear HO105; clear HO108; clear HO111; clear HB; have HO_0 := n0_; have HO105 := n1_; have HO108 := n2_; have HO111 := n3_; have HB := n4_; clear n0_ n1_ n2_ n3_ n4_; (try clear hb); (try clear hb2); (try clear hk); (try clear hi)) | (go_at_call 18; (with_reducible refine (log_Events.calls kj5 (fun k_ => (((P0_ k_ ∨ w.heap.size ≤ k_) ∧ some k_ ≠ (.slice Ao29 t106.length co29 : Value).ownBlock) ∧ some k_ ≠ (.slice Ao30 t109.length co30 : Value).ownBlock)) _ _ y103 t115 _ ?side1 A25.out).mono ?_); (case side1 => exact Kd.N_V (HO105.out)); rintro e w34 ⟨v116, rfl, ho0, hb⟩; have n0_ := Aside0.mk (Kd.V_elder' (by (with_reducible repeat (first | apply Kd.V_alloc | apply Kd.V_drewN | apply Kd.V_drew)); exact HO_0.out) (Kd.N_base ho0) hb); have n1_ := Aside0.mk (Kd.N_elder' (by (with_reducible repeat (first | apply Kd.N_alloc | apply Kd.N_drewN | apply Kd.N_drew)); exact HO105.out) (Kd.N_base ho0) hb); have n2_ := Aside0.mk (Kd.N_elder' (by (with_reducible repeat (first | apply Kd.N_alloc | apply Kd.N_drewN | apply Kd.N_drew)); exact HO108.out) (Kd.N_base ho0) hb); have n3_ := Aside0.mk (Kd.N_elder' (by (with_reducible repeat (first | apply Kd.N_alloc | apply Kd.N_drewN | apply Kd.N_drew)); exact HO111.out) (Kd.N_base ho0) hb); have n4_ := Aside0.mk (Kd.N_lower (Kd.N_mono (ok' := fun k_ => (P0_ k_ ∨ w.heap.size ≤ k_) ∧ some k_ ≠ (.slice Ao29 t106.length co29 : Value).ownBlock ∧ some k_ ≠ (.slice Ao30 t109.length co30 : Value).ownBlock) ho0 (fun k_ hk_ => ⟨Or.elim hk_ (fun hs_ => hs_.1.1) (fun hn_ => (.inr (Nat.le_trans (below_size (by repeat (first | (with_reducible first | exact HB.out | apply below_alloc | apply pw_below_drewN | apply below_drew1) | exact HB.out))) hn_))), Or.elim hk_ (fun hs_ => hs_.1.2) (fun hn_ => (Kd.fresh' (Kd.N_lt (by (with_reducible repeat (first | apply Kd.N_alloc | apply Kd.N_drewN | apply Kd.N_drew)); exact HO108.out)) k_ hn_)), Or.elim hk_ (fun hs_ => hs_.2) (fun hn_ => (Kd.fresh' (Kd.N_lt (by (with_reducible repeat (first | apply Kd.N_alloc | apply Kd.N_drewN | apply Kd.N_drew)); exact HO111.out)) k_ hn_))⟩)) (below_size (by repeat (first | (with_reducible first | exact HB.out | apply below_alloc | apply pw_below_drewN | apply below_drew1) | exact HB.out)))); have n5_ := Aside0.mk (below_step (by repeat (first | (with_reducible first | exact HB.out | apply below_alloc | apply pw_below_drewN | apply below_drew1) | exact HB.out)) hb); clear HO_0; clear HO105; clear HO108; clear HO111; clear HB; have HO_0 := n0_; have HO105 := n1_; have HO108 := n2_; have HO111 := n3_; have HO117 := n4_; have HB := n5_; clear n0_ n1_ n2_ n3_ n4_ n5_; (try clear hb); (try clear hb2); (try clear hk); (try clear hi); (try clear ho0)) | (go_at_call 19; (with_reducible refine (spinneyref20_Events.calls kj5 (fun k_ => (((((P0_ k_ ∨ w.heap.size ≤ k_) ∧ some k_ ≠ (.slice Ao17 y103.length co17 : Value).ownBlock) ∧ some k_ ≠ (.slice Ao29 t106.length co29 : Value).ownBlock) ∧ some k_ ≠ (.slice Ao30 t109.length co30 : Value).ownBlock) ∧ some k_ ≠ (v116 : Value).ownBlock)) _ _ l0 t118 _ ?side1 A26.out).mono ?_); (case side1 => exact HO_0.out); rintro e w35 ⟨v119, rfl, ho0, hb⟩; have n0_ := Aside0.mk (Kd.V_elder' (by (with_reducible repeat (first | apply Kd.V_alloc | apply Kd.V_drewN | apply Kd.V_drew)); exact HO_0.out) (Kd.N_base ho0) hb); have n1_ := Aside0.mk (Kd.N_elder' (by (with_reducible repeat (first | apply Kd.N_alloc | apply Kd.N_drewN | apply Kd.N_drew)); exact HO105.out) (Kd.N_base ho0) hb); have n2_ := Aside0.mk (Kd.N_elder' (by (with_reducible repeat (first | apply Kd.N_alloc | apply Kd.N_drewN | apply Kd.N_drew)); exact HO108.out) (Kd.N_base ho0) hb); have n3_ := Aside0.mk (Kd.N_elder' (by (with_reducible repeat (first | apply Kd.N_alloc | apply Kd.N_drewN | apply Kd.N_drew)); exact HO111.out) (Kd.N_base ho0) hb); have n4_ := Aside0.mk (Kd.N_elder' (by (with_reducible repeat (first | apply Kd.N_alloc | apply Kd.N_drewN | apply Kd.N_drew)); exact HO117.out) (Kd.N_base ho0) hb); have n5_ := Aside0.mk (Kd.N_lower (Kd.N_mono (ok' := fun k_ => (P0_ k_ ∨ w.heap.size ≤ k_) ∧ some k_ ≠ (.slice Ao17 y103.length co17 : Value).ownBlock ∧ some k_ ≠ (.slice Ao29 t106.length co29 : Value).ownBlock ∧ some k_ ≠ (.slice Ao30 t109.length co30 : Value).ownBlock ∧ some k_ ≠ (v116 : Value).ownBlock) ho0 (fun k_ hk_ => ⟨Or.elim hk_ (fun hs_ => hs_.1.1.1.1) (fun hn_ => (.inr (Nat.le_trans (below_size (by repeat (first | (with_reducible first | exact HB.out | apply below_alloc | apply pw_below_drewN | apply below_drew1) | exact HB.out))) hn_))), Or.elim hk_ (fun hs_ => hs_.1.1.1.2) (fun hn_ => (Kd.fresh' (Kd.N_lt (by (with_reducible repeat (first | apply Kd.N_alloc | apply Kd.N_drewN | apply Kd.N_drew)); exact HO105.out)) k_ hn_)), Or.elim hk_ (fun hs_ => hs_.1.1.2) (fun hn_ => (Kd.fresh' (Kd.N_lt (by (with_reducible repeat (first | apply Kd.N_alloc | apply Kd.N_drewN | apply Kd.N_drew)); exact HO108.out)) k_ hn_)), Or.elim hk_ (fun hs_ => hs_.1.2) (fun hn_ => (Kd.fresh' (Kd.N_lt (by (with_reducible repeat (first | apply Kd.N_alloc | apply Kd.N_drewN | apply Kd.N_drew)); exact HO111.out)) k_ hn_)), Or.elim hk_ (fun hs_ => hs_.2) (fun hn_ => (Kd.fresh' (Kd.N_lt (by (with_reducible repeat (first | apply Kd.N_alloc | apply Kd.N_drewN | apply Kd.N_drew)); exact HO117.out)) k_ hn_))⟩)) (below_size (by repeat (first | (with_reducible first | exact HB.out | apply below_alloc | apply pw_below_drewN | apply below_drew1) | exact HB.out)))); have n6_ := Aside0.mk (below_step (by repeat (first | (with_reducible first | exact HB.out | apply below_alloc | apply pw_below_drewN | apply below_drew1) | exact HB.out)) hb); clear HO_0; clear HO105; clear HO108; clear HO111; clear HO117; clear HB; have HO_0 := n0_; have HO105 := n1_; have HO108 := n2_; have HO111 := n3_; have HO117 := n4_; have HO120 := n5_; have HB := n6_; clear n0_ n1_ n2_ n3_ n4_ n5_ n6_; (try clear hb); (try clear hb2); (try clear hk); (try clear hi); (try clear ho0); obtain ⟨Ao36, co36, eo36⟩ := Kd.N_slice HO117.out; subst eo36; obtain ⟨Ao37, co37, eo37⟩ := Kd.N_slice HO120.out; subst eo37) | (go_at_call 17; (with_reducible refine (spinneyref14_SameEvents.calls kj5 _ _ t115 _ _ t118 t121 _ ?side1 ?side2 ?side3 ?side4 A27.out).mono ?_); (case side1 => repeat (first | exact (Kd.N_reads' HO117.out).2.2 | (with_reducible refine Kd.C_alloc ?_ _) | (with_reducible refine Kd.C_drewN ?_ _) | (with_reducible refine Kd.C_drew ?_))); (case side2 => exact (Kd.N_reads' HO117.out).2.1); (case side3 => repeat (first | exact (Kd.N_reads' HO120.out).2.2 | (with_reducible refine Kd.C_alloc ?_ _) | (with_reducible refine Kd.C_drewN ?_ _) | (with_reducible refine Kd.C_drew ?_))); (case side4 => exact (Kd.N_reads' HO120.out).2.1); rintro e w38 ⟨rfl, hb⟩; have n0_ := Aside0.mk (Kd.V_below (by (with_reducible repeat (first | apply Kd.V_alloc | apply Kd.V_drewN | apply Kd.V_drew)); exact HO_0.out) hb); have n1_ := Aside0.mk (Kd.N_below (by (with_reducible repeat (first | apply Kd.N_alloc | apply Kd.N_drewN | apply Kd.N_drew)); exact HO105.out) hb); have n2_ := Aside0.mk (Kd.N_below (by (with_reducible repeat (first | apply Kd.N_alloc | apply Kd.N_drewN | apply Kd.N_drew)); exact HO108.out) hb); have n3_ := Aside0.mk (Kd.N_below (by (with_reducible repeat (first | apply Kd.N_alloc | apply Kd.N_drewN | apply Kd.N_drew)); exact HO111.out) hb); have n4_ := Aside0.mk (Kd.N_below (by (with_reducible repeat (first | apply Kd.N_alloc | apply Kd.N_drewN | apply Kd.N_drew)); exact HO117.out) hb); have n5_ := Aside0.mk (Kd.N_below (by (with_reducible repeat (first | apply Kd.N_alloc | apply Kd.N_drewN | apply Kd.N_drew)); exact HO120.out) hb); have n6_ := Aside0.mk (below_step (by repeat (first | (with_reducible first | exact HB.out | apply below_alloc | apply pw_below_drewN | apply below_drew1) | exact HB.out)) hb); clear HO_0; clear HO105; clear HO108; clear HO111; clear HO117; clear HO120; clear HB; have HO_0 := n0_; have HO105 := n1_; have HO108 := n2_; have HO111 := n3_; have HO117 := n4_; have HO120 := n5_; have HB := n6_; clear n0_ n1_ n2_ n3_ n4_ n5_ n6_; (try clear hb); (try clear hb2); (try clear hk); (try clear hi)))
                go_meet
                case rel => exact ⟨_, (t121), (by first | rfl | (simp; done) | (simp [*]; done)), H', ⟨by have := HJ5.out; first | omega | exact Nat.le_refl _⟩, ⟨by (with_reducible repeat (first | apply Kd.V_alloc | apply Kd.V_drewN | apply Kd.V_drew)); exact Kd.V_mono HO_0.out (fun _ hk => ⟨hk.1.1.1.1.1, ⟨hk.1.1.1.1.2, hk.1.1.1.2⟩⟩)⟩, ⟨by (with_reducible repeat (first | apply Kd.N_alloc | apply Kd.N_drewN | apply Kd.N_drew)); exact Kd.N_mono HO105.out (fun _ hk => ⟨hk.1.1.1.1, hk.1.1.1.2⟩)⟩, ⟨by (with_reducible repeat (first | apply Kd.N_alloc | apply Kd.N_drewN | apply Kd.N_drew)); exact Kd.N_mono HO108.out (fun _ hk => hk.1.1.1)⟩, ⟨by repeat (first | (with_reducible first | exact HB.out | apply below_alloc | apply pw_below_drewN | apply below_drew1) | exact HB.out)⟩⟩
              · rw [if_neg c24] at H
                have c24b0 : (t113 == t114) = false := beq_eq_false_iff_ne.mpr c24
                have c24b1 : (t113 != t114) = true := bne_iff_ne.mpr c24
                (first | rw [c24b0] | (simp only [i64_w, i32_w]; rw [c24b0]) | skip)
                have H' := Aside0.mk H
                clear H
                go_wp2_with (first | ((with_reducible refine gate_callee (f := 14) rfl ?_); refine goesL_ (some 34) rfl rfl Try.func14 (by kernel_rfl) rfl #[.slice A0 l0.length c0, .slice A1 l1.length c1, .int .i64 a2] rfl (by (try simp only [List.map_toArray, List.map_cons, List.map_nil]); first | done | rfl | (simp only [List.length_drop, List.length_take]; rfl)) ?_; (with_reducible refine (spinneyref20_Drop.calls kj5 (fun k_ => (((P0_ k_ ∨ w.heap.size ≤ k_) ∧ some k_ ≠ (.slice Ao17 y103.length co17 : Value).ownBlock) ∧ some k_ ≠ (v107 : Value).ownBlock)) _ _ l0 _ _ l1 a2 t109 _ ?side1 ?side2 ?side3 A19.out).mono ?_); (case side1 => exact HO_0.out); (case side2 => repeat (first | exact (Kd.C_below HR1.out HB.out) | (with_reducible refine Kd.C_alloc ?_ _) | (with_reducible refine Kd.C_drewN ?_ _) | (with_reducible refine Kd.C_drew ?_))); (case side3 => exact HC1.out); rintro e w39 ⟨v110, rfl, ho0, hb⟩; refine ⟨_, rfl, ?_⟩; have n0_ := Aside0.mk (Kd.V_elder' (by (with_reducible repeat (first | apply Kd.V_alloc | apply Kd.V_drewN | apply Kd.V_drew)); exact HO_0.out) (Kd.N_base ho0) hb); have n1_ := Aside0.mk (Kd.N_elder' (by (with_reducible repeat (first | apply Kd.N_alloc | apply Kd.N_drewN | apply Kd.N_drew)); exact HO105.out) (Kd.N_base ho0) hb); have n2_ := Aside0.mk (Kd.N_elder' (by (with_reducible repeat (first | apply Kd.N_alloc | apply Kd.N_drewN | apply Kd.N_drew)); exact HO108.out) (Kd.N_base ho0) hb); have n3_ := Aside0.mk (Kd.N_lower (Kd.N_mono (ok' := fun k_ => (P0_ k_ ∨ w.heap.size ≤ k_) ∧ some k_ ≠ (.slice Ao17 y103.length co17 : Value).ownBlock ∧ some k_ ≠ (v107 : Value).ownBlock) ho0 (fun k_ hk_ => ⟨Or.elim hk_ (fun hs_ => hs_.1.1) (fun hn_ => (.inr (Nat.le_trans (below_size (by repeat (first | (with_reducible first | exact HB.out | apply below_alloc | apply pw_below_drewN | apply below_drew1) | exact HB.out))) hn_))), Or.elim hk_ (fun hs_ => hs_.1.2) (fun hn_ => (Kd.fresh' (Kd.N_lt (by (with_reducible repeat (first | apply Kd.N_alloc | apply Kd.N_drewN | apply Kd.N_drew)); exact HO105.out)) k_ hn_)), Or.elim hk_ (fun hs_ => hs_.2) (fun hn_ => (Kd.fresh' (Kd.N_lt (by (with_reducible repeat (first | apply Kd.N_alloc | apply Kd.N_drewN | apply Kd.N_drew)); exact HO108.out)) k_ hn_))⟩)) (below_size (by repeat (first | (with_reducible first | exact HB.out | apply below_alloc | apply pw_below_drewN | apply below_drew1) | exact HB.out)))); have n4_ := Aside0.mk (below_step (by repeat (first | (with_reducible first | exact HB.out | apply below_alloc | apply pw_below_drewN | apply below_drew1) | exact HB.out)) hb); clear HO_0; clear HO105; clear HO108; clear HB; have HO_0 := n0_; have HO105 := n1_; have HO108 := n2_; have HO111 := n3_; have HB := n4_; clear n0_ n1_ n2_ n3_ n4_; (try clear hb); (try clear hb2); (try clear hk); (try clear hi); (try clear ho0); obtain ⟨Ao40, co40, eo40⟩ := Kd.N_slice HO108.out; subst eo40; obtain ⟨Ao41, co41, eo41⟩ := Kd.N_slice HO111.out; subst eo41) | ((with_reducible refine gate_callee (f := 11) rfl ?_); refine goesL_ (some 35) rfl rfl Try.func11 (by kernel_rfl) rfl #[.slice Ao40 t106.length co40, .slice Ao41 t109.length co41] rfl (by (try simp only [List.map_toArray, List.map_cons, List.map_nil]); first | done | rfl | (simp only [List.length_drop, List.length_take]; rfl)) ?_; (with_reducible refine (spinneyref20_Same.calls kj5 _ _ t106 _ _ t109 true _ ?side1 ?side2 ?side3 ?side4 A20.out).mono ?_); (case side1 => repeat (first | exact (Kd.N_reads' HO108.out).2.2 | (with_reducible refine Kd.C_alloc ?_ _) | (with_reducible refine Kd.C_drewN ?_ _) | (with_reducible refine Kd.C_drew ?_))); (case side2 => exact (Kd.N_reads' HO108.out).2.1); (case side3 => repeat (first | exact (Kd.N_reads' HO111.out).2.2 | (with_reducible refine Kd.C_alloc ?_ _) | (with_reducible refine Kd.C_drewN ?_ _) | (with_reducible refine Kd.C_drew ?_))); (case side4 => exact (Kd.N_reads' HO111.out).2.1); rintro e w42 ⟨rfl, hb⟩; refine ⟨_, rfl, ?_⟩; have n0_ := Aside0.mk (Kd.V_below (by (with_reducible repeat (first | apply Kd.V_alloc | apply Kd.V_drewN | apply Kd.V_drew)); exact HO_0.out) hb); have n1_ := Aside0.mk (Kd.N_below (by (with_reducible repeat (first | apply Kd.N_alloc | apply Kd.N_drewN | apply Kd.N_drew)); exact HO105.out) hb); have n2_ := Aside0.mk (Kd.N_below (by (with_reducible repeat (first | apply Kd.N_alloc | apply Kd.N_drewN | apply Kd.N_drew)); exact HO108.out) hb); have n3_ := Aside0.mk (Kd.N_below (by (with_reducible repeat (first | apply Kd.N_alloc | apply Kd.N_drewN | apply Kd.N_drew)); exact HO111.out) hb); have n4_ := Aside0.mk (below_step (by repeat (first | (with_reducible first | exact HB.out | apply below_alloc | apply pw_below_drewN | apply below_drew1) | exact HB.out)) hb); clear HO_0; clear HO105; clear HO108; clear HO111; clear HB; have HO_0 := n0_; have HO105 := n1_; have HO108 := n2_; have HO111 := n3_; have HB := n4_; clear n0_ n1_ n2_ n3_ n4_; (try clear hb); (try clear hb2); (try clear hk); (try clear hi)) | (go_at_call 15; (with_reducible refine (log_Ready.calls _ _ y103 _ _ l3 t113 _ ?side1 ?side2 ?side3 ?side4 A22.out).mono ?_); (case side1 => repeat (first | exact (Kd.N_reads' HO105.out).2.2 | (with_reducible refine Kd.C_alloc ?_ _) | (with_reducible refine Kd.C_drewN ?_ _) | (with_reducible refine Kd.C_drew ?_))); (case side2 => exact (Kd.N_reads' HO105.out).2.1); (case side3 => repeat (first | exact (Kd.C_below HR3.out HB.out) | (with_reducible refine Kd.C_alloc ?_ _) | (with_reducible refine Kd.C_drewN ?_ _) | (with_reducible refine Kd.C_drew ?_))); (case side4 => exact HC3.out); rintro e w43 ⟨rfl, hb⟩; have n0_ := Aside0.mk (Kd.V_below (by (with_reducible repeat (first | apply Kd.V_alloc | apply Kd.V_drewN | apply Kd.V_drew)); exact HO_0.out) hb); have n1_ := Aside0.mk (Kd.N_below (by (with_reducible repeat (first | apply Kd.N_alloc | apply Kd.N_drewN | apply Kd.N_drew)); exact HO105.out) hb); have n2_ := Aside0.mk (Kd.N_below (by (with_reducible repeat (first | apply Kd.N_alloc | apply Kd.N_drewN | apply Kd.N_drew)); exact HO108.out) hb); have n3_ := Aside0.mk (Kd.N_below (by (with_reducible repeat (first | apply Kd.N_alloc | apply Kd.N_drewN | apply Kd.N_drew)); exact HO111.out) hb); have n4_ := Aside0.mk (below_step (by repeat (first | (with_reducible first | exact HB.out | apply below_alloc | apply pw_below_drewN | apply below_drew1) | exact HB.out)) hb); clear HO_0; clear HO105; clear HO108; clear HO111; clear HB; have HO_0 := n0_; have HO105 := n1_; have HO108 := n2_; have HO111 := n3_; have HB := n4_; clear n0_ n1_ n2_ n3_ n4_; (try clear hb); (try clear hb2); (try clear hk); (try clear hi)) | (go_at_call 16; (with_reducible refine (spinneyref20_Ready.calls _ _ l0 _ _ l3 t114 _ ?side1 ?side2 ?side3 ?side4 A23.out).mono ?_); (case side1 => repeat (first | exact (Kd.V_reads' HO_0.out).2.2 | (with_reducible refine Kd.C_alloc ?_ _) | (with_reducible refine Kd.C_drewN ?_ _) | (with_reducible refine Kd.C_drew ?_))); (case side2 => exact (Kd.V_reads' HO_0.out).2.1); (case side3 => repeat (first | exact (Kd.C_below HR3.out HB.out) | (with_reducible refine Kd.C_alloc ?_ _) | (with_reducible refine Kd.C_drewN ?_ _) | (with_reducible refine Kd.C_drew ?_))); (case side4 => exact HC3.out); rintro e w44 ⟨rfl, hb⟩; have n0_ := Aside0.mk (Kd.V_below (by (with_reducible repeat (first | apply Kd.V_alloc | apply Kd.V_drewN | apply Kd.V_drew)); exact HO_0.out) hb); have n1_ := Aside0.mk (Kd.N_below (by (with_reducible repeat (first | apply Kd.N_alloc | apply Kd.N_drewN | apply Kd.N_drew)); exact HO105.out) hb); have n2_ := Aside0.mk (Kd.N_below (by (with_reducible repeat (first | apply Kd.N_alloc | apply Kd.N_drewN | apply Kd.N_drew)); exact HO108.out) hb); have n3_ := Aside0.mk (Kd.N_below (by (with_reducible repeat (first | apply Kd.N_alloc | apply Kd.N_drewN | apply Kd.N_drew)); exact HO111.out) hb); have n4_ := Aside0.mk (below_step (by repeat (first | (with_reducible first | exact HB.out | apply below_alloc | apply pw_below_drewN | apply below_drew1) | exact HB.out)) hb); clear HO_0; clear HO105; clear HO108; clear HO111; clear HB; have HO_0 := n0_; have HO105 := n1_; have HO108 := n2_; have HO111 := n3_; have HB := n4_; clear n0_ n1_ n2_ n3_ n4_; (try clear hb); (try clear hb2); (try clear hk); (try clear hi)))
                go_meet
                case rel => exact ⟨_, (false), (by first | rfl | (simp; done) | (simp [*]; done)), H', ⟨by have := HJ5.out; first | omega | exact Nat.le_refl _⟩, ⟨by (with_reducible repeat (first | apply Kd.V_alloc | apply Kd.V_drewN | apply Kd.V_drew)); exact Kd.V_mono HO_0.out (fun _ hk => ⟨hk.1.1.1, ⟨hk.1.1.2, hk.1.2⟩⟩)⟩, ⟨by (with_reducible repeat (first | apply Kd.N_alloc | apply Kd.N_drewN | apply Kd.N_drew)); exact Kd.N_mono HO105.out (fun _ hk => ⟨hk.1.1, hk.1.2⟩)⟩, ⟨by (with_reducible repeat (first | apply Kd.N_alloc | apply Kd.N_drewN | apply Kd.N_drew)); exact Kd.N_mono HO108.out (fun _ hk => hk.1)⟩, ⟨by repeat (first | (with_reducible first | exact HB.out | apply below_alloc | apply pw_below_drewN | apply below_drew1) | exact HB.out)⟩⟩
            · replace c21 := Bool.eq_false_iff.mpr c21
              subst c21
              have H1 : (spinneylaw20_LogDrops.j1 kj5 l0 t101 y103 t106 false) = some r := by rw [if_neg (show ¬ (false = true) by decide)] at H; exact H
              clear H
              have H := H1
              clear H1
              have H' := Aside0.mk H
              clear H
              go_wp2_with (first | ((with_reducible refine gate_callee (f := 14) rfl ?_); refine goesL_ (some 34) rfl rfl Try.func14 (by kernel_rfl) rfl #[.slice A0 l0.length c0, .slice A1 l1.length c1, .int .i64 a2] rfl (by (try simp only [List.map_toArray, List.map_cons, List.map_nil]); first | done | rfl | (simp only [List.length_drop, List.length_take]; rfl)) ?_; (with_reducible refine (spinneyref20_Drop.calls kj5 (fun k_ => (((P0_ k_ ∨ w.heap.size ≤ k_) ∧ some k_ ≠ (.slice Ao17 y103.length co17 : Value).ownBlock) ∧ some k_ ≠ (v107 : Value).ownBlock)) _ _ l0 _ _ l1 a2 t109 _ ?side1 ?side2 ?side3 A19.out).mono ?_); (case side1 => exact HO_0.out); (case side2 => repeat (first | exact (Kd.C_below HR1.out HB.out) | (with_reducible refine Kd.C_alloc ?_ _) | (with_reducible refine Kd.C_drewN ?_ _) | (with_reducible refine Kd.C_drew ?_))); (case side3 => exact HC1.out); rintro e w45 ⟨v110, rfl, ho0, hb⟩; refine ⟨_, rfl, ?_⟩; have n0_ := Aside0.mk (Kd.V_elder' (by (with_reducible repeat (first | apply Kd.V_alloc | apply Kd.V_drewN | apply Kd.V_drew)); exact HO_0.out) (Kd.N_base ho0) hb); have n1_ := Aside0.mk (Kd.N_elder' (by (with_reducible repeat (first | apply Kd.N_alloc | apply Kd.N_drewN | apply Kd.N_drew)); exact HO105.out) (Kd.N_base ho0) hb); have n2_ := Aside0.mk (Kd.N_elder' (by (with_reducible repeat (first | apply Kd.N_alloc | apply Kd.N_drewN | apply Kd.N_drew)); exact HO108.out) (Kd.N_base ho0) hb); have n3_ := Aside0.mk (Kd.N_lower (Kd.N_mono (ok' := fun k_ => (P0_ k_ ∨ w.heap.size ≤ k_) ∧ some k_ ≠ (.slice Ao17 y103.length co17 : Value).ownBlock ∧ some k_ ≠ (v107 : Value).ownBlock) ho0 (fun k_ hk_ => ⟨Or.elim hk_ (fun hs_ => hs_.1.1) (fun hn_ => (.inr (Nat.le_trans (below_size (by repeat (first | (with_reducible first | exact HB.out | apply below_alloc | apply pw_below_drewN | apply below_drew1) | exact HB.out))) hn_))), Or.elim hk_ (fun hs_ => hs_.1.2) (fun hn_ => (Kd.fresh' (Kd.N_lt (by (with_reducible repeat (first | apply Kd.N_alloc | apply Kd.N_drewN | apply Kd.N_drew)); exact HO105.out)) k_ hn_)), Or.elim hk_ (fun hs_ => hs_.2) (fun hn_ => (Kd.fresh' (Kd.N_lt (by (with_reducible repeat (first | apply Kd.N_alloc | apply Kd.N_drewN | apply Kd.N_drew)); exact HO108.out)) k_ hn_))⟩)) (below_size (by repeat (first | (with_reducible first | exact HB.out | apply below_alloc | apply pw_below_drewN | apply below_drew1) | exact HB.out)))); have n4_ := Aside0.mk (below_step (by repeat (first | (with_reducible first | exact HB.out | apply below_alloc | apply pw_below_drewN | apply below_drew1) | exact HB.out)) hb); clear HO_0; clear HO105; clear HO108; clear HB; have HO_0 := n0_; have HO105 := n1_; have HO108 := n2_; have HO111 := n3_; have HB := n4_; clear n0_ n1_ n2_ n3_ n4_; (try clear hb); (try clear hb2); (try clear hk); (try clear hi); (try clear ho0); obtain ⟨Ao46, co46, eo46⟩ := Kd.N_slice HO108.out; subst eo46; obtain ⟨Ao47, co47, eo47⟩ := Kd.N_slice HO111.out; subst eo47) | ((with_reducible refine gate_callee (f := 11) rfl ?_); refine goesL_ (some 35) rfl rfl Try.func11 (by kernel_rfl) rfl #[.slice Ao46 t106.length co46, .slice Ao47 t109.length co47] rfl (by (try simp only [List.map_toArray, List.map_cons, List.map_nil]); first | done | rfl | (simp only [List.length_drop, List.length_take]; rfl)) ?_; (with_reducible refine (spinneyref20_Same.calls kj5 _ _ t106 _ _ t109 false _ ?side1 ?side2 ?side3 ?side4 A20.out).mono ?_); (case side1 => repeat (first | exact (Kd.N_reads' HO108.out).2.2 | (with_reducible refine Kd.C_alloc ?_ _) | (with_reducible refine Kd.C_drewN ?_ _) | (with_reducible refine Kd.C_drew ?_))); (case side2 => exact (Kd.N_reads' HO108.out).2.1); (case side3 => repeat (first | exact (Kd.N_reads' HO111.out).2.2 | (with_reducible refine Kd.C_alloc ?_ _) | (with_reducible refine Kd.C_drewN ?_ _) | (with_reducible refine Kd.C_drew ?_))); (case side4 => exact (Kd.N_reads' HO111.out).2.1); rintro e w48 ⟨rfl, hb⟩; refine ⟨_, rfl, ?_⟩; have n0_ := Aside0.mk (Kd.V_below (by (with_reducible repeat (first | apply Kd.V_alloc | apply Kd.V_drewN | apply Kd.V_drew)); exact HO_0.out) hb); have n1_ := Aside0.mk (Kd.N_below (by (with_reducible repeat (first | apply Kd.N_alloc | apply Kd.N_drewN | apply Kd.N_drew)); exact HO105.out) hb); have n2_ := Aside0.mk (Kd.N_below (by (with_reducible repeat (first | apply Kd.N_alloc | apply Kd.N_drewN | apply Kd.N_drew)); exact HO108.out) hb); have n3_ := Aside0.mk (Kd.N_below (by (with_reducible repeat (first | apply Kd.N_alloc | apply Kd.N_drewN | apply Kd.N_drew)); exact HO111.out) hb); have n4_ := Aside0.mk (below_step (by repeat (first | (with_reducible first | exact HB.out | apply below_alloc | apply pw_below_drewN | apply below_drew1) | exact HB.out)) hb); clear HO_0; clear HO105; clear HO108; clear HO111; clear HB; have HO_0 := n0_; have HO105 := n1_; have HO108 := n2_; have HO111 := n3_; have HB := n4_; clear n0_ n1_ n2_ n3_ n4_; (try clear hb); (try clear hb2); (try clear hk); (try clear hi)))
              go_meet
              case rel => exact ⟨_, (false), (by first | rfl | (simp; done) | (simp [*]; done)), H', ⟨by have := HJ5.out; first | omega | exact Nat.le_refl _⟩, ⟨by (with_reducible repeat (first | apply Kd.V_alloc | apply Kd.V_drewN | apply Kd.V_drew)); exact Kd.V_mono HO_0.out (fun _ hk => ⟨hk.1.1.1, ⟨hk.1.1.2, hk.1.2⟩⟩)⟩, ⟨by (with_reducible repeat (first | apply Kd.N_alloc | apply Kd.N_drewN | apply Kd.N_drew)); exact Kd.N_mono HO105.out (fun _ hk => ⟨hk.1.1, hk.1.2⟩)⟩, ⟨by (with_reducible repeat (first | apply Kd.N_alloc | apply Kd.N_drewN | apply Kd.N_drew)); exact Kd.N_mono HO108.out (fun _ hk => hk.1)⟩, ⟨by repeat (first | (with_reducible first | exact HB.out | apply below_alloc | apply pw_below_drewN | apply below_drew1) | exact HB.out)⟩⟩
          case rest =>
            clear HC15
            try clear c1
            try clear c2
            try clear p2
            try clear c3
            try clear c4
            try clear c7
            try clear c8
            try clear c9
            try clear c10
            try clear c11
            try clear c12
            try clear c13
            try clear c14
            try clear c21
            try clear c24
            try clear c24b0
            try clear c24b1
            try clear p2
            obtain ⟨kq, x12_14, rfl, HA, HJ14, HO_0, HO_10, HO_11, HB⟩ := hcut
            cases kq with
            | zero => exact absurd HA.out (by simp [spinneylaw20_LogDrops.j1])
            | succ kj14 =>
              have H := HA.out
              clear HA
              simp only [spinneylaw20_LogDrops.j1] at H
              have H' := Aside0.mk H
              clear H
              obtain ⟨Ao49, co49, eo49⟩ := Kd.N_slice HO_11.out
              subst eo49
              go_wp2
              go_loopg [54] kj14 (fun kq v54 w' => ∃ (x11_3 : List (S29)) (x54_3 : Int), v54 = .int .i64 x54_3 ∧ Aside0 (spinneylaw20_LogDrops.l0 kq l0 t101 y103 x11_3 x12_14 (t106.length : Int) x54_3 = some r) ∧ Aside0 (kq ≤ kj14) ∧ Aside0 (Kd.V k29 29 w' w.heap.size (fun k_ => (P0_ k_ ∨ w.heap.size ≤ k_) ∧ some k_ ≠ ((.slice Ao17 y103.length co17) : Value).ownBlock ∧ some k_ ≠ ((.slice Ao49 t106.length co49) : Value).ownBlock) (.slice A0 l0.length c0) l0) ∧ Aside0 (Kd.N k29 29 w' w.heap.size (fun k_ => (P0_ k_ ∨ w.heap.size ≤ k_) ∧ some k_ ≠ ((.slice Ao49 t106.length co49) : Value).ownBlock) (.slice Ao17 y103.length co17) y103) ∧ Aside0 (Kd.N k29 29 w' w.heap.size (fun k_ => (P0_ k_ ∨ w.heap.size ≤ k_)) (.slice Ao49 t106.length co49) x11_3) ∧ Aside0 (Below w.heap.size w w'))
              case atStart => exact ⟨(t106), (0), (by first | rfl | (simp; done) | (simp [*]; done)), H', ⟨Nat.le_refl _⟩, ⟨by (with_reducible repeat (first | apply Kd.V_alloc | apply Kd.V_drewN | apply Kd.V_drew)); exact HO_0.out⟩, ⟨by (with_reducible repeat (first | apply Kd.N_alloc | apply Kd.N_drewN | apply Kd.N_drew)); exact HO_10.out⟩, ⟨by (with_reducible repeat (first | apply Kd.N_alloc | apply Kd.N_drewN | apply Kd.N_drew)); exact HO_11.out⟩, ⟨by repeat (first | (with_reducible first | exact HB.out | apply below_alloc | apply pw_below_drewN | apply below_drew1) | exact HB.out)⟩⟩
              case round =>
                clear H'
                try clear c1
                try clear c2
                try clear p2
                try clear c3
                try clear c4
                try clear c7
                try clear c8
                try clear c9
                try clear c10
                try clear c11
                try clear c12
                try clear c13
                try clear c14
                try clear c21
                try clear c24
                try clear c24b0
                try clear c24b1
                try clear p2
                obtain ⟨x11_3, x54_3, rfl, HA, HK3, HO_0, HO_10, HO_11, HB⟩ := hrel
                have hl11_3 := (Kd.N_reads' HO_11.out).1
                rw [hl11_3] at HO_11
                (try simp only [hl11_3])
                (try simp only [hl11_3] at HO_0)
                (try simp only [hl11_3] at HO_10)
                cases gk with
                | zero => exact absurd HA.out (by simp [spinneylaw20_LogDrops.l0])
                | succ k3 =>
                  have H := HA.out
                  clear HA
                  simp only [spinneylaw20_LogDrops.l0] at H
                  by_cases c50 : x54_3 < (t106.length : Int)
                  · rw [if_pos c50] at H
                    have c50b0 : decide (x54_3 < (t106.length : Int)) = true := decide_eq_true c50
                    (try (have c50b0h := c50b0; simp only [hl11_3] at c50b0h))
                    clear c50
                    by_cases c51 : 0 ≤ x54_3
                    · rw [if_pos c51] at H
                      have c51b0 : decide (0 ≤ x54_3) = true := decide_eq_true c51
                      clear c51
                      by_cases c52 : x54_3 < (x11_3.length : Int)
                      · rw [if_pos c52] at H
                        have c52b0 : decide (x54_3 < (x11_3.length : Int)) = true := decide_eq_true c52
                        (try (have c52b0h := c52b0; simp only [hl11_3] at c52b0h))
                        clear c52
                        obtain ⟨y122, hy122⟩ : ∃ y_ : List (S29), y_ = (x11_3.set (x54_3 : Int).toNat (⟨(rd_T29 x11_3 x54_3).f0, (⟨77, (rd_T29 x11_3 x54_3).f1.f1, (rd_T29 x11_3 x54_3).f1.f2⟩ : S27)⟩ : S29)) := ⟨_, rfl⟩
                        replace H : (spinneylaw20_LogDrops.l0 k3 l0 t101 y103 y122 x12_14 (t106.length : Int) (wrap64 (x54_3 + 1))) = some r := by first | (rw [hy122]; with_reducible exact H) | (have H2_ := (Option.bind_some _ _).symm.trans H; rw [hy122]; with_reducible exact H2_) | (have H2_ := (Option.bind_some _ _).symm.trans H; with_reducible exact H2_) | with_reducible exact H | (rw [hy122]; exact H) | exact H
                        have Ny122 := Aside0.mk hy122
                        clear hy122
                        have H' := Aside0.mk H
                        clear H
                        have p53 : 0 ≤ (x54_3 : Int) := of_decide_eq_true (by first | (with_reducible assumption) | assumption)
                        have q53 : (x54_3 : Int) < ((x11_3.length : Int) : Int) := of_decide_eq_true (by first | (with_reducible assumption) | assumption)
                        obtain ⟨go53, co53, eo53, gb53, gl53, cl53, HG53⟩ := Kd.N_form HO_11.out (by omega)
                        (first | cases eo53 | (injection eo53 with ea_ en_ ec_; (first | subst ea_ | (injection ea_ with ea_; subst ea_)); subst ec_; clear en_))
                        have GB53 := Aside0.mk gb53
                        have GG53 := Aside0.mk HG53
                        clear gb53 gl53 HG53
                        obtain ⟨ce53, hcl53, hM53, hcc53, hfr53⟩ := Kd.N_elem HO_11.out z29 (x54_3 : Int) p53 q53
                        obtain ⟨ua53_0, uc53_0, ua53_2, uc53_2, rfl, ul53_0, ge53_0, ul53_2, ge53_2⟩ := k29_openF hM53
                        have hx53_0 : wr.cell? ⟨go53, (x54_3 : Int).toNat * 4, none⟩ = some (.slice ua53_0 ((rd_T29 x11_3 x54_3).f0).length uc53_0) := hcc53 0 _ rfl
                        have hx53_1 : wr.cell? ⟨go53, (x54_3 : Int).toNat * 4 + 1, none⟩ = some (.int .i64 ((rd_T29 x11_3 x54_3).f1.f0)) := hcc53 1 _ rfl
                        have hx53_2 : wr.cell? ⟨go53, (x54_3 : Int).toNat * 4 + 2, none⟩ = some (.slice ua53_2 ((rd_T29 x11_3 x54_3).f1.f1).length uc53_2) := hcc53 2 _ rfl
                        have hx53_3 : wr.cell? ⟨go53, (x54_3 : Int).toNat * 4 + 3, none⟩ = some (.int .i64 ((rd_T29 x11_3 x54_3).f1.f2)) := hcc53 3 _ rfl
                        have hf53_0 : wr.frozen? ⟨go53, (x54_3 : Int).toNat * 4, none⟩ = false := hfr53 0
                        have hf53_1 : wr.frozen? ⟨go53, (x54_3 : Int).toNat * 4 + 1, none⟩ = false := hfr53 1
                        have hf53_2 : wr.frozen? ⟨go53, (x54_3 : Int).toNat * 4 + 2, none⟩ = false := hfr53 2
                        have hf53_3 : wr.frozen? ⟨go53, (x54_3 : Int).toNat * 4 + 3, none⟩ = false := hfr53 3
                        clear hcl53 hcc53 hfr53 hM53
                        replace p53 := eq_true p53
                        replace q53 := eq_true q53
                        have HX54 := Aside0.mk (show Kd.N k29 29 wr w.heap.size (fun k_ => (P0_ k_ ∨ w.heap.size ≤ k_)) (.slice (some ⟨go53, 0, none⟩) x11_3.length co49) x11_3 from (by (with_reducible repeat (first | apply Kd.N_alloc | apply Kd.N_drewN | apply Kd.N_drew)); exact HO_11.out))
                        obtain ⟨ce54, hcl54, hM54, hcc54, hfr54⟩ := Kd.N_elem HX54.out z29 (x54_3 : Int) (of_decide_eq_true (by first | (with_reducible assumption) | assumption)) (by have h_ : (x54_3 : Int) < ((x11_3.length : Int) : Int) := of_decide_eq_true (by first | (with_reducible assumption) | assumption); first | exact h_ | (have e_ := (Kd.N_reads' HO_11.out).1; omega) | simpa using h_)
                        obtain ⟨ua54_0, uc54_0, ua54_2, uc54_2, rfl, ul54_0, ge54_0, ul54_2, ge54_2⟩ := k29_openF hM54
                        have HP54 := Kd.N_seg HX54.out (x54_3 : Int) (of_decide_eq_true (by first | (with_reducible assumption) | assumption)) (by have h_ : (x54_3 : Int) < ((x11_3.length : Int) : Int) := of_decide_eq_true (by first | (with_reducible assumption) | assumption); first | exact h_ | (have e_ := (Kd.N_reads' HO_11.out).1; omega) | simpa using h_) (seg := [.int .i64 77]) (j := 1) hcl54 hcc54 (show 2 ≤ 4 from by decide) (x' := (⟨(rd_T29 x11_3 x54_3).f0, (⟨77, (rd_T29 x11_3 x54_3).f1.f1, (rd_T29 x11_3 x54_3).f1.f2⟩ : S27)⟩ : S29)) (k29_mkF _ _ (⟨(rd_T29 x11_3 x54_3).f0, (⟨77, (rd_T29 x11_3 x54_3).f1.f1, (rd_T29 x11_3 x54_3).f1.f2⟩ : S27)⟩ : S29) ul54_0 ge54_0 ul54_2 ge54_2) (fun _ hk => hk)
                        have hx54_1 := hcc54 1 _ rfl
                        (try simp only [show (k29).sz = 4 from rfl, Nat.mul_one, Nat.add_zero] at hx54_1)
                        have hf54_1 := hfr54 1
                        (try simp only [show (k29).sz = 4 from rfl, Nat.mul_one, Nat.add_zero] at hf54_1)
                        clear hcl54 hcc54 hfr54 hM54
                        go_wp2_with (first | ((with_reducible refine gate_store (t := 3) (p := 61) rfl ?_); refine store_event (t := 3) (p := 61) (v := ?vo_w55) (w1 := (wr.setCell ⟨go53, (x54_3 : Int).toNat * 4 + 1, none⟩ (.int .i64 77))) ?hg ?ho ?hn ?hr ?_; (case ho => rfl); (case hg => rfl); (case hn => rfl); (case hr => first | (go_simp; done) | (go_simp; rfl)); intro w55 hw; have hg : wr.grownBy w55 (some go53) := (by rw [hw]; exact HP54.2); have hp_ : Kd.N k29 29 w55 w.heap.size (fun k_ => (P0_ k_ ∨ w.heap.size ≤ k_)) (.slice (some ⟨go53, 0, none⟩) x11_3.length co49) y122 := (by rw [hw, Ny122.out]; exact HP54.1); clear HP54; have n0_ := Aside0.mk (Kd.V_afterv (v := (.slice (some ⟨go53, 0, none⟩) x11_3.length co49)) (v1 := (.slice (some ⟨go53, 0, none⟩) x11_3.length co49)) (ok := (fun k_ => (P0_ k_ ∨ w.heap.size ≤ k_) ∧ some k_ ≠ (.slice Ao17 y103.length co17 : Value).ownBlock)) (by (with_reducible repeat (first | apply Kd.V_alloc | apply Kd.V_drewN | apply Kd.V_drew)); exact Kd.V_mono HO_0.out (fun _ hk => ⟨⟨hk.1, hk.2.1⟩, hk.2.2⟩)) hg (.inl rfl)); have n1_ := Aside0.mk (Kd.N_afterv (v := (.slice (some ⟨go53, 0, none⟩) x11_3.length co49)) (v1 := (.slice (some ⟨go53, 0, none⟩) x11_3.length co49)) (ok := (fun k_ => (P0_ k_ ∨ w.heap.size ≤ k_))) (by (with_reducible repeat (first | apply Kd.N_alloc | apply Kd.N_drewN | apply Kd.N_drew)); exact HO_10.out) hg (.inl rfl)); have n2_ := Aside0.mk (hp_); have n3_ := Aside0.mk ((by rw [hw]; exact below_set (HB.out) GB53.out : Below w.heap.size w w55)); clear HO_0; clear HO_10; clear HO_11; clear HB; have HO_0 := n0_; have HO_10 := n1_; have HO_11 := n2_; have HB := n3_; clear n0_ n1_ n2_ n3_; clear hg hw hp_))
                        (try simp only [← hl11_3])
                        go_roundg k3
                        case measure => have := HJ5.out; have := HJ14.out; have := HK3.out; omega
                        case rel => exact ⟨(y122), (wrap64 (x54_3 + 1)), (by first | rfl | (simp; done) | (simp [*]; done)), H', ⟨by have := HJ5.out; have := HJ14.out; have := HK3.out; omega⟩, ⟨by (try simp only [hl11_3]); (with_reducible repeat (first | apply Kd.V_alloc | apply Kd.V_drewN | apply Kd.V_drew)); exact Kd.V_mono HO_0.out (fun _ hk => ⟨hk.1.1, ⟨hk.1.2, hk.2⟩⟩)⟩, ⟨by (try simp only [hl11_3]); (with_reducible repeat (first | apply Kd.N_alloc | apply Kd.N_drewN | apply Kd.N_drew)); exact HO_10.out⟩, ⟨by (try simp only [hl11_3]); (with_reducible repeat (first | apply Kd.N_alloc | apply Kd.N_drewN | apply Kd.N_drew)); exact HO_11.out⟩, ⟨by repeat (first | (with_reducible first | exact HB.out | apply below_alloc | apply pw_below_drewN | apply below_drew1) | exact HB.out)⟩⟩
                      · rw [if_neg c52] at H
                        exact absurd H (by simp)
                    · rw [if_neg c51] at H
                      exact absurd H (by simp)
                  · rw [if_neg c50] at H
                    have c50b0 : decide (x54_3 < (t106.length : Int)) = false := decide_eq_false c50
                    (try (have c50b0h := c50b0; simp only [hl11_3] at c50b0h))
                    clear c50
                    by_cases c56 : t101 = true
                    · subst c56
                      have H1 : (if x12_14 = true then ((spinneyref20_Same.f k3 y103 l0).bind fun t123 => (some t123)) else (some false)) = some r := by rw [if_pos rfl] at H; exact H
                      clear H
                      have H := H1
                      clear H1
                      by_cases c57 : x12_14 = true
                      · subst c57
                        have H1 : ((spinneyref20_Same.f k3 y103 l0).bind fun t123 => (some t123)) = some r := by rw [if_pos rfl] at H; exact H
                        clear H
                        have H := H1
                        clear H1
                        replace H := Option.bind_eq_some_iff.mp H
                        obtain ⟨t123, A580, H⟩ := H
                        replace H : (some t123) = some r := H
                        have A58 := Aside0.mk A580
                        clear A580
                        obtain rfl := Option.some.inj H
                        go_wp2_with (first | (go_at_call 11; (with_reducible refine (spinneyref20_Same.calls k3 _ _ y103 _ _ l0 t123 _ ?side1 ?side2 ?side3 ?side4 A58.out).mono ?_); (case side1 => repeat (first | exact (Kd.N_reads' HO_10.out).2.2 | (with_reducible refine Kd.C_alloc ?_ _) | (with_reducible refine Kd.C_drewN ?_ _) | (with_reducible refine Kd.C_drew ?_))); (case side2 => exact (Kd.N_reads' HO_10.out).2.1); (case side3 => repeat (first | exact (Kd.V_reads' HO_0.out).2.2 | (with_reducible refine Kd.C_alloc ?_ _) | (with_reducible refine Kd.C_drewN ?_ _) | (with_reducible refine Kd.C_drew ?_))); (case side4 => exact (Kd.V_reads' HO_0.out).2.1); rintro e w59 ⟨rfl, hb⟩; have n0_ := Aside0.mk (Kd.V_below (by (with_reducible repeat (first | apply Kd.V_alloc | apply Kd.V_drewN | apply Kd.V_drew)); exact HO_0.out) hb); have n1_ := Aside0.mk (Kd.N_below (by (with_reducible repeat (first | apply Kd.N_alloc | apply Kd.N_drewN | apply Kd.N_drew)); exact HO_10.out) hb); have n2_ := Aside0.mk (Kd.N_below (by (with_reducible repeat (first | apply Kd.N_alloc | apply Kd.N_drewN | apply Kd.N_drew)); exact HO_11.out) hb); have n3_ := Aside0.mk (below_step (by repeat (first | (with_reducible first | exact HB.out | apply below_alloc | apply pw_below_drewN | apply below_drew1) | exact HB.out)) hb); clear HO_0; clear HO_10; clear HO_11; clear HB; have HO_0 := n0_; have HO_10 := n1_; have HO_11 := n2_; have HB := n3_; clear n0_ n1_ n2_ n3_; (try clear hb); (try clear hb2); (try clear hk); (try clear hi)))
                        go_ret
                        exact ⟨by first | rfl | (simp [errW_none, errW_some] <;> rfl) | (simp [*, errW_none, errW_some] <;> rfl), by repeat (first | (with_reducible first | exact HB.out | apply below_alloc | apply pw_below_drewN | apply below_drew1) | exact HB.out)⟩
                      · replace c57 := Bool.eq_false_iff.mpr c57
                        subst c57
                        have H1 : (some false) = some r := by rw [if_neg (show ¬ (false = true) by decide)] at H; exact H
                        clear H
                        have H := H1
                        clear H1
                        obtain rfl := Option.some.inj H
                        go_wp2
                        go_ret
                        exact ⟨by first | rfl | (simp [errW_none, errW_some] <;> rfl) | (simp [*, errW_none, errW_some] <;> rfl), by repeat (first | (with_reducible first | exact HB.out | apply below_alloc | apply pw_below_drewN | apply below_drew1) | exact HB.out)⟩
                    · replace c56 := Bool.eq_false_iff.mpr c56
                      subst c56
                      have H1 : (some false) = some r := by rw [if_neg (show ¬ (false = true) by decide)] at H; exact H
                      clear H
                      have H := H1
                      clear H1
                      obtain rfl := Option.some.inj H
                      go_wp2
                      go_ret
                      exact ⟨by first | rfl | (simp [errW_none, errW_some] <;> rfl) | (simp [*, errW_none, errW_some] <;> rfl), by repeat (first | (with_reducible first | exact HB.out | apply below_alloc | apply pw_below_drewN | apply below_drew1) | exact HB.out)⟩
        · rw [if_neg c13] at H
          exact absurd H (by simp)

end Go.Proofs.Ytlapiebnmbbemaa.A
end
section
/- What the laws of the log share: what is too great, a log is the same as itself. -/
namespace Go.Proofs.Ytlapiebnmbbemaa.A
open Go.RowKit Go.Proofs.YtlapiebnmbbemaaW.PrintWords Go.Proofs.YtlapiebnmbbemaaW.PrintLast Go.Proofs.YtlapiebnmbbemaaW.PrintMore
set_option linter.unusedVariables false
/-! ### the order of places -/
theorem cmpL_self : ∀ a : List Int, cmpL a a = 0
  | [] => rfl
  | x :: xs => by simp only [cmpL, Int.lt_irrefl, if_false, GT.gt]; exact cmpL_self xs
theorem wrap_succ (i : Nat) (h : i < 9223372036854775807) : wrap64 ((i : Int) + 1) = ((i + 1 : Nat) : Int) := by unfold wrap64; omega
theorem rd_entry (l : List S29) (i : Nat) (h : i < l.length) : rd_T29 l (i : Int) = l[i] := by simp [rd_T29, h]
theorem rd_label (l : List (List Int)) (i : Nat) (h : i < l.length) : rd_L3 l (i : Int) = l[i] := by simp [rd_L3, h]
/-- Whether a log is too great. -/
def greatE (x : S29) : Bool := decide (x.f0.length > 100) || decide (x.f1.f1.length > 0)
def bigL (l : List S29) (m : List (List Int)) : Bool := decide (l.length > 200) || decide (m.length > 200) || l.any greatE || m.any (fun a => decide (a.length > 100))
theorem big_l1 (l : List S29) (m : List (List Int)) (hm : m.length ≤ 200) : ∀ (d i : Nat), m.length - i = d → i ≤ m.length → Ev (fun k => spinneylaw20_big.l1 k m (m.length : Int) (i : Int)) ((m.drop i).any (fun a => decide (a.length > 100))) := by
  intro d
  induction d with
  | zero =>
    intro i h1 h2
    refine Ev.step (fun k => by simp only [spinneylaw20_big.l1]; rfl) (Ev.neg (by omega) ?_)
    rw [List.drop_of_length_le (by omega)]
    exact Ev.now _
  | succ d ih =>
    intro i h1 h2
    have hi : i < m.length := by omega
    refine Ev.step (fun k => by simp only [spinneylaw20_big.l1]; rfl) (Ev.pos (by omega) (Ev.pos (by omega) (Ev.pos (by omega) ?_)))
    rw [rd_label m i hi, List.drop_eq_getElem_cons hi, List.any_cons]
    by_cases hg : m[i].length > 100
    · rw [decide_eq_true hg]
      exact Ev.pos (by omega) (Ev.now _)
    · rw [decide_eq_false hg, Bool.false_or, wrap_succ i (by omega)]
      exact Ev.neg (by omega) (ih (i + 1) (by omega) (by omega))
theorem big_l0 (l : List S29) (m : List (List Int)) (hl : l.length ≤ 200) (hm : m.length ≤ 200) : ∀ (d i : Nat), l.length - i = d → i ≤ l.length → Ev (fun k => spinneylaw20_big.l0 k m l (l.length : Int) (i : Int)) ((l.drop i).any greatE || m.any (fun a => decide (a.length > 100))) := by
  intro d
  induction d with
  | zero =>
    intro i h1 h2
    refine Ev.step (fun k => by simp only [spinneylaw20_big.l0]; rfl) (Ev.neg (by omega) ?_)
    rw [List.drop_of_length_le (by omega)]
    exact big_l1 l m hm _ 0 rfl (by omega)
  | succ d ih =>
    intro i h1 h2
    have hi : i < l.length := by omega
    refine Ev.step (fun k => by simp only [spinneylaw20_big.l0]; rfl) (Ev.pos (by omega) (Ev.pos (by omega) (Ev.pos (by omega) ?_)))
    rw [rd_entry l i hi, List.drop_eq_getElem_cons hi, List.any_cons]
    by_cases hg : l[i].f0.length > 100
    · rw [show greatE l[i] = true by simp [greatE, hg]]
      exact Ev.pos (by omega) (Ev.now _)
    · refine Ev.neg (by omega) ?_
      by_cases hg2 : l[i].f1.f1.length > 0
      · rw [show greatE l[i] = true by simp only [greatE, decide_eq_true hg2, Bool.or_true]]
        exact Ev.pos (by omega) (Ev.now _)
      · rw [show greatE l[i] = false by simp only [greatE, decide_eq_false hg, decide_eq_false hg2, Bool.or_false], Bool.false_or, wrap_succ i (by omega)]
        exact Ev.neg (by omega) (ih (i + 1) (by omega) (by omega))
theorem big_ev (l : List S29) (m : List (List Int)) : Ev (fun k => spinneylaw20_big.f k l m) (bigL l m) := by
  unfold bigL
  by_cases h1 : l.length > 200
  · refine Ev.pos (by omega) ?_
    rw [decide_eq_true h1]
    exact Ev.step (fun k => by simp only [spinneylaw20_big.j0]; rfl) (Ev.pos (rfl : true = true) (Ev.now _))
  · refine Ev.neg (by omega) ?_
    rw [decide_eq_false h1]
    by_cases h2 : m.length > 200
    · rw [decide_eq_true h2, decide_eq_true (show (m.length : Int) > 200 by omega)]
      exact Ev.step (fun k => by simp only [spinneylaw20_big.j0]; rfl) (Ev.pos (rfl : true = true) (Ev.now _))
    · rw [decide_eq_false h2, decide_eq_false (show ¬ (m.length : Int) > 200 by omega)]
      exact Ev.step (fun k => by simp only [spinneylaw20_big.j0]; rfl) (Ev.neg (by simp) (big_l0 l m (by omega) (by omega) _ 0 rfl (by omega)))

theorem same_self (l : List S29) (hl : l.length ≤ 200) : ∀ (d i : Nat), l.length - i = d → i ≤ l.length → Ev (fun k => spinneyref20_Same.l0 k l l (l.length : Int) (i : Int)) true := by
  intro d
  induction d with
  | zero =>
    intro i h1 h2
    exact Ev.step (fun k => by simp only [spinneyref20_Same.l0]; rfl) (Ev.neg (by omega) (Ev.now _))
  | succ d ih =>
    intro i h1 h2
    have hi : i < l.length := by omega
    refine Ev.step (fun k => by simp only [spinneyref20_Same.l0]; rfl) (Ev.pos (by omega) (Ev.pos (by omega) (Ev.pos (by omega) (Ev.pos (by omega) ?_))))
    rw [rd_entry l i hi]
    refine Ev.bind (Ev.now _) ?_
    refine Ev.pos (cmpL_self _) ?_
    have he : spinneyref14_SameEvent.f l[i].f1.f0 l[i].f1.f1 l[i].f1.f2 l[i].f1.f0 l[i].f1.f1 l[i].f1.f2 = some true := by
      simp only [spinneyref14_SameEvent.f, if_true, spinneyref03_SameAll.f, spinneyref03_SameW.f, sameT_refl, Option.bind_some]
    rw [he]
    refine Ev.bind (Ev.now _) (Ev.pos (rfl : true = true) ?_)
    rw [wrap_succ i (by omega)]
    exact ih (i + 1) (by omega) (by omega)
theorem same_ev_self (l : List S29) (hl : l.length ≤ 200) : Ev (fun k => spinneyref20_Same.f k l l) true := Ev.pos rfl (same_self l hl _ 0 rfl (by omega))

theorem bigL_short {l : List S29} {m : List (List Int)} (h : bigL l m = false) : l.length ≤ 200 := by
  simp only [bigL, Bool.or_eq_false_iff, decide_eq_false_iff_not] at h
  omega
end Go.Proofs.Ytlapiebnmbbemaa.A
end
section
/- The pure law of LogDrops. -/
namespace Go.Proofs.Ytlapiebnmbbemaa.A
open Go.RowKit Go.Proofs.YtlapiebnmbbemaaW.PrintWords Go.Proofs.YtlapiebnmbbemaaW.PrintLast Go.Proofs.YtlapiebnmbbemaaW.PrintMore
set_option linter.unusedVariables false

theorem rdrop_loop (l : List S29) (by_ : List Int) (dep : Int) (hl : l.length ≤ 200) : ∀ (d i : Nat) (x : List S29), l.length - i = d → i ≤ l.length → x.length ≤ i → Ev (fun k => spinneyref20_Drop.l0 k by_ dep x l (l.length : Int) (i : Int)) (x ++ (l.drop i).filter (fun e => !prunedL e.f0 by_ dep)) := by
  intro d
  induction d with
  | zero =>
    intro i x h1 h2 h3
    refine Ev.step (fun k => by simp only [spinneyref20_Drop.l0]; rfl) (Ev.neg (by omega) ?_)
    rw [List.drop_of_length_le (by omega), List.filter_nil, List.append_nil]
    exact Ev.now _
  | succ d ih =>
    intro i x h1 h2 h3
    have hi : i < l.length := by omega
    refine Ev.step (fun k => by simp only [spinneyref20_Drop.l0]; rfl) (Ev.pos (by omega) (Ev.pos (by omega) (Ev.pos (by omega) ?_)))
    rw [rd_entry l i hi]
    refine Ev.bind (Ev.now _) ?_
    rw [List.drop_eq_getElem_cons hi, wrap_succ i (by omega)]
    cases hp : prunedL l[i].f0 by_ dep with
    | true =>
      rw [List.filter_cons_of_neg (by simp [hp])]
      exact Ev.pos rfl (ih (i + 1) x (by omega) (by omega) (by omega))
    | false =>
      rw [List.filter_cons_of_pos (by simp [hp])]
      refine Ev.neg (by simp) (Ev.pos (by omega) ?_)
      have := ih (i + 1) (x ++ [l[i]]) (by omega) (by omega) (by simp; omega)
      rw [List.append_assoc] at this
      exact this
/-- What entries tell: up to the first failure. -/
def evL : List S29 → List S27
  | [] => []
  | x :: xs => x.f1 :: if x.f1.f0 = 3 then [] else evL xs
theorem events_loop (l : List S29) (hl : l.length ≤ 200) : ∀ (d i : Nat) (x : List S27), l.length - i = d → i ≤ l.length → x.length ≤ i → Ev (fun k => log_Events.l0 k x l (l.length : Int) (i : Int)) (x ++ evL (l.drop i)) := by
  intro d
  induction d with
  | zero =>
    intro i x h1 h2 h3
    refine Ev.step (fun k => by simp only [log_Events.l0]; rfl) (Ev.neg (by omega) ?_)
    rw [List.drop_of_length_le (by omega)]
    exact Ev.eq (Ev.now _) (by simp [evL])
  | succ d ih =>
    intro i x h1 h2 h3
    have hi : i < l.length := by omega
    refine Ev.step (fun k => by simp only [log_Events.l0]; rfl) (Ev.pos (by omega) (Ev.pos (by omega) (Ev.pos (by omega) (Ev.pos (by omega) ?_))))
    rw [rd_entry l i hi]
    refine Ev.bind (Ev.now _) ?_
    rw [List.drop_eq_getElem_cons hi, wrap_succ i (by omega)]
    simp only [evL]
    by_cases hp : l[i].f1.f0 = 3
    · rw [if_pos hp]
      exact Ev.pos hp (Ev.now _)
    · rw [if_neg hp]
      refine Ev.neg hp ?_
      have := ih (i + 1) (x ++ [l[i].f1]) (by omega) (by omega) (by simp; omega)
      rw [List.append_assoc] at this
      exact this
theorem revents_loop (l : List S29) (hl : l.length ≤ 200) : ∀ (d i : Nat) (x : List S27), l.length - i = d → i ≤ l.length → x.length ≤ i → Ev (fun k => spinneyref20_Events.l0 k x l (l.length : Int) (i : Int)) (x ++ evL (l.drop i)) := by
  intro d
  induction d with
  | zero =>
    intro i x h1 h2 h3
    refine Ev.step (fun k => by simp only [spinneyref20_Events.l0]; rfl) (Ev.neg (by omega) ?_)
    rw [List.drop_of_length_le (by omega)]
    exact Ev.eq (Ev.now _) (by simp [evL])
  | succ d ih =>
    intro i x h1 h2 h3
    have hi : i < l.length := by omega
    refine Ev.step (fun k => by simp only [spinneyref20_Events.l0]; rfl) (Ev.pos (by omega) (Ev.pos (by omega) (Ev.pos (by omega) (Ev.pos (by omega) ?_))))
    rw [rd_entry l i hi]
    refine Ev.bind (Ev.now _) ?_
    rw [List.drop_eq_getElem_cons hi, wrap_succ i (by omega)]
    simp only [evL]
    by_cases hp : l[i].f1.f0 = 3
    · rw [if_pos hp]
      exact Ev.pos hp (Ev.now _)
    · rw [if_neg hp]
      refine Ev.neg hp ?_
      have := ih (i + 1) (x ++ [l[i].f1]) (by omega) (by omega) (by simp; omega)
      rw [List.append_assoc] at this
      exact this
theorem evL_len : ∀ l : List S29, (evL l).length ≤ l.length
  | [] => by simp [evL]
  | x :: xs => by
    have := evL_len xs
    simp only [evL, List.length_cons]
    split
    · simp
    · omega
theorem rd_event (l : List S27) (i : Nat) (h : i < l.length) : rd_T27 l (i : Int) = l[i] := by simp [rd_T27, h]
theorem sameevents_self (l : List S27) (hl : l.length ≤ 200) : ∀ (d i : Nat), l.length - i = d → i ≤ l.length → Ev (fun k => spinneyref14_SameEvents.l0 k l l (l.length : Int) (i : Int)) true := by
  intro d
  induction d with
  | zero =>
    intro i h1 h2
    exact Ev.step (fun k => by simp only [spinneyref14_SameEvents.l0]; rfl) (Ev.neg (by omega) (Ev.now _))
  | succ d ih =>
    intro i h1 h2
    have hi : i < l.length := by omega
    refine Ev.step (fun k => by simp only [spinneyref14_SameEvents.l0]; rfl) (Ev.pos (by omega) (Ev.pos (by omega) (Ev.pos (by omega) (Ev.pos (by omega) ?_))))
    rw [rd_event l i hi]
    have he : spinneyref14_SameEvent.f l[i].f0 l[i].f1 l[i].f2 l[i].f0 l[i].f1 l[i].f2 = some true := by
      simp only [spinneyref14_SameEvent.f, if_true, spinneyref03_SameAll.f, spinneyref03_SameW.f, sameT_refl, Option.bind_some]
    rw [he]
    refine Ev.bind (Ev.now _) (Ev.pos (rfl : true = true) ?_)
    rw [wrap_succ i (by omega)]
    exact ih (i + 1) (by omega) (by omega)
theorem drops_loop (x0 : List S29) (h0 : x0.length ≤ 200) (n : Nat) (hn : n ≤ 200) : ∀ (d i : Nat) (x : List S29), n - i = d → i ≤ n → x.length = n → Ev (fun k => spinneylaw20_LogDrops.l0 k x0 true x0 x true (n : Int) (i : Int)) true := by
  intro d
  induction d with
  | zero =>
    intro i x h1 h2 h3
    refine Ev.step (fun k => by simp only [spinneylaw20_LogDrops.l0]; rfl) (Ev.neg (by omega) (Ev.pos (rfl : true = true) (Ev.pos (rfl : true = true) ?_)))
    exact Ev.bind (same_ev_self x0 h0) (Ev.now _)
  | succ d ih =>
    intro i x h1 h2 h3
    refine Ev.step (fun k => by simp only [spinneylaw20_LogDrops.l0]; rfl) (Ev.pos (by omega) (Ev.pos (by omega) (Ev.pos (by omega) ?_)))
    rw [wrap_succ i (by omega)]
    exact ih (i + 1) _ (by omega) (by omega) (by rw [List.length_set]; exact h3)
theorem drops_ev (l0 : List S29) (l1 : List Int) (a2 : Int) (l3 : List (List Int)) : Ev (fun k => spinneylaw20_LogDrops.f k l0 l1 a2 l3) true := by
  refine Ev.bind (Ev.now true) ?_
  refine Ev.bind (big_ev l0 l3) ?_
  cases hb : bigL l0 l3 with
  | true => exact Ev.pos rfl (Ev.step (fun k => by simp only [spinneylaw20_LogDrops.j0]; rfl) (Ev.pos (rfl : true = true) (Ev.now _)))
  | false =>
    have h0 := bigL_short hb
    refine Ev.neg (by simp) ?_
    cases hd : decide ((l1.length : Int) > 100) with
    | true => exact Ev.step (fun k => by simp only [spinneylaw20_LogDrops.j0]; rfl) (Ev.pos (rfl : true = true) (Ev.now _))
    | false =>
      refine Ev.step (fun k => by simp only [spinneylaw20_LogDrops.j0]; rfl) (Ev.neg (by simp) (Ev.pos (by simp; omega) ?_))
      rw [List.nil_append]
      refine Ev.bind (Ev.now _) ?_
      obtain ⟨A, hA⟩ : ∃ A, l0.filter (fun x => !prunedL x.f0 l1 a2) = A := ⟨_, rfl⟩
      have hlA : A.length ≤ l0.length := by rw [← hA]; exact List.length_filter_le _ _
      have e1 : log_Drop.f l0 l1 a2 = some A := by rw [← hA]; exact if_pos (by omega)
      rw [e1]
      refine Ev.bind (Ev.now _) ?_
      have e2 := rdrop_loop l0 l1 a2 h0 _ 0 [] rfl (by omega) (by simp)
      rw [List.drop_zero, List.nil_append, hA] at e2
      refine Ev.bind e2 ?_
      refine Ev.bind (same_ev_self A (by omega)) (Ev.pos (rfl : true = true) ?_)
      refine Ev.bind (Ev.now _) (Ev.bind (Ev.now _) (Ev.pos rfl ?_))
      have e3 := events_loop l0 h0 _ 0 [] rfl (by omega) (by simp)
      have e4 := revents_loop l0 h0 _ 0 [] rfl (by omega) (by simp)
      rw [List.drop_zero, List.nil_append] at e3 e4
      refine Ev.bind e3 (Ev.bind e4 ?_)
      have hel := evL_len l0
      refine Ev.bind (Ev.pos rfl (sameevents_self (evL l0) (by omega) _ 0 rfl (by omega))) ?_
      refine Ev.step (fun k => by simp only [spinneylaw20_LogDrops.j1]; rfl) ?_
      exact drops_loop l0 h0 A.length (by omega) _ 0 A rfl (by omega) rfl
theorem LogDrops (l0 : List S29) (l1 : List Int) (a2 : Int) (l3 : List (List Int)) : ∃ k, spinneylaw20_LogDrops.f k l0 l1 a2 l3 = some true := (drops_ev l0 l1 a2 l3).rounds
end Go.Proofs.Ytlapiebnmbbemaa.A
end
section
/- Arguments that read as data, read by the print's kinds: rows, terms, entries. -/
namespace Go.Proofs.Ytlapiebnmbbemaa.A
open Go.RowKit Go.ChangeShapes Go.WideShapes Go.Proofs.YtlapiebnmbbemaaW.PrintWords Go.Proofs.YtlapiebnmbbemaaW.PrintLast Go.Proofs.YtlapiebnmbbemaaW.PrintMore
set_option linter.unusedVariables false

section
variable {H : Type} {enc : TypeId × Value → H} {P : Program} {w : World} {base : Nat} {spare : Nat → Bool} {held : Bool}
theorem pick_lt {α : Type} (z : α) {n : Nat} {p : Nat → α → Prop} (h : ∀ i, i < n → ∃ x, p i x) : ∃ f : Nat → α, ∀ i, i < n → p i (f i) := by
  classical
  refine ⟨fun i => if hi : i < n then Classical.choose (h i hi) else z, fun i hi => ?_⟩
  simp only [dif_pos hi]
  exact Classical.choose_spec (h i hi)
theorem add_add_ (a : Addr) (i j : Nat) : (a.add i).add j = a.add (i + j) := by
  unfold Addr.add
  by_cases hi : i = 0 <;> by_cases hj : j = 0 <;> simp [hi, hj, Nat.add_assoc]
/-- A slice that reads as data is a row of its elements' kind. -/
theorem open_row {α : Type} (z : α) (d : Kd α) {t e : TypeId} (ht : P.underlying t = some (.slice e)) (hsz : P.cellsOf e = d.sz) {fuel : Nat} {cs : List Value} {x : DataW H × List MemPlace}
    (h : DataW.trod enc P w base spare held fuel t cs = some x) (hel : ∀ m, m < fuel → ∀ cs' x', DataW.trod enc P w base spare held m e cs' = some x' → ∃ v, d.K w v cs') :
    ∃ A c xs, cs = [.slice A xs.length c] ∧ xs.length ≤ c ∧ d.C w A xs.length xs := by
  rcases DataW.trod_slice ht h with ⟨rfl, _⟩ | ⟨a, len, cap, elems, rest, n, rfl, rfl, _, hb, hl, hm, hlen, hi, _, _⟩
  · exact ⟨none, 0, [], rfl, Nat.le_refl _, rfl, by simp, fun h => absurd h (by simp)⟩
  · have hp : ∀ i, i < len → ∃ v, ∃ c, c.length = d.sz ∧ d.K w v c ∧ ∀ j u, c[j]? = some u → w.cell? (a.add (i * d.sz + j)) = some u := by
      intro i hil
      have h1 := hi i hil
      rw [List.getElem?_eq_getElem (by omega), Option.bind_eq_some_iff] at h1
      obtain ⟨c, hc, hx⟩ := h1
      obtain ⟨v, hv⟩ := hel n (by omega) c _ hx
      rw [hsz] at hc
      obtain ⟨_, h2, h3⟩ := World.cells?_some hc
      refine ⟨v, c, h2, hv, fun j u hu => ?_⟩
      have hj : j < d.sz := by have := (List.getElem?_eq_some_iff.1 hu).1; omega
      have h4 := h3 j hj
      rw [hu] at h4
      rw [← h4]
      congr 1
      exact (add_add_ a _ _).symm
    obtain ⟨f, hf⟩ := pick_lt z hp
    have hl2 : ((List.range len).map f).length = len := by simp
    refine ⟨some a, cap, (List.range len).map f, by rw [hl2], by rw [hl2]; exact hl, rfl, by rw [hl2]; unfold maxLen at hm; omega, fun _ => ⟨a, rfl, fun j p hj => ?_⟩⟩
    have hjl : j < len := by have := (List.getElem?_eq_some_iff.1 hj).1; omega
    rw [List.getElem?_map, List.getElem?_range hjl] at hj
    injection hj with hj
    subst hj
    exact hf j hjl
theorem open_int_any {t : TypeId} {k : IntKind} (ht : P.underlying t = some (.int k)) {fuel : Nat} {cs : List Value} {x : DataW H × List MemPlace} (h : DataW.trod enc P w base spare held fuel t cs = some x) : ∃ v, (Kd.int k).K w v cs := by
  obtain ⟨n, rfl, _, _⟩ := DataW.trod_int ht h
  exact ⟨n, rfl⟩
theorem len_four {cs : List Value} (h : cs.length = 4) : ∃ a b c d, cs = [a, b, c, d] := by
  match cs, h with
  | [a, b, c, d], _ => exact ⟨a, b, c, d, rfl⟩
theorem len_three {cs : List Value} (h : cs.length = 3) : ∃ a b c, cs = [a, b, c] := by
  match cs, h with
  | [a, b, c], _ => exact ⟨a, b, c, rfl⟩
theorem some_at {α : Type} {xs : List α} {n i : Nat} (h : xs.length = n) (hi : i < n) {o : Option α} (e : o = xs[i]?) : ∃ y, o = some y := ⟨xs[i], by rw [e]; exact List.getElem?_eq_getElem (by omega)⟩
end

section
variable {H : Type} {enc : TypeId × Value → H} {w : World} {base : Nat} {spare : Nat → Bool} {held : Bool}
theorem open_term : ∀ (n : Nat) (cs : List Value) (x : DataW H × List MemPlace), DataW.trod enc Try.prog w base spare held n 47 cs = some x → ∃ v, k47.K w v cs := by
  intro n
  induction n using Nat.strongRecOn with
  | _ n ih =>
    intro cs x h
    obtain ⟨xs, m, rfl, _, hlen, hxs, hf⟩ := DataW.trod_struct Try.underlying47 h
    have hlen4 : cs.length = 4 := hlen.trans (by kernel_rfl)
    obtain ⟨a, b, c, d, rfl⟩ := len_four hlen4
    have s0 : Try.prog.cellsOf 3 = 1 := by kernel_rfl
    have s1 : Try.prog.cellsOf 9 = 1 := by kernel_rfl
    have s2 : Try.prog.cellsOf 2 = 1 := by kernel_rfl
    have s3 : Try.prog.cellsOf 24 = 1 := by kernel_rfl
    obtain ⟨y0, h0⟩ := some_at hxs (by decide) (o := DataW.trod enc Try.prog w base spare held m 3 (([a, b, c, d].drop 0).take (Try.prog.cellsOf 3))) (hf 0 _ rfl)
    rw [s0] at h0
    obtain ⟨y1, h1⟩ := some_at hxs (by decide) (o := DataW.trod enc Try.prog w base spare held m 9 (([a, b, c, d].drop 1).take (Try.prog.cellsOf 9))) (hf 1 _ rfl)
    rw [s1] at h1
    obtain ⟨y2, h2⟩ := some_at hxs (by decide) (o := DataW.trod enc Try.prog w base spare held m 2 (([a, b, c, d].drop 2).take (Try.prog.cellsOf 2))) (hf 2 _ rfl)
    rw [s2] at h2
    obtain ⟨y3, h3⟩ := some_at hxs (by decide) (o := DataW.trod enc Try.prog w base spare held m 24 (([a, b, c, d].drop 3).take (Try.prog.cellsOf 24))) (hf 3 _ rfl)
    rw [s3] at h3
    simp only [List.drop_zero, List.drop_succ_cons, List.take_succ_cons, List.take_zero] at h0 h1 h2 h3
    obtain ⟨n0, e0, _, _⟩ := DataW.trod_int Try.underlying3 h0
    obtain ⟨n1, e1, _, _⟩ := DataW.trod_string Try.underlying9 h1
    obtain ⟨n2, e2, _, _⟩ := DataW.trod_int Try.underlying2 h2
    obtain ⟨A, k, l, e3, hl, hC⟩ := open_row z47 k47 Try.underlying24 (by kernel_rfl) h3 (fun m' hm cs' x' h' => ih m' (by omega) cs' x' h')
    injection e0 with e0; injection e1 with e1; injection e2 with e2; injection e3 with e3
    subst e0; subst e1; subst e2; subst e3
    exact ⟨⟨n0, n1, n2, l⟩, k47_mk w ⟨n0, n1, n2, l⟩ hl hC⟩
theorem open_terms {n : Nat} {cs : List Value} {x : DataW H × List MemPlace} (h : DataW.trod enc Try.prog w base spare held n 24 cs = some x) : ∃ A c xs, cs = [.slice A xs.length c] ∧ xs.length ≤ c ∧ k47.C w A xs.length xs :=
  open_row z47 k47 Try.underlying24 (by kernel_rfl) h (fun m' _ cs' x' h' => open_term m' cs' x' h')
theorem open_row_int {n : Nat} {cs : List Value} {x : DataW H × List MemPlace} (h : DataW.trod enc Try.prog w base spare held n 23 cs = some x) : ∃ A c xs, cs = [.slice A xs.length c] ∧ xs.length ≤ c ∧ (Kd.int .i64).C w A xs.length xs :=
  open_row (0 : Int) (Kd.int .i64) Try.underlying23 (by kernel_rfl) h (fun m' _ cs' x' h' => open_int_any Try.underlying3 h')
theorem open_event {n : Nat} {cs : List Value} {x : DataW H × List MemPlace} (h : DataW.trod enc Try.prog w base spare held n 27 cs = some x) : ∃ v, k27.K w v cs := by
  obtain ⟨xs, m, rfl, _, hlen, hxs, hf⟩ := DataW.trod_struct Try.underlying27 h
  have hlen4 : cs.length = 3 := hlen.trans (by kernel_rfl)
  obtain ⟨a, b, c, rfl⟩ := len_three hlen4
  have s0 : Try.prog.cellsOf 3 = 1 := by kernel_rfl
  have s1 : Try.prog.cellsOf 24 = 1 := by kernel_rfl
  have s2 : Try.prog.cellsOf 25 = 1 := by kernel_rfl
  obtain ⟨y0, h0⟩ := some_at hxs (by decide) (o := DataW.trod enc Try.prog w base spare held m 3 (([a, b, c].drop 0).take (Try.prog.cellsOf 3))) (hf 0 _ rfl)
  rw [s0] at h0
  obtain ⟨y1, h1⟩ := some_at hxs (by decide) (o := DataW.trod enc Try.prog w base spare held m 24 (([a, b, c].drop 1).take (Try.prog.cellsOf 24))) (hf 1 _ rfl)
  rw [s1] at h1
  obtain ⟨y2, h2⟩ := some_at hxs (by decide) (o := DataW.trod enc Try.prog w base spare held m 25 (([a, b, c].drop 2).take (Try.prog.cellsOf 25))) (hf 2 _ rfl)
  rw [s2] at h2
  simp only [List.drop_zero, List.drop_succ_cons, List.take_succ_cons, List.take_zero] at h0 h1 h2
  obtain ⟨n0, e0, _, _⟩ := DataW.trod_int Try.underlying3 h0
  obtain ⟨A, k, l, e1, hl, hC⟩ := open_terms h1
  obtain ⟨n2, e2, _, _⟩ := DataW.trod_int Try.underlying25 h2
  injection e0 with e0; injection e1 with e1; injection e2 with e2
  subst e0; subst e1; subst e2
  exact ⟨⟨n0, l, n2⟩, k27_mk w ⟨n0, l, n2⟩ hl hC⟩
theorem open_entry {n : Nat} {cs : List Value} {x : DataW H × List MemPlace} (h : DataW.trod enc Try.prog w base spare held n 29 cs = some x) : ∃ v, k29.K w v cs := by
  obtain ⟨xs, m, rfl, _, hlen, hxs, hf⟩ := DataW.trod_struct Try.underlying29 h
  have hlen4 : cs.length = 4 := hlen.trans (by kernel_rfl)
  obtain ⟨a, b, c, d, rfl⟩ := len_four hlen4
  have s0 : Try.prog.cellsOf 23 = 1 := by kernel_rfl
  have s1 : Try.prog.cellsOf 27 = 3 := by kernel_rfl
  obtain ⟨y0, h0⟩ := some_at hxs (by decide) (o := DataW.trod enc Try.prog w base spare held m 23 (([a, b, c, d].drop 0).take (Try.prog.cellsOf 23))) (hf 0 _ rfl)
  rw [s0] at h0
  obtain ⟨y1, h1⟩ := some_at hxs (by decide) (o := DataW.trod enc Try.prog w base spare held m 27 (([a, b, c, d].drop 1).take (Try.prog.cellsOf 27))) (hf 1 _ rfl)
  rw [s1] at h1
  simp only [List.drop_zero, List.drop_succ_cons, List.take_succ_cons, List.take_zero] at h0 h1
  obtain ⟨A0, c0, l0, e0, hl0, hC0⟩ := open_row_int h0
  obtain ⟨v, hv⟩ := open_event h1
  obtain ⟨A2, c2, e1, hl2, hC2⟩ := k27_open hv
  injection e0 with e0
  injection e1 with e1 e2; injection e2 with e2 e3; injection e3 with e3
  subst e0; subst e1; subst e2; subst e3
  exact ⟨⟨l0, v⟩, k29_mk w ⟨l0, v⟩ hl0 hC0 hl2 hC2⟩
theorem open_entries {n : Nat} {cs : List Value} {x : DataW H × List MemPlace} (h : DataW.trod enc Try.prog w base spare held n 22 cs = some x) : ∃ A c xs, cs = [.slice A xs.length c] ∧ xs.length ≤ c ∧ k29.C w A xs.length xs :=
  open_row z29 k29 Try.underlying22 (by kernel_rfl) h (fun m' _ cs' x' h' => open_entry h')
theorem open_rows_int {n : Nat} {cs : List Value} {x : DataW H × List MemPlace} (h : DataW.trod enc Try.prog w base spare held n 39 cs = some x) : ∃ A c xs, cs = [.slice A xs.length c] ∧ xs.length ≤ c ∧ (Kd.slice 3 (Kd.int .i64)).C w A xs.length xs :=
  open_row ([] : List Int) (Kd.slice 3 (Kd.int .i64)) Try.underlying39 (by kernel_rfl) h (fun m' _ cs' x' h' => by
    obtain ⟨A, c, xs, e, hl, hC⟩ := open_row_int h'
    exact ⟨xs, A, c, e, hl, hC⟩)
end
end Go.Proofs.Ytlapiebnmbbemaa.A
end
section
/- The statement of LogDrops holds: whatever comes in, the law returns true and what came in reads as it did. -/
namespace Go.Proofs.Ytlapiebnmbbemaa.logDrops
open Go.ChangeShapes Go.WideShapes Go.ChangeAt Go.RowKit Go.Proofs.YtlapiebnmbbemaaW.PrintWords Go.Proofs.YtlapiebnmbbemaaW.PrintLast Go.Proofs.YtlapiebnmbbemaaW.PrintMore Go.Proofs.Ytlapiebnmbbemaa.A
open Go.ChangeMaps (open_string shut_string)
set_option linter.unusedVariables false
theorem own : ownKnob Try.prog.godebug = none := by kernel_rfl
theorem laidOut : laidOutB Try.prog = true := by kernel_rfl
set_option maxRecDepth 100000 in
theorem lifted (os : Os) (started : os.Started) (H : Type) (enc : TypeId × Value → H) :
    ReturnsInHanded {} Try.checked os 4 .any (Rows.logDropsSpec.pre6 enc Try.prog Try.f4 Rows.logDropsRow.domain false) (Rows.logDropsSpec.post enc Try.prog Try.f4 false true false false) := by
  refine returnsInHanded_of_change_sized (C := Try.checked) own started (by kernel_rfl) Try.func4
    (ChangeSpec.witness6 (enc := enc) (C := Try.checked) false ⟨#[], #[.slice none 0 0, .slice none 0 0, .int .i64 0, .slice none 0 0], []⟩ 8 (by kernel_rfl) (by kernel_rfl) (by kernel_rfl) (by kernel_rfl)) ?_
  intro W base args ds gs before hval0 hW hcnd hsz0 _
  have hsz : (DataW.weightsEach Try.prog (Try.f4.params.toList ++ Rows.logDropsSpec.plain.varTypes Try.prog) (ds ++ gs)).all (· ≤ reachBytes) = true := hsz0
  have hval : ∀ (j : Nat) t v, Try.f4.params[j]? = some t → args[j]? = some v → Value.okWide Try.prog W .any base t v := hval0
  have hW' := hW
  obtain ⟨p, q, hA0, hV, rfl, hfz, hnd⟩ := hW
  have hA : DataW.TrodAll enc Try.prog W 0 (fun _ => true) true Try.f4.params.toList args.toList ds p := hA0
  rw [Try.params4] at hA hval hsz
  obtain ⟨v0, vs0, d0, ds0, p0, q0, hargs, rfl, rfl, h0, r0⟩ := trodAll_cons hA
  obtain ⟨v1, vs1, d1, ds1, p1, q1, rfl, rfl, rfl, h1, r1⟩ := trodAll_cons r0
  obtain ⟨v2, vs2, d2, ds2, p2, q2, rfl, rfl, rfl, h2, r2⟩ := trodAll_cons r1
  obtain ⟨v3, vs3, d3, ds3, p3, q3, rfl, rfl, rfl, h3, r3⟩ := trodAll_cons r2
  obtain ⟨rfl, rfl, rfl⟩ := trodAll_nil r3
  obtain rfl : args = #[v0, v1, v2, v3] := by cases args; simp_all
  obtain ⟨rfl, rfl⟩ := trodVars_none hV
  obtain ⟨b0, len0, cap0, rfl⟩ := okWide_slice Try.underlying22 (hval 0 22 v0 rfl rfl)
  have k0 := h0
  have lt0 : ∀ x ∈ p0, x.block < W.heap.size := by obtain ⟨m, hm⟩ := k0; exact DataW.trod_lt m _ _ _ hm
  obtain ⟨fu0, hf0⟩ := h0
  obtain ⟨A0, c0, l0, e0, hl0, hC0⟩ := open_entries hf0
  obtain ⟨rfl, rfl, rfl⟩ : b0 = A0 ∧ len0 = l0.length ∧ cap0 = c0 := by simpa [Value.cells] using e0
  obtain ⟨b1, len1, cap1, rfl⟩ := okWide_slice Try.underlying23 (hval 1 23 v1 rfl rfl)
  have k1 := h1
  have lt1 : ∀ x ∈ p1, x.block < W.heap.size := by obtain ⟨m, hm⟩ := k1; exact DataW.trod_lt m _ _ _ hm
  obtain ⟨fu1, hf1⟩ := h1
  obtain ⟨A1, c1, l1, e1, hl1, hC1⟩ := open_row_int hf1
  obtain ⟨rfl, rfl, rfl⟩ : b1 = A1 ∧ len1 = l1.length ∧ cap1 = c1 := by simpa [Value.cells] using e1
  obtain ⟨a2, rfl, rfl, rfl, w2⟩ := open_int Try.underlying3 (hval 2 3 v2 rfl rfl) h2
  obtain ⟨b3, len3, cap3, rfl⟩ := okWide_slice Try.underlying39 (hval 3 39 v3 rfl rfl)
  have k3 := h3
  have lt3 : ∀ x ∈ p3, x.block < W.heap.size := by obtain ⟨m, hm⟩ := k3; exact DataW.trod_lt m _ _ _ hm
  obtain ⟨fu3, hf3⟩ := h3
  obtain ⟨A3, c3, l3, e3, hl3, hC3⟩ := open_rows_int hf3
  obtain ⟨rfl, rfl, rfl⟩ : b3 = A3 ∧ len3 = l3.length ∧ cap3 = c3 := by simpa [Value.cells] using e3
  clear hA0 hval0 hsz0 hsz e0 e1 e3
  obtain ⟨k, hk⟩ := LogDrops l0 l1 a2 l3
  refine (spinneylaw20_LogDrops.calls k (fun k_ => k_ < W.heap.size) b0 cap0 l0 b1 cap1 l1 a2 b3 cap3 l3 true W (Kd.V_mk hl0 (Kd.C_F k29_heap hC0)) hC1 hl1 hC3 hl3 hk).mono fun e W' ⟨he, bel⟩ => ?_
  subst he
  exact ⟨_, rfl, _, _, _, [], _, [], hW', trodAll_mk1 (shut_bool Try.underlying4 _), (trodAll_cons_mk (Below.trod laidOut (by kernel_rfl) (of_decide_eq_true (by kernel_rfl)) k0 bel lt0) (trodAll_cons_mk (Below.trod laidOut (by kernel_rfl) (of_decide_eq_true (by kernel_rfl)) k1 bel lt1) (trodAll_cons_mk (shut_int Try.underlying3 w2) (trodAll_cons_mk (Below.trod laidOut (by kernel_rfl) (of_decide_eq_true (by kernel_rfl)) k3 bel lt3) trodAll_mk0)))), rfl, bel.frame _, fun h => by cases h⟩
theorem over : Rows.logDropsRow.holds Try.pinned (OpenSpec.ofChange Rows.logDropsSpec) :=
  OpenClaim.holds_of_wide 4 Try.f4 rfl rfl rfl rfl rfl rfl rfl ⟨rfl, rfl, rfl, rfl, rfl⟩ rfl rfl rfl rfl rfl (by kernel_rfl) Try.func4 (by kernel_rfl)
    (of_decide_eq_true (by kernel_rfl)) (by unfold Func.isWrapper; first | (rw [if_pos (by decide +kernel)]; kernel_rfl) | (rw [if_neg (by decide +kernel)]; exact ⟨rfl, rfl⟩))
    (fun os started H enc _ => lifted os started H enc)
theorem proved : Rows.LogDropsSaid := over
#print axioms proved
end Go.Proofs.Ytlapiebnmbbemaa.logDrops
namespace Go.Proofs.Ytlapiebnmbbemaa
/-- The row, under a short name, for the claim. -/
theorem logDrops_holds : Rows.LogDropsSaid := logDrops.proved
end Go.Proofs.Ytlapiebnmbbemaa
end
