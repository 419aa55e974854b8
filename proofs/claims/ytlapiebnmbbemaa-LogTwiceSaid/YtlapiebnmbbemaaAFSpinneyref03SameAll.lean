-- Written by my drive.py over the kit's print program. Not trusted: Lean checks it.
import Derived.Test.YtlapiebnmbbemaaAKinds
import Derived.Test.YtlapiebnmbbemaaASame
namespace Go.Proofs.Ytlapiebnmbbemaa.A
open Go.RowKit Go.Proofs.YtlapiebnmbbemaaW.PrintWords Go.Proofs.YtlapiebnmbbemaaW.PrintLast Go.Proofs.YtlapiebnmbbemaaW.PrintMore
attribute [local go_sem] max2_int min2_int max_two min_two max_three min_three max_four min_four   -- for this text's walks alone
set_option linter.unusedVariables false
set_option linter.unusedSimpArgs false

/-! ### spinneyref03_SameAll: function 58 -/
def spinneyref03_SameAll.f (l0 : List (S47)) (l1 : List (S47)) : Option (Bool) := (spinneyref03_SameW.f 0 (⟨#[]⟩ : ByteArray) 0 l0 0 (⟨#[]⟩ : ByteArray) 0 l1).bind fun t113 => (some t113)
set_option maxHeartbeats 8000000 in
set_option maxRecDepth 100000 in
theorem spinneyref03_SameAll.calls (A0 : Option Addr) (c0 : Nat) (l0 : List (S47)) (A1 : Option Addr) (c1 : Nat) (l1 : List (S47)) (r : Bool) (w : World) (hr0 : Kd.C k47 w A0 l0.length l0) (hc0 : l0.length ≤ c0) (hr1 : Kd.C k47 w A1 l1.length l1) (hc1 : l1.length ≤ c1) (h : spinneyref03_SameAll.f l0 l1 = some r) :
    Calls Try.prog 58 #[.slice A0 l0.length c0, .slice A1 l1.length c1] w fun e w' => e = .returned (.bool r) ∧ Below w.heap.size w w' := by
  have hu47 := Try.underlying47
  have HR0 := Aside0.mk hr0
  have HC0 := Aside0.mk hc0
  clear hr0 hc0
  have HR1 := Aside0.mk hr1
  have HC1 := Aside0.mk hc1
  clear hr1 hc1
  have HB := Aside0.mk (Below.refl w.heap.size w)
  have H : ((spinneyref03_SameW.f 0 (⟨#[]⟩ : ByteArray) 0 l0 0 (⟨#[]⟩ : ByteArray) 0 l1).bind fun t113 => (some t113)) = some r := h
  clear h
  replace H := Option.bind_eq_some_iff.mp H
  obtain ⟨t113, A30, H⟩ := H
  replace H : (some t113) = some r := H
  have A3 := Aside0.mk A30
  clear A30
  obtain rfl := Option.some.inj H
  go_enter Try.func58, Try.ntmps58
  go_wp2_with (first | ((with_reducible refine gate_callee (f := 68) rfl ?_); refine goesL_ (some 9) rfl rfl Try.func68 (by kernel_rfl) rfl #[.agg #[.int .i64 0, .string (⟨#[]⟩ : ByteArray), .int .i64 0, .slice A0 l0.length c0], .agg #[.int .i64 0, .string (⟨#[]⟩ : ByteArray), .int .i64 0, .slice A1 l1.length c1]] rfl (by (try simp only [List.map_toArray, List.map_cons, List.map_nil]); first | done | rfl | (simp only [List.length_drop, List.length_take]; rfl)) ?_; (with_reducible refine (spinneyref03_SameW.calls 0 (⟨#[]⟩ : ByteArray) 0 _ _ l0 0 (⟨#[]⟩ : ByteArray) 0 _ _ l1 t113 _ ?side1 ?side2 ?side3 ?side4 A3.out).mono ?_); (case side1 => repeat (first | exact HR0.out | (with_reducible refine Kd.C_alloc ?_ _) | (with_reducible refine Kd.C_drewN ?_ _) | (with_reducible refine Kd.C_drew ?_))); (case side2 => exact HC0.out); (case side3 => repeat (first | exact HR1.out | (with_reducible refine Kd.C_alloc ?_ _) | (with_reducible refine Kd.C_drewN ?_ _) | (with_reducible refine Kd.C_drew ?_))); (case side4 => exact HC1.out); rintro e w4 ⟨rfl, hb⟩; refine ⟨_, rfl, ?_⟩; have n0_ := Aside0.mk (below_step (by repeat (first | (with_reducible first | exact HB.out | apply below_alloc | apply pw_below_drewN | apply below_drew1) | exact HB.out)) hb); clear HB; have HB := n0_; clear n0_; (try clear hb); (try clear hb2); (try clear hk); (try clear hi)))
  go_ret
  exact ⟨by first | rfl | (simp [errW_none, errW_some] <;> rfl) | (simp [*, errW_none, errW_some] <;> rfl), by repeat (first | (with_reducible first | exact HB.out | apply below_alloc | apply pw_below_drewN | apply below_drew1) | exact HB.out)⟩

end Go.Proofs.Ytlapiebnmbbemaa.A
