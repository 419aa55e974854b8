/- The statement of LogTwice holds: whatever log, entry, place and depth come in, the law returns true and what came in reads as it did. -/
import Derived.Test.YtlapiebnmbbemaaRows
import Derived.Test.YtlapiebnmbbemaaALogTwiceLaw
import Derived.Test.YtlapiebnmbbemaaAOpen
import Derived.WalkKit
import Derived.ProofKit
import Derived.OpenShut
import Derived.ShutString
import Derived.ChangeOld
import Derived.Below
import Derived.SizedLaws
namespace Go.Proofs.Ytlapiebnmbbemaa.logTwice
open Go.ChangeShapes Go.WideShapes Go.ChangeAt Go.RowKit Go.Proofs.YtlapiebnmbbemaaW.PrintWords Go.Proofs.YtlapiebnmbbemaaW.PrintLast Go.Proofs.YtlapiebnmbbemaaW.PrintMore Go.Proofs.Ytlapiebnmbbemaa.A
open Go.ChangeMaps (open_string shut_string)
set_option linter.unusedVariables false
theorem own : ownKnob Try.prog.godebug = none := by kernel_rfl
theorem laidOut : laidOutB Try.prog = true := by kernel_rfl
set_option maxRecDepth 100000 in
theorem lifted (os : Os) (started : os.Started) (H : Type) (enc : TypeId × Value → H) :
    ReturnsInHanded {} Try.checked os 3 .any (Rows.logTwiceSpec.pre6 enc Try.prog Try.f3 Rows.logTwiceRow.domain false) (Rows.logTwiceSpec.post enc Try.prog Try.f3 false true false false) := by
  refine returnsInHanded_of_change_sized (C := Try.checked) own started (by kernel_rfl) Try.func3
    (ChangeSpec.witness6 (enc := enc) (C := Try.checked) false ⟨#[], #[.slice none 0 0, .agg #[.slice none 0 0, .int .i64 0, .slice none 0 0, .int .i64 0], .slice none 0 0, .int .i64 0], []⟩ 8 (by kernel_rfl) (by kernel_rfl) (by kernel_rfl) (by kernel_rfl)) ?_
  intro W base args ds gs before hval0 hW hcnd hsz0 _
  have hval : ∀ (j : Nat) t v, Try.f3.params[j]? = some t → args[j]? = some v → Value.okWide Try.prog W .any base t v := hval0
  have hW' := hW
  obtain ⟨p, q, hA0, hV, rfl, hfz, hnd⟩ := hW
  have hA : DataW.TrodAll enc Try.prog W 0 (fun _ => true) true Try.f3.params.toList args.toList ds p := hA0
  rw [Try.params3] at hA hval
  obtain ⟨v0, vs0, d0, ds0, p0, q0, hargs, rfl, rfl, h0, r0⟩ := trodAll_cons hA
  obtain ⟨v1, vs1, d1, ds1, p1, q1, rfl, rfl, rfl, h1, r1⟩ := trodAll_cons r0
  obtain ⟨v2, vs2, d2, ds2, p2, q2, rfl, rfl, rfl, h2, r2⟩ := trodAll_cons r1
  obtain ⟨v3, vs3, d3, ds3, p3, q3, rfl, rfl, rfl, h3, r3⟩ := trodAll_cons r2
  obtain ⟨rfl, rfl, rfl⟩ := trodAll_nil r3
  obtain rfl : args = #[v0, v1, v2, v3] := by cases args; simp_all
  obtain ⟨rfl, rfl⟩ := trodVars_none hV
  obtain ⟨a0, len0, cap0, rfl⟩ := okWide_slice Try.underlying22 (hval 0 22 v0 rfl rfl)
  obtain ⟨cs1, rfl, _⟩ := okWide_struct Try.underlying29 (hval 1 29 v1 rfl rfl)
  obtain ⟨a2, len2, cap2, rfl⟩ := okWide_slice Try.underlying23 (hval 2 23 v2 rfl rfl)
  have k0 := h0
  have lt0 : ∀ x ∈ p0, x.block < W.heap.size := by obtain ⟨m, hm⟩ := k0; exact DataW.trod_lt m _ _ _ hm
  have k1 := h1
  have lt1 : ∀ x ∈ p1, x.block < W.heap.size := by obtain ⟨m, hm⟩ := k1; exact DataW.trod_lt m _ _ _ hm
  have k2 := h2
  have lt2 : ∀ x ∈ p2, x.block < W.heap.size := by obtain ⟨m, hm⟩ := k2; exact DataW.trod_lt m _ _ _ hm
  obtain ⟨a3, rfl, rfl, rfl, w3⟩ := open_int Try.underlying3 (hval 3 3 v3 rfl rfl) h3
  obtain ⟨f0, hf0⟩ := h0
  obtain ⟨A0, c0, l0, e0, hl0, hC0⟩ := open_entries hf0
  obtain ⟨rfl, rfl, rfl⟩ : a0 = A0 ∧ len0 = l0.length ∧ cap0 = c0 := by simpa [Value.cells] using e0
  obtain ⟨f1, hf1⟩ := h1
  obtain ⟨x1, hx1⟩ := open_entry hf1
  obtain ⟨A1, c1, A12, c12, e1, hl1, hC1, hl12, hC12⟩ := k29_open hx1
  obtain rfl : cs1 = #[.slice A1 x1.f0.length c1, .int .i64 x1.f1.f0, .slice A12 x1.f1.f1.length c12, .int .i64 x1.f1.f2] := by
    cases cs1
    simpa [Value.cells] using e1
  obtain ⟨f2, hf2⟩ := h2
  obtain ⟨A2, c2, l2, e2, hl2, hC2⟩ := open_row_int hf2
  obtain ⟨rfl, rfl, rfl⟩ : a2 = A2 ∧ len2 = l2.length ∧ cap2 = c2 := by simpa [Value.cells] using e2
  clear hA0 hval0 hsz0 e0 e1 e2
  obtain ⟨k, hk⟩ := LogTwice l0 x1.f0 x1.f1.f0 x1.f1.f1 x1.f1.f2 l2 a3
  refine (spinneylaw20_LogTwice.calls k (fun k_ => k_ < W.heap.size) a0 cap0 l0 (fun k_ => k_ < W.heap.size) A1 c1 x1.f0 x1.f1.f0 (fun k_ => k_ < W.heap.size) A12 c12 x1.f1.f1 x1.f1.f2 (fun k_ => k_ < W.heap.size) a2 cap2 l2 a3 true W (Kd.V_mk hl0 (Kd.C_F k29_heap hC0)) (Kd.V_mk hl1 (Kd.C_F (Kd.heap_int .i64) hC1)) (Kd.V_mk hl12 (Kd.C_F k47_heap hC12)) (Kd.V_mk hl2 (Kd.C_F (Kd.heap_int .i64) hC2)) hk).mono fun e W' ⟨he, bel⟩ => ?_
  subst he
  exact ⟨_, rfl, _, _, _, [], _, [], hW', trodAll_mk1 (shut_bool Try.underlying4 _), (trodAll_cons_mk (Below.trod laidOut (by kernel_rfl) (of_decide_eq_true (by kernel_rfl)) k0 bel lt0) (trodAll_cons_mk (Below.trod laidOut (by kernel_rfl) (of_decide_eq_true (by kernel_rfl)) k1 bel lt1) (trodAll_cons_mk (Below.trod laidOut (by kernel_rfl) (of_decide_eq_true (by kernel_rfl)) k2 bel lt2) (trodAll_cons_mk (shut_int Try.underlying3 w3) trodAll_mk0)))), rfl, bel.frame _, fun h => by cases h⟩
theorem over : Rows.logTwiceRow.holds Try.pinned (OpenSpec.ofChange Rows.logTwiceSpec) :=
  OpenClaim.holds_of_wide 3 Try.f3 rfl rfl rfl rfl rfl rfl rfl ⟨rfl, rfl, rfl, rfl, rfl⟩ rfl rfl rfl rfl rfl (by kernel_rfl) Try.func3 (by kernel_rfl)
    (of_decide_eq_true (by kernel_rfl)) (by unfold Func.isWrapper; first | (rw [if_pos (by decide +kernel)]; kernel_rfl) | (rw [if_neg (by decide +kernel)]; exact ⟨rfl, rfl⟩))
    (fun os started H enc _ => lifted os started H enc)
theorem proved : Rows.LogTwiceSaid := over
#print axioms proved
end Go.Proofs.Ytlapiebnmbbemaa.logTwice
namespace Go.Proofs.Ytlapiebnmbbemaa
/-- The row, under a short name, for the claim. -/
theorem logTwice_holds : Rows.LogTwiceSaid := logTwice.proved
end Go.Proofs.Ytlapiebnmbbemaa
