/- The contract of slices.Clone at api.Entry, in the print's words. -/
import Derived.Test.YtlapiebnmbbemaaAKinds
import Derived.Outline
import Derived.Deep.DeepMust
import Derived.WalkSpells
namespace Go.Proofs.Ytlapiebnmbbemaa.A
open Go.RowKit Go.Lib Go.Proofs.YtlapiebnmbbemaaW.PrintWords Go.Proofs.YtlapiebnmbbemaaW.PrintLast Go.Proofs.YtlapiebnmbbemaaW.PrintMore

theorem nil_of_reads {α : Type} {d : Kd α} {W : World} {n : Nat} {xs : List α} (h : d.C W none n xs) : xs = [] := by
  rcases Nat.eq_zero_or_pos n with h0 | h0
  · exact List.eq_nil_of_length_eq_zero (h.1.trans h0)
  · obtain ⟨ad, h2, _⟩ := h.2.2 h0
    cases h2

set_option maxHeartbeats 1000000 in
set_option maxRecDepth 100000 in
theorem clone_entry (P0 : Nat → Prop) (A : Option Addr) (c : Nat) (l : List S29) (w : World)
    (hs : Kd.V k29 29 w w.heap.size P0 (.slice A l.length c) l) (hl : l.length ≤ 1000000000) :
    Calls Try.prog 31 #[.slice A l.length c] w fun e w' => ∃ v, e = .returned v ∧
      Kd.N k29 29 w' w.heap.size (fun k => P0 k ∨ w.heap.size ≤ k) v l ∧ Below w.heap.size w w' := by
  have HS := Aside0.mk hs
  clear hs
  have hnil : ∀ (W : World) (a : Option Addr) (n c : Nat), (binOp .eql 22 (.slice a n c) (.slice none 0 0)).run Try.prog W = .ok (.bool a.isNone) W := fun W a n c => Lib.run_eql_slice_nil W 22 29 a n c _ _ Try.underlying22
  have HB := Aside0.mk (Below.refl w.heap.size w)
  cases A with
  | none =>
    obtain rfl : l = [] := nil_of_reads (Kd.V_reads' HS.out).2.2
    go_enter Try.func31, Try.ntmps31
    go_wp2
    go_ret
    exact ⟨_, rfl, Kd.N_nil _ _ _ _ _, Below.refl _ _⟩
  | some ad =>
    go_enter Try.func31, Try.ntmps31
    go_wp2_with (first
      | ((with_reducible refine gate_dst (N := 5) rfl ?_); refine Kd.N_lit k29 _ 29 ?hg (N' := 5) ?hd (xs := ([] : List S29)) (inner := []) (ok := fun k => P0 k ∨ w.heap.size ≤ k) (okp := fun _ => False) ?hr (Reps.none _ _) (fun _ hk => hk.elim) (.inr (Nat.le_refl _)) (Below.refl _ _) (Nat.le_refl _) (by simp) ?_; (case hd => rfl); (case hg => rfl); (case hr => first | (go_simp; done) | (go_simp; rfl)); intro v1 w1 HO hb hg hat; have HO1 := Aside0.mk HO; have HB1 := Aside0.mk hb; have HT1 := Aside0.mk hat; clear HO hb hg hat)
      | (at_builtin; refine Kd.N_append_rows k29 (w0 := w) w.heap.size rfl (.tmp 5) (.tmp 6) 22 29 (.agg #[(.slice none 0 0), (.int .i64 0), (.slice none 0 0), (.int .i64 0)]) 64 rfl Try.underlying22 info29 rfl (by decide) (by omega) v1 [] l (some ad) l.length c (fun k => P0 k ∨ w.heap.size ≤ k) (fun k => P0 k ∧ k < w.heap.size) rfl rfl ?aO ?aR ?aK ?aF ?aB ?aS ?aL ?_; (case aO => exact HO1.out); (case aR => exact Kd.V_F (Kd.V_old HS.out HB1.out)); (case aK => rintro k ⟨h1, h2⟩; obtain ⟨b, hb1, hb2⟩ := HT1.out; exact ⟨.inl h1, by rw [hb1]; intro e; injection e with e; omega⟩); (case aF => intro k hk; have := below_size HB1.out; exact .inr (by omega)); (case aB => exact HB1.out); (case aS => exact below_size HB1.out); (case aL => simp; omega); intro v2 w2 HO hb hg hat; have HO2 := Aside0.mk HO; have HB2 := Aside0.mk hb; clear HO hb hg hat))
    go_ret
    exact ⟨_, rfl, HO2.out, HB2.out⟩
end Go.Proofs.Ytlapiebnmbbemaa.A
