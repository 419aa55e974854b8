/- Arguments that read as data, read by the print's kinds: rows, terms, entries. -/
import Derived.Test.YtlapiebnmbbemaaAKinds
import Derived.ChangeArms
import Derived.ChangeSlices
namespace Go.Proofs.Ytlapiebnmbbemaa.A
open Go.RowKit Go.ChangeShapes Go.WideShapes Go.Proofs.YtlapiebnmbbemaaW.PrintWords Go.Proofs.YtlapiebnmbbemaaW.PrintLast Go.Proofs.YtlapiebnmbbemaaW.PrintMore
set_option linter.unusedVariables false

section
variable {H : Type} {enc : TypeId × Value → H} {P : Program} {w : World} {base : Nat} {spare : Nat → Bool} {held : Bool}
theorem pick_lt {α : Type} (z : α) {n : Nat} {p : Nat → α → Prop} (h : ∀ i, i < n → ∃ x, p i x) : ∃ f : Nat → α, ∀ i, i < n → p i (f i) := by
  classical
  refine ⟨fun i => if hi : i < n then Classical.choose (h i hi) else z, fun i hi => ?_⟩
  simp only [dif_pos hi]
  exact Classical.choose_spec (h i hi)
theorem add_add_ (a : Addr) (i j : Nat) : (a.add i).add j = a.add (i + j) := by
  unfold Addr.add
  by_cases hi : i = 0 <;> by_cases hj : j = 0 <;> simp [hi, hj, Nat.add_assoc]
/-- A slice that reads as data is a row of its elements' kind. -/
theorem open_row {α : Type} (z : α) (d : Kd α) {t e : TypeId} (ht : P.underlying t = some (.slice e)) (hsz : P.cellsOf e = d.sz) {fuel : Nat} {cs : List Value} {x : DataW H × List MemPlace}
    (h : DataW.trod enc P w base spare held fuel t cs = some x) (hel : ∀ m, m < fuel → ∀ cs' x', DataW.trod enc P w base spare held m e cs' = some x' → ∃ v, d.K w v cs') :
    ∃ A c xs, cs = [.slice A xs.length c] ∧ xs.length ≤ c ∧ d.C w A xs.length xs := by
  rcases DataW.trod_slice ht h with ⟨rfl, _⟩ | ⟨a, len, cap, elems, rest, n, rfl, rfl, _, hb, hl, hm, hlen, hi, _, _⟩
  · exact ⟨none, 0, [], rfl, Nat.le_refl _, rfl, by simp, fun h => absurd h (by simp)⟩
  · have hp : ∀ i, i < len → ∃ v, ∃ c, c.length = d.sz ∧ d.K w v c ∧ ∀ j u, c[j]? = some u → w.cell? (a.add (i * d.sz + j)) = some u := by
      intro i hil
      have h1 := hi i hil
      rw [List.getElem?_eq_getElem (by omega), Option.bind_eq_some_iff] at h1
      obtain ⟨c, hc, hx⟩ := h1
      obtain ⟨v, hv⟩ := hel n (by omega) c _ hx
      rw [hsz] at hc
      obtain ⟨_, h2, h3⟩ := World.cells?_some hc
      refine ⟨v, c, h2, hv, fun j u hu => ?_⟩
      have hj : j < d.sz := by have := (List.getElem?_eq_some_iff.1 hu).1; omega
      have h4 := h3 j hj
      rw [hu] at h4
      rw [← h4]
      congr 1
      exact (add_add_ a _ _).symm
    obtain ⟨f, hf⟩ := pick_lt z hp
    have hl2 : ((List.range len).map f).length = len := by simp
    refine ⟨some a, cap, (List.range len).map f, by rw [hl2], by rw [hl2]; exact hl, rfl, by rw [hl2]; unfold maxLen at hm; omega, fun _ => ⟨a, rfl, fun j p hj => ?_⟩⟩
    have hjl : j < len := by have := (List.getElem?_eq_some_iff.1 hj).1; omega
    rw [List.getElem?_map, List.getElem?_range hjl] at hj
    injection hj with hj
    subst hj
    exact hf j hjl
theorem open_int_any {t : TypeId} {k : IntKind} (ht : P.underlying t = some (.int k)) {fuel : Nat} {cs : List Value} {x : DataW H × List MemPlace} (h : DataW.trod enc P w base spare held fuel t cs = some x) : ∃ v, (Kd.int k).K w v cs := by
  obtain ⟨n, rfl, _, _⟩ := DataW.trod_int ht h
  exact ⟨n, rfl⟩
theorem len_four {cs : List Value} (h : cs.length = 4) : ∃ a b c d, cs = [a, b, c, d] := by
  match cs, h with
  | [a, b, c, d], _ => exact ⟨a, b, c, d, rfl⟩
theorem len_three {cs : List Value} (h : cs.length = 3) : ∃ a b c, cs = [a, b, c] := by
  match cs, h with
  | [a, b, c], _ => exact ⟨a, b, c, rfl⟩
theorem some_at {α : Type} {xs : List α} {n i : Nat} (h : xs.length = n) (hi : i < n) {o : Option α} (e : o = xs[i]?) : ∃ y, o = some y := ⟨xs[i], by rw [e]; exact List.getElem?_eq_getElem (by omega)⟩
end

section
variable {H : Type} {enc : TypeId × Value → H} {w : World} {base : Nat} {spare : Nat → Bool} {held : Bool}
theorem open_term : ∀ (n : Nat) (cs : List Value) (x : DataW H × List MemPlace), DataW.trod enc Try.prog w base spare held n 47 cs = some x → ∃ v, k47.K w v cs := by
  intro n
  induction n using Nat.strongRecOn with
  | _ n ih =>
    intro cs x h
    obtain ⟨xs, m, rfl, _, hlen, hxs, hf⟩ := DataW.trod_struct Try.underlying47 h
    have hlen4 : cs.length = 4 := hlen.trans (by kernel_rfl)
    obtain ⟨a, b, c, d, rfl⟩ := len_four hlen4
    have s0 : Try.prog.cellsOf 3 = 1 := by kernel_rfl
    have s1 : Try.prog.cellsOf 9 = 1 := by kernel_rfl
    have s2 : Try.prog.cellsOf 2 = 1 := by kernel_rfl
    have s3 : Try.prog.cellsOf 24 = 1 := by kernel_rfl
    obtain ⟨y0, h0⟩ := some_at hxs (by decide) (o := DataW.trod enc Try.prog w base spare held m 3 (([a, b, c, d].drop 0).take (Try.prog.cellsOf 3))) (hf 0 _ rfl)
    rw [s0] at h0
    obtain ⟨y1, h1⟩ := some_at hxs (by decide) (o := DataW.trod enc Try.prog w base spare held m 9 (([a, b, c, d].drop 1).take (Try.prog.cellsOf 9))) (hf 1 _ rfl)
    rw [s1] at h1
    obtain ⟨y2, h2⟩ := some_at hxs (by decide) (o := DataW.trod enc Try.prog w base spare held m 2 (([a, b, c, d].drop 2).take (Try.prog.cellsOf 2))) (hf 2 _ rfl)
    rw [s2] at h2
    obtain ⟨y3, h3⟩ := some_at hxs (by decide) (o := DataW.trod enc Try.prog w base spare held m 24 (([a, b, c, d].drop 3).take (Try.prog.cellsOf 24))) (hf 3 _ rfl)
    rw [s3] at h3
    simp only [List.drop_zero, List.drop_succ_cons, List.take_succ_cons, List.take_zero] at h0 h1 h2 h3
    obtain ⟨n0, e0, _, _⟩ := DataW.trod_int Try.underlying3 h0
    obtain ⟨n1, e1, _, _⟩ := DataW.trod_string Try.underlying9 h1
    obtain ⟨n2, e2, _, _⟩ := DataW.trod_int Try.underlying2 h2
    obtain ⟨A, k, l, e3, hl, hC⟩ := open_row z47 k47 Try.underlying24 (by kernel_rfl) h3 (fun m' hm cs' x' h' => ih m' (by omega) cs' x' h')
    injection e0 with e0; injection e1 with e1; injection e2 with e2; injection e3 with e3
    subst e0; subst e1; subst e2; subst e3
    exact ⟨⟨n0, n1, n2, l⟩, k47_mk w ⟨n0, n1, n2, l⟩ hl hC⟩
theorem open_terms {n : Nat} {cs : List Value} {x : DataW H × List MemPlace} (h : DataW.trod enc Try.prog w base spare held n 24 cs = some x) : ∃ A c xs, cs = [.slice A xs.length c] ∧ xs.length ≤ c ∧ k47.C w A xs.length xs :=
  open_row z47 k47 Try.underlying24 (by kernel_rfl) h (fun m' _ cs' x' h' => open_term m' cs' x' h')
theorem open_row_int {n : Nat} {cs : List Value} {x : DataW H × List MemPlace} (h : DataW.trod enc Try.prog w base spare held n 23 cs = some x) : ∃ A c xs, cs = [.slice A xs.length c] ∧ xs.length ≤ c ∧ (Kd.int .i64).C w A xs.length xs :=
  open_row (0 : Int) (Kd.int .i64) Try.underlying23 (by kernel_rfl) h (fun m' _ cs' x' h' => open_int_any Try.underlying3 h')
theorem open_event {n : Nat} {cs : List Value} {x : DataW H × List MemPlace} (h : DataW.trod enc Try.prog w base spare held n 27 cs = some x) : ∃ v, k27.K w v cs := by
  obtain ⟨xs, m, rfl, _, hlen, hxs, hf⟩ := DataW.trod_struct Try.underlying27 h
  have hlen4 : cs.length = 3 := hlen.trans (by kernel_rfl)
  obtain ⟨a, b, c, rfl⟩ := len_three hlen4
  have s0 : Try.prog.cellsOf 3 = 1 := by kernel_rfl
  have s1 : Try.prog.cellsOf 24 = 1 := by kernel_rfl
  have s2 : Try.prog.cellsOf 25 = 1 := by kernel_rfl
  obtain ⟨y0, h0⟩ := some_at hxs (by decide) (o := DataW.trod enc Try.prog w base spare held m 3 (([a, b, c].drop 0).take (Try.prog.cellsOf 3))) (hf 0 _ rfl)
  rw [s0] at h0
  obtain ⟨y1, h1⟩ := some_at hxs (by decide) (o := DataW.trod enc Try.prog w base spare held m 24 (([a, b, c].drop 1).take (Try.prog.cellsOf 24))) (hf 1 _ rfl)
  rw [s1] at h1
  obtain ⟨y2, h2⟩ := some_at hxs (by decide) (o := DataW.trod enc Try.prog w base spare held m 25 (([a, b, c].drop 2).take (Try.prog.cellsOf 25))) (hf 2 _ rfl)
  rw [s2] at h2
  simp only [List.drop_zero, List.drop_succ_cons, List.take_succ_cons, List.take_zero] at h0 h1 h2
  obtain ⟨n0, e0, _, _⟩ := DataW.trod_int Try.underlying3 h0
  obtain ⟨A, k, l, e1, hl, hC⟩ := open_terms h1
  obtain ⟨n2, e2, _, _⟩ := DataW.trod_int Try.underlying25 h2
  injection e0 with e0; injection e1 with e1; injection e2 with e2
  subst e0; subst e1; subst e2
  exact ⟨⟨n0, l, n2⟩, k27_mk w ⟨n0, l, n2⟩ hl hC⟩
theorem open_entry {n : Nat} {cs : List Value} {x : DataW H × List MemPlace} (h : DataW.trod enc Try.prog w base spare held n 29 cs = some x) : ∃ v, k29.K w v cs := by
  obtain ⟨xs, m, rfl, _, hlen, hxs, hf⟩ := DataW.trod_struct Try.underlying29 h
  have hlen4 : cs.length = 4 := hlen.trans (by kernel_rfl)
  obtain ⟨a, b, c, d, rfl⟩ := len_four hlen4
  have s0 : Try.prog.cellsOf 23 = 1 := by kernel_rfl
  have s1 : Try.prog.cellsOf 27 = 3 := by kernel_rfl
  obtain ⟨y0, h0⟩ := some_at hxs (by decide) (o := DataW.trod enc Try.prog w base spare held m 23 (([a, b, c, d].drop 0).take (Try.prog.cellsOf 23))) (hf 0 _ rfl)
  rw [s0] at h0
  obtain ⟨y1, h1⟩ := some_at hxs (by decide) (o := DataW.trod enc Try.prog w base spare held m 27 (([a, b, c, d].drop 1).take (Try.prog.cellsOf 27))) (hf 1 _ rfl)
  rw [s1] at h1
  simp only [List.drop_zero, List.drop_succ_cons, List.take_succ_cons, List.take_zero] at h0 h1
  obtain ⟨A0, c0, l0, e0, hl0, hC0⟩ := open_row_int h0
  obtain ⟨v, hv⟩ := open_event h1
  obtain ⟨A2, c2, e1, hl2, hC2⟩ := k27_open hv
  injection e0 with e0
  injection e1 with e1 e2; injection e2 with e2 e3; injection e3 with e3
  subst e0; subst e1; subst e2; subst e3
  exact ⟨⟨l0, v⟩, k29_mk w ⟨l0, v⟩ hl0 hC0 hl2 hC2⟩
theorem open_entries {n : Nat} {cs : List Value} {x : DataW H × List MemPlace} (h : DataW.trod enc Try.prog w base spare held n 22 cs = some x) : ∃ A c xs, cs = [.slice A xs.length c] ∧ xs.length ≤ c ∧ k29.C w A xs.length xs :=
  open_row z29 k29 Try.underlying22 (by kernel_rfl) h (fun m' _ cs' x' h' => open_entry h')
theorem open_rows_int {n : Nat} {cs : List Value} {x : DataW H × List MemPlace} (h : DataW.trod enc Try.prog w base spare held n 39 cs = some x) : ∃ A c xs, cs = [.slice A xs.length c] ∧ xs.length ≤ c ∧ (Kd.slice 3 (Kd.int .i64)).C w A xs.length xs :=
  open_row ([] : List Int) (Kd.slice 3 (Kd.int .i64)) Try.underlying39 (by kernel_rfl) h (fun m' _ cs' x' h' => by
    obtain ⟨A, c, xs, e, hl, hC⟩ := open_row_int h'
    exact ⟨xs, A, c, e, hl, hC⟩)
end
end Go.Proofs.Ytlapiebnmbbemaa.A
