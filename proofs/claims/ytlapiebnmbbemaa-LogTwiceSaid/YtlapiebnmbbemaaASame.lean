/- What the reference's Same comes to: terms are the same just if they are equal. -/
import Derived.Test.YtlapiebnmbbemaaAFSpinneyref03Same
import Derived.WideShapes
namespace Go.Proofs.Ytlapiebnmbbemaa.A
open Go.RowKit Go.Proofs.YtlapiebnmbbemaaW.PrintWords Go.Proofs.YtlapiebnmbbemaaW.PrintLast Go.Proofs.YtlapiebnmbbemaaW.PrintMore

theorem SEv.pos {α : Type} {c : Prop} [Decidable c] {f g : Nat → Option α} {r : α} (h : c) (k : Ev f r) : Ev (fun n => if c then f n else g n) r := Ev.congr (fun _ => if_pos h) k
theorem SEv.neg {α : Type} {c : Prop} [Decidable c] {f g : Nat → Option α} {r : α} (h : ¬ c) (k : Ev g r) : Ev (fun n => if c then f n else g n) r := Ev.congr (fun _ => if_neg h) k
theorem bytes_eq (a b : ByteArray) : a.toList = b.toList ↔ a = b := by
  constructor
  · intro h
    rw [ByteArray.toList_eq, ByteArray.toList_eq] at h
    exact Go.WideShapes.bytes_inj h
  · intro h; rw [h]

mutual
/-- Are two terms the same? -/
def sameT : S47 → S47 → Bool
  | ⟨k, n, v, l⟩, ⟨k', n', v', l'⟩ => decide (k = k') && decide (n = n') && decide (v = v') && sameTs l l'
def sameTs : List S47 → List S47 → Bool
  | [], [] => true
  | x :: xs, y :: ys => sameT x y && sameTs xs ys
  | [], _ :: _ => false
  | _ :: _, [] => false
end
mutual
theorem sameT_iff : ∀ a b : S47, sameT a b = true ↔ a = b
  | ⟨k, n, v, l⟩, ⟨k', n', v', l'⟩ => by
    simp only [sameT, Bool.and_eq_true, decide_eq_true_eq, S47.mk.injEq, sameTs_iff l l']
    constructor
    · rintro ⟨⟨⟨h1, h2⟩, h3⟩, h4⟩; exact ⟨h1, h2, h3, h4⟩
    · rintro ⟨h1, h2, h3, h4⟩; exact ⟨⟨⟨h1, h2⟩, h3⟩, h4⟩
theorem sameTs_iff : ∀ a b : List S47, sameTs a b = true ↔ a = b
  | [], [] => by simp [sameTs]
  | x :: xs, y :: ys => by simp only [sameTs, Bool.and_eq_true, sameT_iff x y, sameTs_iff xs ys, List.cons.injEq]
  | [], _ :: _ => by simp [sameTs]
  | _ :: _, [] => by simp [sameTs]
end
theorem sameTs_len {a b : List S47} (h : a.length ≠ b.length) : sameTs a b = false := by
  cases hb : sameTs a b with
  | false => rfl
  | true => exact absurd (by rw [(sameTs_iff a b).1 hb]) h
theorem sameTs_refl (a : List S47) : sameTs a a = true := (sameTs_iff a a).2 rfl
theorem sameT_refl (a : S47) : sameT a a = true := (sameT_iff a a).2 rfl

theorem same_loop (k1 : Int) (n1 : ByteArray) (v1 : Int) (l1 : List S47) (k2 : Int) (n2 : ByteArray) (v2 : Int) (l2 : List S47) (hm : l1.length ≤ 9223372036854775807) (hl : l1.length = l2.length)
    (hx : ∀ x, x ∈ l1 → ∀ y, y ∈ l2 → Ev (fun k => spinneyref03_Same.f k x.f0 x.f1 x.f2 x.f3 y.f0 y.f1 y.f2 y.f3) (sameT x y)) :
    ∀ (d i : Nat), l1.length - i = d → i ≤ l1.length → Ev (fun k => spinneyref03_Same.l0 k (l1.length : Int) (i : Int) k1 n1 v1 l1 k2 n2 v2 l2) (sameTs (l1.drop i) (l2.drop i)) := by
  intro d
  induction d with
  | zero =>
    intro i h1 h2
    refine Ev.step (fun k => by simp only [spinneyref03_Same.l0]; rfl) (SEv.neg (by omega) ?_)
    rw [List.drop_of_length_le (by omega), List.drop_of_length_le (by omega)]
    exact Ev.now _
  | succ d ih =>
    intro i h1 h2
    have hi1 : i < l1.length := by omega
    have hi2 : i < l2.length := by omega
    refine Ev.step (fun k => by simp only [spinneyref03_Same.l0]; rfl) (SEv.pos (by omega) (SEv.pos (by omega) (SEv.pos (by omega) (SEv.pos (by omega) ?_))))
    rw [List.drop_eq_getElem_cons hi1, List.drop_eq_getElem_cons hi2]
    have e1 : rd_T47 l1 (i : Int) = l1[i] := by simp [rd_T47, hi1]
    have e2 : rd_T47 l2 (i : Int) = l2[i] := by simp [rd_T47, hi2]
    rw [e1, e2]
    refine Ev.bind (hx _ (List.getElem_mem hi1) _ (List.getElem_mem hi2)) ?_
    simp only [sameTs]
    cases sameT l1[i] l2[i] with
    | false => exact SEv.neg (by simp) (Ev.now _)
    | true =>
      refine SEv.pos rfl ?_
      rw [show wrap64 ((i : Int) + 1) = ((i + 1 : Nat) : Int) from by unfold wrap64; omega, Bool.true_and]
      exact ih (i + 1) (by omega) (by omega)

mutual
/-- Each list in a term is short enough to be a slice. -/
def shortT : S47 → Prop
  | ⟨_, _, _, l⟩ => l.length ≤ 9223372036854775807 ∧ shortTs l
def shortTs : List S47 → Prop
  | [] => True
  | x :: xs => shortT x ∧ shortTs xs
end
theorem shortTs_mem {l : List S47} : shortTs l ↔ ∀ x ∈ l, shortT x := by
  induction l with
  | nil => simp [shortTs]
  | cons x xs ih => simp [shortTs, ih]
theorem same_ev : ∀ (a b : S47), shortT a → Ev (fun k => spinneyref03_Same.f k a.f0 a.f1 a.f2 a.f3 b.f0 b.f1 b.f2 b.f3) (sameT a b)
  | ⟨k1, n1, v1, l1⟩, ⟨k2, n2, v2, l2⟩ => by
    intro hs
    have hno : Ev (fun k => spinneyref03_Same.j0 k true k1 n1 v1 l1 k2 n2 v2 l2) false :=
      Ev.step (fun k => by simp only [spinneyref03_Same.j0]; rfl) (SEv.pos (rfl : true = true) (Ev.now _))
    refine Ev.step (fun k => by simp only [spinneyref03_Same.f]; rfl) ?_
    by_cases h1 : k1 = k2
    · refine SEv.pos h1 ?_
      by_cases h2 : n1 = n2
      · refine SEv.pos ((bytes_eq _ _).2 h2) ?_
        by_cases h3 : v1 = v2
        · refine SEv.pos h3 ?_
          by_cases h4 : l1.length = l2.length
          · refine Ev.step (fun k => by simp only [spinneyref03_Same.j0]; rfl) (SEv.neg (by simp [h4]) ?_)
            have := same_loop k1 n1 v1 l1 k2 n2 v2 l2 hs.1 h4 (fun x hx y _ => by
              have hlt : SizeOf.sizeOf x < 1 + SizeOf.sizeOf k1 + SizeOf.sizeOf n1 + SizeOf.sizeOf v1 + SizeOf.sizeOf l1 := by have := List.sizeOf_lt_of_mem hx; omega
              exact same_ev x y (shortTs_mem.1 hs.2 x hx)) l1.length 0 (by omega) (by omega)
            simpa [sameT, h1, h2, h3] using this
          · rw [show ((l1.length : Int) != (l2.length : Int)) = true from by rw [bne_iff_ne]; omega]
            simpa [sameT, sameTs_len h4] using hno
        · refine SEv.neg h3 ?_
          simpa [sameT, h3] using hno
      · refine SEv.neg (fun h => h2 ((bytes_eq _ _).1 h)) ?_
        simpa [sameT, h2] using hno
    · refine SEv.neg h1 ?_
      simpa [sameT, h1] using hno
termination_by a => SizeOf.sizeOf a
decreasing_by simp_wf; omega

def spinneyref03_SameW.f (a0_0 : Int) (a0_1 : ByteArray) (a0_2 : Int) (l0_3 : List S47) (a1_0 : Int) (a1_1 : ByteArray) (a1_2 : Int) (l1_3 : List S47) : Option Bool := some (sameT ⟨a0_0, a0_1, a0_2, l0_3⟩ ⟨a1_0, a1_1, a1_2, l1_3⟩)
/-- What is read is short enough. -/
theorem short_of_reads : ∀ (n : Nat) (w : World) (x : S47) (cs : List Value), (Kd.upto F47 4 [47] n).K w x cs → shortT x
  | 0, w, x, cs, h => h.elim
  | n + 1, w, x, cs, h => by
    obtain ⟨_, _, rfl, rfl, ⟨_, _, rfl, rfl, ⟨_, _, rfl, rfl, ⟨A3, c3, rfl, l3, g3⟩⟩⟩⟩ := h
    cases x with
    | mk k0 n0 v0 l0 =>
      refine ⟨g3.2.1, shortTs_mem.2 fun y hy => ?_⟩
      obtain ⟨j, hj, rfl⟩ := List.mem_iff_getElem.1 hy
      obtain ⟨ad, _, hc⟩ := g3.2.2 (by dsimp only at hj ⊢; omega)
      obtain ⟨c, _, hK, _⟩ := hc j _ (List.getElem?_eq_getElem hj)
      exact short_of_reads n w _ c hK
theorem shorts_of_reads {w : World} {A : Option Addr} {n : Nat} {l : List S47} (h : Kd.C k47 w A n l) : n ≤ 9223372036854775807 ∧ shortTs l := by
  refine ⟨h.2.1, shortTs_mem.2 fun y hy => ?_⟩
  obtain ⟨j, hj, rfl⟩ := List.mem_iff_getElem.1 hy
  obtain ⟨ad, _, hc⟩ := h.2.2 (by have := h.1; omega)
  obtain ⟨c, _, ⟨m, hK⟩, _⟩ := hc j _ (List.getElem?_eq_getElem hj)
  exact short_of_reads m w _ c hK
theorem spinneyref03_SameW.calls (a0_0 : Int) (a0_1 : ByteArray) (a0_2 : Int) (A0_3 : Option Addr) (c0_3 : Nat) (l0_3 : List S47) (a1_0 : Int) (a1_1 : ByteArray) (a1_2 : Int) (A1_3 : Option Addr) (c1_3 : Nat) (l1_3 : List S47) (r : Bool) (w : World) (hr0_3 : Kd.C k47 w A0_3 l0_3.length l0_3) (hc0_3 : l0_3.length ≤ c0_3) (hr1_3 : Kd.C k47 w A1_3 l1_3.length l1_3) (hc1_3 : l1_3.length ≤ c1_3) (h : spinneyref03_SameW.f a0_0 a0_1 a0_2 l0_3 a1_0 a1_1 a1_2 l1_3 = some r) :
    Calls Try.prog 68 #[.agg #[.int .i64 a0_0, .string a0_1, .int .i64 a0_2, .slice A0_3 l0_3.length c0_3], .agg #[.int .i64 a1_0, .string a1_1, .int .i64 a1_2, .slice A1_3 l1_3.length c1_3]] w fun e w' => e = .returned (.bool r) ∧ Below w.heap.size w w' := by
  obtain ⟨k, hk⟩ := (same_ev ⟨a0_0, a0_1, a0_2, l0_3⟩ ⟨a1_0, a1_1, a1_2, l1_3⟩ (shorts_of_reads hr0_3)).rounds
  exact spinneyref03_Same.calls k a0_0 a0_1 a0_2 A0_3 c0_3 l0_3 a1_0 a1_1 a1_2 A1_3 c1_3 l1_3 r w hr0_3 hc0_3 hr1_3 hc1_3 (hk.trans h)
end Go.Proofs.Ytlapiebnmbbemaa.A
