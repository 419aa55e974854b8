/- The contract of slices.Insert of one value, in the print's words (elements of four cells). -/
import Derived.Test.YtlapiebnmbbemaaALogClone
import Derived.Test.YtlapiebnmbbemaaACells
import Derived.Deep.RegionLaw
import Derived.Lib.Overlaps
import Derived.Lib.Walk
namespace Go.Proofs.Ytlapiebnmbbemaa.A
open Go.RowKit Go.Lib Go.Proofs.YtlapiebnmbbemaaW.PrintWords Go.Proofs.YtlapiebnmbbemaaW.PrintLast Go.Proofs.YtlapiebnmbbemaaW.PrintMore

theorem list_seg {α : Type} (cur : List α) (a m b c : Nat) (h : a + m ≤ b + c) (hb : b ≤ a) : (((cur.drop b).take c).drop (a - b)).take m = (cur.drop a).take m := by
  apply List.ext_getElem?
  intro q
  simp only [List.getElem?_take, List.getElem?_drop]
  split
  · rw [if_pos (by omega), show b + (a - b + q) = a + q by omega]
  · rfl
/-- A row with one element put in. -/
theorem N_ins {α : Type} {d : Kd α} {e base g cap n i : Nat} {w : World} {ok : Nat → Prop} {l : List α} {x : α} {cur cur' cv : List Value}
    (hg : w.heap[g]? = some (.cells cur'.toArray e (0, 0))) (hc : cur'.length = cap * d.sz) (hn : n + 1 ≤ cap) (hm : cap ≤ maxLen) (hb : base ≤ g) (hok : ok g) (hl : l.length = n) (hi : i ≤ n) (hcv : cv.length = d.sz) (hcur : n * d.sz ≤ cur.length)
    (hcells : cur'.take ((n + 1) * d.sz) = cur.take (i * d.sz) ++ (cv ++ (cur.drop (i * d.sz)).take ((n - i) * d.sz)))
    (hf : ∀ j y, l[j]? = some y → Kd.FK d w (fun k => ok k ∧ k ≠ g) y ((cur.drop (j * d.sz)).take d.sz)) (hx : Kd.FK d w (fun k => ok k ∧ k ≠ g) x cv) :
    Kd.N d e w base ok (.slice (some ⟨g, 0, none⟩) (n + 1) cap) (l.take i ++ x :: l.drop i) := by
  refine N_mk hg hc hn hm hb hok (by simp; omega) (fun j y hj => ?_)
  have hjn : j < n + 1 := by have := (List.getElem?_eq_some_iff.1 hj).1; simp at this; omega
  have hjs : j * d.sz + d.sz ≤ (n + 1) * d.sz := by rw [← Nat.succ_mul]; exact Nat.mul_le_mul_right _ hjn
  have his : i * d.sz ≤ n * d.sz := Nat.mul_le_mul_right _ hi
  have e0 : (cur'.drop (j * d.sz)).take d.sz = ((cur.take (i * d.sz) ++ (cv ++ (cur.drop (i * d.sz)).take ((n - i) * d.sz))).drop (j * d.sz)).take d.sz := by
    rw [← hcells]
    have := list_seg cur' (j * d.sz) d.sz 0 ((n + 1) * d.sz) (by omega) (by omega)
    simpa using this.symm
  have hl1 : (cur.take (i * d.sz)).length = i * d.sz := by rw [List.length_take]; omega
  rw [e0]
  rcases Nat.lt_trichotomy j i with h | h | h
  · rw [List.getElem?_append_left (by rw [List.length_take]; omega), List.getElem?_take, if_pos h] at hj
    have h2 : j * d.sz + d.sz ≤ i * d.sz := by rw [← Nat.succ_mul]; exact Nat.mul_le_mul_right _ h
    have e1 : ((cur.take (i * d.sz) ++ (cv ++ (cur.drop (i * d.sz)).take ((n - i) * d.sz))).drop (j * d.sz)).take d.sz = (cur.drop (j * d.sz)).take d.sz := by
      rw [List.drop_append_of_le_length (by omega), List.take_append_of_le_length (by rw [List.length_drop]; omega)]
      have := list_seg cur (j * d.sz) d.sz 0 (i * d.sz) (by omega) (by omega)
      simpa using this
    rw [e1]
    exact hf j y hj
  · subst h
    rw [List.getElem?_append_right (by rw [List.length_take]; omega), List.length_take, show j - min j l.length = 0 by omega] at hj
    simp only [List.getElem?_cons_zero, Option.some.injEq] at hj
    subst hj
    have e1 : ((cur.take (j * d.sz) ++ (cv ++ (cur.drop (j * d.sz)).take ((n - j) * d.sz))).drop (j * d.sz)).take d.sz = cv := by
      rw [List.drop_left' hl1, List.take_append_of_le_length (by omega), List.take_of_length_le (by omega)]
    rw [e1]
    exact hx
  · rw [List.getElem?_append_right (by rw [List.length_take]; omega), List.length_take, show j - min i l.length = (j - i - 1) + 1 by omega, List.getElem?_cons_succ, List.getElem?_drop, show i + (j - i - 1) = j - 1 by omega] at hj
    have h3 : (j - 1) * d.sz + d.sz = j * d.sz := by rw [← Nat.succ_mul]; congr 1; omega
    have h4 : i * d.sz + (n - i) * d.sz = n * d.sz := by rw [← Nat.add_mul]; congr 1; omega
    have h5 : i * d.sz + d.sz ≤ j * d.sz := by rw [← Nat.succ_mul]; exact Nat.mul_le_mul_right _ h
    have h6 : (n + 1) * d.sz = n * d.sz + d.sz := Nat.succ_mul _ _
    have e1 : ((cur.take (i * d.sz) ++ (cv ++ (cur.drop (i * d.sz)).take ((n - i) * d.sz))).drop (j * d.sz)).take d.sz = (cur.drop ((j - 1) * d.sz)).take d.sz := by
      rw [List.drop_append, hl1, List.drop_of_length_le (by rw [hl1]; omega), List.nil_append, List.drop_append, hcv, List.drop_of_length_le (by omega), List.nil_append]
      have := list_seg cur ((j - 1) * d.sz) d.sz (i * d.sz) ((n - i) * d.sz) (by omega) (by omega)
      rw [← this]
      congr 2
      omega
    rw [e1]
    exact hf (j - 1) y hj

/-- The tail one place on, the new cells in the gap. -/
theorem shift_cells {α : Type} (cur cv : List α) (a z n : Nat) (hz : cv.length = z) (ha : a ≤ n) (hn : n + z ≤ cur.length) :
    (((cur.take (a + z) ++ (cur.drop a).take (n - a) ++ cur.drop (a + z + (n - a))).take a ++ cv ++ (cur.take (a + z) ++ (cur.drop a).take (n - a) ++ cur.drop (a + z + (n - a))).drop (a + z))).take (n + z) = cur.take a ++ (cv ++ (cur.drop a).take (n - a)) := by
  have h1 : (cur.take (a + z) ++ (cur.drop a).take (n - a) ++ cur.drop (a + z + (n - a))).take a = cur.take a := by
    rw [List.append_assoc, List.take_append_of_le_length (by rw [List.length_take]; omega), List.take_take, Nat.min_eq_left (by omega)]
  have h2 : (cur.take (a + z) ++ (cur.drop a).take (n - a) ++ cur.drop (a + z + (n - a))).drop (a + z) = (cur.drop a).take (n - a) ++ cur.drop (a + z + (n - a)) := by
    rw [List.append_assoc, List.drop_left' (by rw [List.length_take]; omega)]
  rw [h1, h2, List.append_assoc, ← List.append_assoc cv, ← List.append_assoc (cur.take a), List.take_left']
  · simp only [List.length_append, List.length_take, List.length_drop]; omega
/-- append(v, make([]T, m)...) that grows. -/
theorem run_append_zeros_grow {P : Program} (w : World) (t ti ty e : TypeId) (i : TypeInfo) (z : Value) (ht : P.underlying t = some (.slice e)) {k : IntKind} (hti : P.underlying ti = some (.int k)) (hi : P.info? e = some i) (hz : i.zero = some z) (hsz : 0 < i.size) (hb0 : 0 < i.bytes)
    (A : Option Addr) (n cap m : Nat) (olds : List Value) (hfo : (Builtin.firstCells i.size n (.slice A n cap)).run P w.drew = .ok olds.toArray w.drew) (hm : 0 < m) (hcap : cap < n + m) (hbytes : (n + m) * i.bytes ≤ 140737488355328) (kx : IntKind) :
    (Builtin.append_ #[t, ti] ty #[.slice A n cap, .int kx m]).run P w =
      .ok (.slice (some ⟨w.heap.size, 0, none⟩) (n + m) (grownCap w (n + m) cap e)) (w.drew.alloc (.cells (olds.toArray ++ Builtin.zeroCells z.cells m ++ Builtin.zeroCells z.cells (grownCap w (n + m) cap e - (n + m))) e)) := by
  have hle : n + m ≤ 140737488355328 := Nat.le_trans (Nat.le_mul_of_pos_right _ hb0) hbytes
  have hw : IntKind.i64.wrap (m : Int) = m := by rw [IntKind.wrap_i64]; omega
  have hneg : ¬ ((m : Int) < 0) := by omega
  have hmb : m * i.bytes ≤ 140737488355328 := Nat.le_trans (Nat.mul_le_mul_right _ (Nat.le_add_left m n)) hbytes
  have hbig : ¬ (281474976710656 < (m : Int) * (i.bytes : Int)) := by
    rw [← Int.natCast_mul]
    omega
  have hn : ¬ (n + m ≤ cap) := by omega
  have h63' : ¬ (9223372036854775807 < ((n : Int) + (m : Int))) := by omega
  have hfit := growslice_fits hcap hbytes
  have h48' : ¬ (281474976710656 < Builtin.nextslicecap (n + m) cap * i.bytes) := by omega
  have hmz : ¬ (m * i.size = 0) := Nat.mul_ne_zero (by omega) (by omega)
  simp [Builtin.append_, run_underlying ht, run_underlying hti, sizeOf, typeInfo, zeroValue, hi, hz, asInt, asIntOf, hw, hneg, hbig, hn, h63', h48', Question.forced, hfo, newRow, grownCap, hmz]
end Go.Proofs.Ytlapiebnmbbemaa.A
