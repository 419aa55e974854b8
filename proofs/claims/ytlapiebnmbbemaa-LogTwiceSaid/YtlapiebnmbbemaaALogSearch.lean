/- The contract of log.Put, in the print's words: an entry laid down. -/
import Derived.Test.YtlapiebnmbbemaaALabel
import Derived.Test.YtlapiebnmbbemaaALogClone
import Derived.Test.YtlapiebnmbbemaaACells
import Derived.Deep.RegionWith
import Derived.Deep.DeepCutAuto
import Derived.Deep.CutBlock
namespace Go.Proofs.Ytlapiebnmbbemaa.A
open Go.RowKit Go.Proofs.YtlapiebnmbbemaaW.PrintWords Go.Proofs.YtlapiebnmbbemaaW.PrintLast Go.Proofs.YtlapiebnmbbemaaW.PrintMore

/-- What the binary search comes to. -/
def searchF (p : Nat → Bool) : Nat → Nat → Nat → Nat
  | 0, i, _ => i
  | f + 1, i, j => if i < j then (if p ((i + j) / 2) then searchF p f i ((i + j) / 2) else searchF p f ((i + j) / 2 + 1) j) else i
theorem searchF_spec (p : Nat → Bool) : ∀ (f i j : Nat), i ≤ j → j - i ≤ f → i ≤ searchF p f i j ∧ searchF p f i j ≤ j ∧ (i < searchF p f i j → p (searchF p f i j - 1) = false) ∧ (searchF p f i j < j → p (searchF p f i j) = true)
  | 0, i, j, h1, h2 => by
    have : i = j := by omega
    subst this
    simp [searchF]
  | f + 1, i, j, h1, h2 => by
    unfold searchF
    by_cases h : i < j
    · rw [if_pos h]
      cases hp : p ((i + j) / 2) with
      | true =>
        simp only [if_true]
        obtain ⟨a, b, c, d⟩ := searchF_spec p f i ((i + j) / 2) (by omega) (by omega)
        refine ⟨a, by omega, c, fun hl => ?_⟩
        by_cases he : searchF p f i ((i + j) / 2) = (i + j) / 2
        · rw [he]; exact hp
        · exact d (by omega)
      | false =>
        simp only [Bool.false_eq_true, if_false]
        obtain ⟨a, b, c, d⟩ := searchF_spec p f ((i + j) / 2 + 1) j (by omega) (by omega)
        refine ⟨by omega, b, fun hl => ?_, d⟩
        by_cases he : searchF p f ((i + j) / 2 + 1) j = (i + j) / 2 + 1
        · rw [he]; simpa using hp
        · exact c (by omega)
    · rw [if_neg h]
      have : i = j := by omega
      subst this
      simp

set_option maxHeartbeats 2000000 in
set_option maxRecDepth 100000 in
/-- What Put hands to sort.Search. -/
theorem put_pred (b1 b2 : Nat) (A0 : Option Addr) (c0 : Nat) (l : List S29) (cs : Array Value) (x : S29) (i : Int) (W : World) (h0 : 0 ≤ i) (hi : i < l.length)
    (h1 : W.cell? ⟨b1, 0, none⟩ = some (.slice A0 l.length c0)) (h2 : W.heap[b2]? = some (.cells cs 29 (0, 0))) (hl : Kd.C k29 W A0 l.length l) (hx : k29.K W x cs.toList) :
    Calls Try.prog 36 #[.int .i64 i, .pointer (some ⟨b1, 0, none⟩), .pointer (some ⟨b2, 0, none⟩)] W fun e w' => e = .returned (.bool (decide (cmpL (l.getD i.toNat z29).f0 x.f0 ≥ 0))) ∧ Below W.heap.size W w' := by
  obtain ⟨A4, c4, A6, c6, he, l4, g4, l6, g6⟩ := k29_open hx
  obtain rfl : cs = #[.slice A4 x.f0.length c4, .int .i64 x.f1.f0, .slice A6 x.f1.f1.length c6, .int .i64 x.f1.f2] := by rw [← Array.toList_inj, he]
  obtain ⟨ad, A1, c1, A3, c3, rfl, x0, x1, x2, x3, l1, g1, l3, g3⟩ := at_T29 hl i h0 hi
  have k0 : W.cell? ⟨b2, 0, none⟩ = some (.slice A4 x.f0.length c4) := (blk_cell h2 0).trans rfl
  have G1 := Aside0.mk g1
  have G4 := Aside0.mk g4
  clear hx g4 g6 l6 he x1 x2 x3 g1 g3 l3 h2 hl
  go_enter Try.func36, Try.ntmps36
  go_wp2
  go_region_with (go_at_call 37; refine (label_CompareW.calls _ _ _ _ _ _ _ _ ?q1 l1 ?q2 l4 rfl).mono ?_; (case q1 => exact Kd.C_drew G1.out); (case q2 => exact Kd.C_drew G4.out); rintro e w' ⟨rfl, hb⟩; have HB := Aside0.mk hb; clear hb)
  all_goals
    go_wp2
    go_ret
    exact ⟨rfl, below_step (below_drew (Below.refl _ _)) HB.out⟩

set_option maxHeartbeats 2000000 in
set_option maxRecDepth 100000 in
/-- sort.Search, the predicate met by a contract. -/
theorem search_put (b1 b2 : Nat) (p : Nat → Bool) (n : Nat) (w : World) (hn : n ≤ 4611686018427387903)
    (hP : ∀ (W : World) (i : Int), 0 ≤ i → i < n → Below w.heap.size w W → Calls Try.prog 36 #[.int .i64 i, .pointer (some ⟨b1, 0, none⟩), .pointer (some ⟨b2, 0, none⟩)] W fun e w' => e = .returned (.bool (p i.toNat)) ∧ Below W.heap.size W w') :
    Calls Try.prog 35 #[.int .i64 n, .func (.func 36) #[] #[.pointer (some ⟨b1, 0, none⟩), .pointer (some ⟨b2, 0, none⟩)]] w fun e w' =>
      e = .returned (.int .i64 (searchF p n 0 n)) ∧ Below w.heap.size w w' := by
  have HP := Aside0.mk hP
  clear hP
  go_enter Try.func35, Try.ntmps35
  go_wp2
  go_loopw [5, 6] (fun v5 v6 wr => ∃ (i j : Int) (f : Nat), v5 = .int .i64 i ∧ v6 = .int .i64 j ∧ 0 ≤ i ∧ i ≤ j ∧ j ≤ n ∧ Aside0 (j - i ≤ f) ∧ Aside0 (searchF p f i.toNat j.toNat = searchF p n 0 n) ∧ Aside0 (Below w.heap.size w wr)) (fun v5 v6 _ => (intOf v6 - intOf v5).toNat)
  case atStart => exact ⟨0, n, n, rfl, rfl, Int.le_refl _, by omega, Int.le_refl _, ⟨by omega⟩, ⟨by simp⟩, ⟨Below.refl _ _⟩⟩
  case round =>
    obtain ⟨i, j, f, rfl, rfl, h0, hij, hj, HF, HS, HB⟩ := hrel
    by_cases hlt : i < j
    · go_wp2_with fail
      refine (HP.out wr ((i + j) / 2) (by omega) (by omega) HB.out).mono ?_
      rintro e w' ⟨rfl, hb⟩
      have HB2 := Aside0.mk (below_step HB.out hb)
      clear hb
      obtain ⟨f, rfl⟩ : ∃ f', f = f' + 1 := ⟨f - 1, by have := HF.out; omega⟩
      have em : ((i + j) / 2).toNat = (i.toNat + j.toNat) / 2 := by omega
      cases hp : p ((i + j) / 2).toNat with
      | true =>
        have HR := Aside0.mk hp
        have EM := Aside0.mk em
        clear hp em
        go_wp2
        go_roundw
        case rel => exact ⟨i, (i + j) / 2, f, rfl, rfl, h0, by omega, by omega, ⟨by have := HF.out; omega⟩, ⟨by
          have h1 := HS.out
          have h2 := HR.out
          rw [EM.out] at h2
          rw [searchF, if_pos (by omega), h2, if_pos rfl] at h1
          rw [EM.out]; exact h1⟩, HB2⟩
        case measure => simp [intOf]; omega
      | false =>
        have HR := Aside0.mk hp
        have EM := Aside0.mk em
        clear hp em
        go_wp2
        go_roundw
        case rel => exact ⟨(i + j) / 2 + 1, j, f, rfl, rfl, by omega, by omega, by omega, ⟨by have := HF.out; omega⟩, ⟨by
          have h1 := HS.out
          have h2 := HR.out
          rw [EM.out] at h2
          rw [searchF, if_pos (by omega), h2, if_neg (by simp)] at h1
          rw [show ((i + j) / 2 + 1).toNat = (i.toNat + j.toNat) / 2 + 1 by have := EM.out; omega]; exact h1⟩, HB2⟩
        case measure => simp [intOf]; omega
    · obtain rfl : i = j := by omega
      have HE := Aside0.mk (show searchF p f i.toNat i.toNat = i.toNat by cases f <;> simp [searchF])
      go_wp2
      go_ret
      exact ⟨by rw [← HS.out, HE.out]; simp; omega, HB.out⟩
end Go.Proofs.Ytlapiebnmbbemaa.A
