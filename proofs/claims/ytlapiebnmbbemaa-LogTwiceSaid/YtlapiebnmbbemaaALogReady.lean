/- The contracts of log.Ready and spinneyref20.Ready, in the print's words: what is ahead of the least open place. -/
import Derived.Test.YtlapiebnmbbemaaALogExt
namespace Go.Proofs.Ytlapiebnmbbemaa.A
open Go.RowKit Go.Proofs.YtlapiebnmbbemaaW.PrintWords Go.Proofs.YtlapiebnmbbemaaW.PrintLast Go.Proofs.YtlapiebnmbbemaaW.PrintMore

set_option linter.unusedVariables false
/-- The least of some labels, m among them. -/
def leastL : List Int → List (List Int) → List Int
  | m, [] => m
  | m, o :: os => leastL (if cmpL o m < 0 then o else m) os
/-- The least of some labels. -/
def leastOf (l : List (List Int)) : List Int := leastL (l.getD 0 []) l
theorem leastL_snoc (o : List Int) : ∀ (os : List (List Int)) (m : List Int), leastL m (os ++ [o]) = if cmpL o (leastL m os) < 0 then o else leastL m os
  | [], m => rfl
  | x :: os, m => by simp only [List.cons_append, leastL]; exact leastL_snoc o os _

set_option maxHeartbeats 1000000 in
set_option maxRecDepth 100000 in
/-- What Ready hands to IndexFunc. -/
theorem ready_pred (b1 : Nat) (A1 : Option Addr) (c1 : Nat) (by_ : List Int) (x : S29) (cs : List Value) (W : World) (hx : k29.K W x cs)
    (h1 : W.cell? ⟨b1, 0, none⟩ = some (.slice A1 by_.length c1)) (hr : Kd.C (Kd.int .i64) W A1 by_.length by_) (hc : by_.length ≤ c1) :
    Calls Try.prog 42 #[.agg cs.toArray, .pointer (some ⟨b1, 0, none⟩)] W fun e w' => e = .returned (.bool (decide (cmpL x.f0 by_ ≥ 0))) ∧ Below W.heap.size W w' := by
  obtain ⟨A0, c0, A2, c2, rfl, l0, g0, l2, g2⟩ := k29_open hx
  have HG := Aside0.mk g0
  have HR := Aside0.mk hr
  clear hx g0 g2 hr
  go_enter Try.func42, Try.ntmps42
  go_wp2_with (first
    | ((with_reducible refine gate_dst (N := 2) rfl ?_); refine box_event ?hg (N := 2) ?hd (cs := #[.slice A0 x.f0.length c0, .int .i64 x.f1.f0, .slice A2 x.f1.f1.length c2, .int .i64 x.f1.f2]) (t := 29) ?hr ?_; (case hd => rfl); (case hg => rfl); (case hr => first | (go_simp; done) | (go_simp; rfl)); intro gb hgb w1 hbox hb; have k0 : w1.cell? ⟨gb, 0, none⟩ = some (.slice A0 x.f0.length c0) := (blk_cell hbox 0).trans rfl; have k1 := pw_cell_below hb h1; have HB1 := Aside0.mk hb; clear hb hbox hgb h1)
    | (go_at_call 37; refine (label_CompareW.calls _ _ _ _ _ _ _ _ ?q1 l0 ?q2 ?q3 rfl).mono ?_; (case q1 => exact Kd.C_below HG.out HB1.out); (case q2 => exact Kd.C_below HR.out HB1.out); (case q3 => exact hc); rintro e w' ⟨rfl, hb⟩; have HB := Aside0.mk hb; clear hb))
  go_ret
  exact ⟨rfl, below_step HB1.out HB.out⟩

theorem leastL_take (z m : List Int) (l : List (List Int)) (k : Nat) (h : k < l.length) : leastL m (l.take (k + 1)) = if cmpL (l.getD k z) (leastL m (l.take k)) < 0 then l.getD k z else leastL m (l.take k) := by
  rw [List.take_succ_eq_append_getElem h, leastL_snoc, List.getD_eq_getElem?_getD, List.getElem?_eq_getElem h]; rfl
theorem leastLz_lt (z m : List Int) (l : List (List Int)) (i : Int) (h0 : 0 ≤ i) (hlt : i < l.length) (hf : leastL z (l.take i.toNat) = m) (h : cmpL (rd_L3 l i) m < 0) : leastL z (l.take (i + 1).toNat) = rd_L3 l i := by
  rw [show (i + 1).toNat = i.toNat + 1 by omega, leastL_take [] _ l i.toNat (by omega), hf]
  exact if_pos h
theorem leastLz_ge (z m : List Int) (l : List (List Int)) (i : Int) (h0 : 0 ≤ i) (hlt : i < l.length) (hf : leastL z (l.take i.toNat) = m) (h : 0 ≤ cmpL (rd_L3 l i) m) : leastL z (l.take (i + 1).toNat) = m := by
  rw [show (i + 1).toNat = i.toNat + 1 by omega, leastL_take [] _ l i.toNat (by omega), hf]
  exact if_neg (by unfold rd_L3 at h; omega)
theorem leastL_one (z : List Int) (l : List (List Int)) (h : 0 < l.length) : leastL (l.getD 0 z) (l.take 1) = l.getD 0 z := by
  cases l with
  | nil => simp at h
  | cons x xs => simp [leastL]

set_option maxHeartbeats 1000000 in
set_option maxRecDepth 100000 in
/-- slices.MinFunc over labels. -/
theorem min_labels (A : Option Addr) (c : Nat) (l : List (List Int)) (w : World) (hl : Kd.C (Kd.slice 3 (Kd.int .i64)) w A l.length l) (hpos : 0 < l.length) :
    Calls Try.prog 40 #[.slice A l.length c, .func (.func 37) #[] #[]] w fun e w' =>
      ∃ A1 c1, e = .returned (.slice A1 (leastOf l).length c1) ∧ (leastOf l).length ≤ c1 ∧ Kd.C (Kd.int .i64) w' A1 (leastOf l).length (leastOf l) ∧ Below w.heap.size w w' := by
  have HL := Aside0.mk hl
  have hm : l.length ≤ 9223372036854775807 := hl.2.1
  clear hl
  obtain ⟨ad, A0, c0, rfl, x0, l0, g0⟩ := at_L3 HL.out 0 (Int.le_refl _) (by omega)
  have G0 := Aside0.mk g0
  have x0' : w.cell? ad = some (.slice A0 (rd_L3 l 0).length c0) := by simpa [Addr.add] using x0
  have hd1 : decide ((l.length : Int) < 1) = false := decide_eq_false (by omega)
  have hd2 : ¬ (l.length : Int) < 1 := by omega
  have hd3 : 0 < (l.length : Int) := by omega
  clear g0 x0
  go_enter Try.func40, Try.ntmps40
  go_wp2
  go_loopw [5, 6] (fun v5 v6 wr => ∃ (i : Int) (A1 : Option Addr) (c1 : Nat) (m : List Int), v6 = .int .i64 i ∧ v5 = .slice A1 m.length c1 ∧ 1 ≤ i ∧ i ≤ l.length ∧ Aside0 (leastL (l.getD 0 []) (l.take i.toNat) = m) ∧ m.length ≤ c1 ∧ Aside0 (Kd.C (Kd.int .i64) w A1 m.length m) ∧ Aside0 (Below w.heap.size w wr)) (fun _ v6 _ => l.length - (intOf v6).toNat)
  case atStart => exact ⟨1, A0, c0, _, rfl, rfl, by omega, by omega, ⟨leastL_one [] l hpos⟩, l0, G0, ⟨Below.refl _ _⟩⟩
  case round =>
    obtain ⟨i, A1, c1, m, rfl, rfl, h0, hk, HF, hc1, G1, HB⟩ := hrel
    by_cases hlt : i < l.length
    · obtain ⟨ad, A2, c2, he, x2, l2, g2⟩ := at_L3 HL.out i (by omega) hlt
      injection he with he
      subst he
      have G2 := Aside0.mk g2
      have x3 := pw_cell_below HB.out x2
      clear g2 x2
      go_wp2_with (go_at_call 37; refine (label_CompareW.calls _ _ _ _ _ _ _ _ ?q1 l2 ?q2 hc1 rfl).mono ?_; (case q1 => exact Kd.C_below G2.out HB.out); (case q2 => exact Kd.C_below G1.out HB.out); rintro e w' ⟨rfl, hb⟩; have HB2 := Aside0.mk (below_step HB.out hb); have x4 := pw_cell_below hb x3; clear hb)
      all_goals rename_i h
      all_goals first
        | exact ⟨⟨i + 1, A2, c2, _, rfl, rfl, by omega, by omega, ⟨leastLz_lt _ m l i (by omega) hlt HF.out h⟩, l2, G2, HB2⟩, by simp [intOf]; omega⟩
        | exact ⟨⟨i + 1, A1, c1, m, rfl, rfl, by omega, by omega, ⟨leastLz_ge _ m l i (by omega) hlt HF.out h⟩, hc1, G1, HB2⟩, by simp [intOf]; omega⟩
    · obtain rfl : i = l.length := by omega
      go_wp2
      go_ret
      have hf : leastL (l.getD 0 []) (l.take (l.length : Int).toNat) = m := HF.out
      rw [Int.toNat_natCast, List.take_length] at hf
      have hf2 : leastOf l = m := hf
      rw [hf2]
      exact ⟨_, _, rfl, hc1, Kd.C_below G1.out HB.out, HB.out⟩

set_option maxHeartbeats 2000000 in
set_option maxRecDepth 100000 in
/-- slices.IndexFunc, the predicate met by a contract. -/
theorem index_ready (b1 : Nat) (p : S29 → Bool) (A : Option Addr) (c : Nat) (l : List S29) (w : World) (hl : Kd.C k29 w A l.length l)
    (hP : ∀ W x cs, Below w.heap.size w W → k29.K W x cs → Calls Try.prog 42 #[.agg cs.toArray, .pointer (some ⟨b1, 0, none⟩)] W fun e w' => e = .returned (.bool (p x)) ∧ Below W.heap.size W w') :
    Calls Try.prog 41 #[.slice A l.length c, .func (.func 42) #[] #[.pointer (some ⟨b1, 0, none⟩)]] w fun e w' =>
      e = .returned (.int .i64 (atOr (firstAt p l))) ∧ Below w.heap.size w w' := by
  have HL := Aside0.mk hl
  have HP := Aside0.mk hP
  have hm : l.length ≤ 9223372036854775807 := hl.2.1
  clear hl hP
  have hu := Try.underlying29
  go_enter Try.func41, Try.ntmps41
  go_wp2
  go_loopw [8] (fun v8 wr => ∃ i : Int, v8 = .int .i64 i ∧ 0 ≤ i ∧ i ≤ l.length ∧ Aside0 (∀ j : Nat, (j : Int) < i → p (l.getD j z29) = false) ∧ Aside0 (Below w.heap.size w wr)) (fun v8 _ => l.length - (intOf v8).toNat)
  case atStart => exact ⟨0, rfl, Int.le_refl _, by omega, ⟨fun j hj => by omega⟩, ⟨Below.refl _ _⟩⟩
  case round =>
    obtain ⟨i, rfl, h0, hk, HF, HB⟩ := hrel
    by_cases hlt : i < l.length
    · obtain ⟨ad, A0, c0, A2, c2, rfl, x0, x1, x2, x3, l0, g0, l2, g2⟩ := at_T29 (Kd.C_below HL.out HB.out) i h0 hlt
      have HK := Aside0.mk (k29_mk wr (rd_T29 l i) l0 g0 l2 g2)
      clear l0 g0 l2 g2
      go_wp2_with fail
      refine (HP.out wr (rd_T29 l i) _ HB.out HK.out).mono ?_
      rintro e w' ⟨rfl, hb⟩
      have HB2 := Aside0.mk (below_step HB.out hb)
      clear hb
      cases hp : p (rd_T29 l i) with
      | true =>
        have HR := Aside0.mk (firstAt_some p z29 l i.toNat (by omega) (fun j hj => HF.out j (by omega)) hp)
        clear hp
        go_wp2
        go_ret
        exact ⟨by rw [HR.out]; simp [atOr]; omega, HB2.out⟩
      | false =>
        have HR := Aside0.mk hp
        clear hp
        go_wp2
        go_roundw
        case rel => exact ⟨i + 1, rfl, by omega, by omega, ⟨fun j hj => by
          by_cases hji : (j : Int) < i
          · exact HF.out j hji
          · obtain rfl : j = i.toNat := by omega
            exact HR.out⟩, HB2⟩
        case measure => simp [intOf]; omega
    · go_wp2
      go_ret
      exact ⟨by rw [firstAt_none p z29 l (fun j hj => HF.out j (by omega))]; rfl, HB.out⟩

/-- How many stand ahead of all open places. -/
def readyL (l : List S29) (op : List (List Int)) : Int := if op.length = 0 then l.length else match firstAt (fun x => decide (cmpL x.f0 (leastOf op) ≥ 0)) l with
  | some k => k
  | none => l.length
theorem readyL_nil (l : List S29) (op : List (List Int)) (h : op.length = 0) : readyL l op = l.length := if_pos h
theorem readyL_neg (l : List S29) (op : List (List Int)) (h : op.length ≠ 0) (hk : atOr (firstAt (fun x => decide (cmpL x.f0 (leastOf op) ≥ 0)) l) < 0) : readyL l op = l.length := by
  unfold readyL
  rw [if_neg h]
  cases hf : firstAt (fun x => decide (cmpL x.f0 (leastOf op) ≥ 0)) l with
  | none => rfl
  | some k => rw [hf] at hk; simp only [atOr] at hk; omega
theorem readyL_pos (l : List S29) (op : List (List Int)) (h : op.length ≠ 0) (hk : 0 ≤ atOr (firstAt (fun x => decide (cmpL x.f0 (leastOf op) ≥ 0)) l)) : readyL l op = atOr (firstAt (fun x => decide (cmpL x.f0 (leastOf op) ≥ 0)) l) := by
  unfold readyL
  rw [if_neg h]
  cases hf : firstAt (fun x => decide (cmpL x.f0 (leastOf op) ≥ 0)) l with
  | none => rw [hf] at hk; simp [atOr] at hk
  | some k => rfl

def log_Ready.f (l0 : List S29) (l1 : List (List Int)) : Option Int := some (readyL l0 l1)
set_option maxHeartbeats 2000000 in
set_option maxRecDepth 100000 in
theorem log_Ready.calls (A0 : Option Addr) (c0 : Nat) (l0 : List S29) (A1 : Option Addr) (c1 : Nat) (l1 : List (List Int)) (r : Int) (w : World) (hr0 : Kd.C k29 w A0 l0.length l0) (hc0 : l0.length ≤ c0) (hr1 : Kd.C (Kd.slice 3 (Kd.int .i64)) w A1 l1.length l1) (hc1 : l1.length ≤ c1) (h : log_Ready.f l0 l1 = some r) :
    Calls Try.prog 15 #[.slice A0 l0.length c0, .slice A1 l1.length c1] w fun e w' => e = .returned (.int .i64 r) ∧ Below w.heap.size w w' := by
  injection h with h
  subst h
  have H0 := Aside0.mk hr0
  have H1 := Aside0.mk hr1
  have hm0 := hr0.2.1
  have hm1 := hr1.2.1
  clear hr0 hr1
  go_enter Try.func15, Try.ntmps15
  by_cases hz : l1.length = 0
  · have hd : (l1.length : Int) = 0 := by omega
    go_wp2
    go_ret
    exact ⟨by rw [readyL_nil l0 l1 hz]; rfl, Below.refl _ _⟩
  · have hd : ¬ (l1.length : Int) = 0 := by omega
    have HZ := Aside0.mk hz
    clear hz
    go_wp2_with (first
      | (go_at_call 40; go_must (refine (min_labels A1 c1 l1 _ H1.out (by have := HZ.out; omega)).mono ?_; rintro e w1 ⟨A2, c2, rfl, hc2, hC, hb⟩; have HC := Aside0.mk hC; have HB1 := Aside0.mk hb; have HC2 := Aside0.mk hc2; clear hC hb hc2))
      | fail)
    refine (index_ready _ (fun x => decide (cmpL x.f0 (leastOf l1) ≥ 0)) A0 c0 l0 _ (Kd.C_below H0.out (below_alloc HB1.out _)) (fun W x cs hb hK => ready_pred _ A2 c2 (leastOf l1) x cs W hK (pw_cell_below hb ((blk_cell (blk_new w1 _) 0).trans rfl)) (Kd.C_below (Kd.C_below HC.out (below_alloc (Below.refl _ _) _)) hb) HC2.out)).mono ?_
    rintro e w2 ⟨rfl, hb⟩
    have HB2 := Aside0.mk (below_step (below_alloc HB1.out _) hb)
    clear hb
    obtain ⟨n, hn⟩ : ∃ n, atOr (firstAt (fun x : S29 => decide (cmpL x.f0 (leastOf l1) ≥ 0)) l0) = n := ⟨_, rfl⟩
    rw [hn]
    have HN := Aside0.mk hn
    clear hn
    by_cases hlt : n < 0
    · have hle : ¬ 0 ≤ n := by omega
      go_wp2
      go_ret
      exact ⟨by rw [readyL_neg l0 l1 HZ.out (by rw [HN.out]; exact hlt)]; rfl, HB2.out⟩
    · have hle : 0 ≤ n := by omega
      go_wp2
      go_ret
      exact ⟨by rw [readyL_pos l0 l1 HZ.out (by rw [HN.out]; exact hle), HN.out]; rfl, HB2.out⟩

theorem readyL_at (l0 : List S29) (l1 : List (List Int)) (m : List Int) (i : Int) (hz : ¬ l1.length = 0) (hm : leastOf l1 = m) (h0 : 0 ≤ i) (hlt : i < l0.length) (hf : ∀ j : Nat, (j : Int) < i → decide (cmpL (l0.getD j z29).f0 m ≥ 0) = false) (h : 0 ≤ cmpL (rd_T29 l0 i).f0 m) : readyL l0 l1 = i := by
  unfold readyL
  rw [if_neg hz, hm, firstAt_some (fun x => decide (cmpL x.f0 m ≥ 0)) z29 l0 i.toNat (by omega) (fun j hj => hf j (by omega)) (decide_eq_true h)]
  show ((i.toNat : Nat) : Int) = i
  omega
theorem readyL_end (l0 : List S29) (l1 : List (List Int)) (m : List Int) (hz : ¬ l1.length = 0) (hm : leastOf l1 = m) (hf : ∀ j : Nat, (j : Int) < l0.length → decide (cmpL (l0.getD j z29).f0 m ≥ 0) = false) : readyL l0 l1 = l0.length := by
  unfold readyL
  rw [if_neg hz, hm, firstAt_none (fun x => decide (cmpL x.f0 m ≥ 0)) z29 l0 (fun j hj => hf j (by omega))]
theorem ahead_snoc (l0 : List S29) (m : List Int) (i : Int) (h0 : 0 ≤ i) (hlt : i < l0.length) (hf : ∀ j : Nat, (j : Int) < i → decide (cmpL (l0.getD j z29).f0 m ≥ 0) = false) (h : cmpL (rd_T29 l0 i).f0 m < 0) (j : Nat) (hj : (j : Int) < i + 1) : decide (cmpL (l0.getD j z29).f0 m ≥ 0) = false := by
  by_cases hji : (j : Int) < i
  · exact hf j hji
  · obtain rfl : j = i.toNat := by omega
    exact decide_eq_false (by unfold rd_T29 at h; omega)
def spinneyref20_Ready.f (l0 : List S29) (l1 : List (List Int)) : Option Int := some (readyL l0 l1)
set_option maxHeartbeats 2000000 in
set_option maxRecDepth 100000 in
theorem spinneyref20_Ready.calls (A0 : Option Addr) (c0 : Nat) (l0 : List S29) (A1 : Option Addr) (c1 : Nat) (l1 : List (List Int)) (r : Int) (w : World) (hr0 : Kd.C k29 w A0 l0.length l0) (hc0 : l0.length ≤ c0) (hr1 : Kd.C (Kd.slice 3 (Kd.int .i64)) w A1 l1.length l1) (hc1 : l1.length ≤ c1) (h : spinneyref20_Ready.f l0 l1 = some r) :
    Calls Try.prog 16 #[.slice A0 l0.length c0, .slice A1 l1.length c1] w fun e w' => e = .returned (.int .i64 r) ∧ Below w.heap.size w w' := by
  injection h with h
  subst h
  have H0 := Aside0.mk hr0
  have H1 := Aside0.mk hr1
  have hm0 := hr0.2.1
  have hm1 := hr1.2.1
  clear hr0 hr1
  by_cases hz : l1.length = 0
  · have hd : (l1.length : Int) = 0 := by omega
    go_enter Try.func16, Try.ntmps16
    go_wp2
    go_ret
    exact ⟨by rw [readyL_nil l0 l1 hz]; rfl, Below.refl _ _⟩
  · have hd : ¬ (l1.length : Int) = 0 := by omega
    have hd5 : ((l1.length : Int) == 0) = false := by simpa using hz
    have hd3 : 0 < (l1.length : Int) := by omega
    obtain ⟨ad, A2, c2, rfl, x0, l2, g2⟩ := at_L3 H1.out 0 (Int.le_refl _) (by omega)
    have x0' : w.cell? ad = some (.slice A2 (rd_L3 l1 0).length c2) := by simpa [Addr.add] using x0
    have G2 := Aside0.mk g2
    have HZ := Aside0.mk hz
    clear hz g2 x0
    go_enter Try.func16, Try.ntmps16
    go_wp2
    have hu := Try.underlying29
    go_loopw [5, 20] (fun v5 v20 wr => ∃ (i : Int) (A3 : Option Addr) (c3 : Nat) (m : List Int), v20 = .int .i64 i ∧ v5 = .slice A3 m.length c3 ∧ 0 ≤ i ∧ i ≤ l1.length ∧ Aside0 (leastL (rd_L3 l1 0) (l1.take i.toNat) = m) ∧ m.length ≤ c3 ∧ Aside0 (Kd.C (Kd.int .i64) w A3 m.length m) ∧ Aside0 (Below w.heap.size w wr)) (fun _ v20 _ => l1.length - (intOf v20).toNat)
    case atStart => exact ⟨0, A2, c2, _, rfl, rfl, by omega, by omega, ⟨rfl⟩, l2, G2, ⟨Below.refl _ _⟩⟩
    case round =>
      obtain ⟨i, A3, c3, m, rfl, rfl, h0, hk, HF, hc3, G3, HB⟩ := hrel
      by_cases hlt : i < l1.length
      · obtain ⟨ad, A4, c4, he, x2, l4, g4⟩ := at_L3 H1.out i (by omega) hlt
        injection he with he
        subst he
        have G4 := Aside0.mk g4
        have x3 := pw_cell_below HB.out x2
        clear g4 x2
        go_wp2_with (go_at_call 13; refine (spinneyref19_CompareW.calls _ _ _ _ _ _ _ _ ?q1 l4 ?q2 hc3 rfl).mono ?_; (case q1 => exact Kd.C_below G4.out HB.out); (case q2 => exact Kd.C_below G3.out HB.out); rintro e w' ⟨rfl, hb⟩; have HB2 := Aside0.mk (below_step HB.out hb); have x4 := pw_cell_below hb x3; clear hb)
        all_goals rename_i h
        all_goals first
        | exact ⟨⟨i + 1, A4, c4, _, rfl, rfl, by omega, by omega, ⟨leastLz_lt _ m l1 i (by omega) hlt HF.out h⟩, l4, G4, HB2⟩, by simp [intOf]; omega⟩
        | exact ⟨⟨i + 1, A3, c3, m, rfl, rfl, by omega, by omega, ⟨leastLz_ge _ m l1 i (by omega) hlt HF.out h⟩, hc3, G3, HB2⟩, by simp [intOf]; omega⟩
      · obtain rfl : i = l1.length := by omega
        have hf : leastL (rd_L3 l1 0) (l1.take (l1.length : Int).toNat) = m := HF.out
        rw [Int.toNat_natCast, List.take_length] at hf
        have HL := Aside0.mk (show leastOf l1 = m from hf)
        clear hf HF
        go_wp2
        go_loopw [32] (fun v32 wr2 => ∃ i : Int, v32 = .int .i64 i ∧ 0 ≤ i ∧ i ≤ l0.length ∧ Aside0 (∀ j : Nat, (j : Int) < i → decide (cmpL (l0.getD j z29).f0 m ≥ 0) = false) ∧ Aside0 (Below w.heap.size w wr2)) (fun v32 _ => l0.length - (intOf v32).toNat)
        case atStart => exact ⟨0, rfl, Int.le_refl _, by omega, ⟨fun j hj => by omega⟩, HB⟩
        case round =>
          obtain ⟨i, rfl, h0, hk, HF, HB1⟩ := hrel
          by_cases hlt : i < l0.length
          · obtain ⟨ae, A5, c5, A6, c6, rfl, y0, y1, y2, y3, l5, g5, l6, g6⟩ := at_T29 (Kd.C_below H0.out HB1.out) i h0 hlt
            have G5 := Aside0.mk g5
            clear g5 g6 l6
            go_wp2_with (first
              | (go_at_call 13; refine (spinneyref19_CompareW.calls _ _ _ _ _ _ _ _ ?q1 l5 ?q2 hc3 rfl).mono ?_; (case q1 => exact Kd.C_below G5.out (below_alloc (Below.refl _ _) _)); (case q2 => exact Kd.C_below G3.out (below_alloc HB1.out _)); rintro e w' ⟨rfl, hb⟩; have HB2 := Aside0.mk (below_step (below_alloc HB1.out _) hb); clear hb))
            all_goals rename_i h
            · go_ret
              exact ⟨by rw [readyL_at l0 l1 m i HZ.out HL.out h0 hlt HF.out h]; rfl, HB2.out⟩
            · exact ⟨⟨i + 1, rfl, by omega, by omega, ⟨ahead_snoc l0 m i h0 hlt HF.out h⟩, HB2⟩, by simp [intOf]; omega⟩
          · obtain rfl : i = l0.length := by omega
            go_wp2
            go_ret
            exact ⟨by rw [readyL_end l0 l1 m HZ.out HL.out HF.out]; rfl, HB1.out⟩
end Go.Proofs.Ytlapiebnmbbemaa.A
