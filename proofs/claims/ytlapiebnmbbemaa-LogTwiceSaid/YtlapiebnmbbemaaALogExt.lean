/- The contracts of log.Drop and log.Put, in the print's words: what a cut leaves of a log; an entry laid down. -/
import Derived.Test.YtlapiebnmbbemaaALabel
import Derived.Test.YtlapiebnmbbemaaALogClone
import Derived.Test.YtlapiebnmbbemaaACells
namespace Go.Proofs.Ytlapiebnmbbemaa.A
open Go.RowKit Go.Lib Go.Proofs.YtlapiebnmbbemaaW.PrintWords Go.Proofs.YtlapiebnmbbemaaW.PrintLast Go.Proofs.YtlapiebnmbbemaaW.PrintMore

set_option maxHeartbeats 1000000 in
set_option maxRecDepth 100000 in
/-- What Drop hands to DeleteFunc. -/
theorem drop_pred (b1 b2 : Nat) (A1 : Option Addr) (c1 : Nat) (by_ : List Int) (depth : Int) (x : S29) (cs : List Value) (W : World) (hx : k29.K W x cs)
    (h1 : W.cell? ⟨b1, 0, none⟩ = some (.slice A1 by_.length c1)) (h2 : W.cell? ⟨b2, 0, none⟩ = some (.int .i64 depth)) (hr : Kd.C (Kd.int .i64) W A1 by_.length by_) (hc : by_.length ≤ c1) :
    Calls Try.prog 32 #[.agg cs.toArray, .pointer (some ⟨b1, 0, none⟩), .pointer (some ⟨b2, 0, none⟩)] W fun e w' => e = .returned (.bool (prunedL x.f0 by_ depth)) ∧ Below W.heap.size W w' := by
  obtain ⟨A0, c0, A2, c2, rfl, l0, g0, l2, g2⟩ := k29_open hx
  have HG := Aside0.mk g0
  have HR := Aside0.mk hr
  clear hx g0 g2 hr
  go_enter Try.func32, Try.ntmps32
  go_wp2_with (first
    | ((with_reducible refine gate_dst (N := 3) rfl ?_); refine box_event ?hg (N := 3) ?hd (cs := #[.slice A0 x.f0.length c0, .int .i64 x.f1.f0, .slice A2 x.f1.f1.length c2, .int .i64 x.f1.f2]) (t := 29) ?hr ?_; (case hd => rfl); (case hg => rfl); (case hr => first | (go_simp; done) | (go_simp; rfl)); intro gb hgb w1 hbox hb; have k0 : w1.cell? ⟨gb, 0, none⟩ = some (.slice A0 x.f0.length c0) := (blk_cell hbox 0).trans rfl; have k1 := pw_cell_below hb h1; have k2 := pw_cell_below hb h2; have HB1 := Aside0.mk hb; clear hb hbox hgb h1 h2)
    | (go_at_call 33; refine (label_PrunedW.calls _ _ _ _ _ _ _ _ _ ?q1 l0 ?q2 hc rfl).mono ?_; (case q1 => exact Kd.C_below HG.out HB1.out); (case q2 => exact Kd.C_below HR.out HB1.out); rintro e w' ⟨rfl, hb⟩; have HB := Aside0.mk hb; clear hb))
  go_ret
  exact ⟨rfl, below_step HB1.out HB.out⟩

/-- The first place of which p holds. -/
def firstAt {α : Type} (p : α → Bool) : List α → Option Nat
  | [] => none
  | x :: xs => if p x then some 0 else (firstAt p xs).map (· + 1)
theorem firstAt_some {α : Type} (p : α → Bool) (z : α) : ∀ (l : List α) (k : Nat), k < l.length → (∀ j, j < k → p (l.getD j z) = false) → p (l.getD k z) = true → firstAt p l = some k
  | [], k, h, _, _ => by simp at h
  | x :: xs, 0, _, _, h => by simp at h; simp [firstAt, h]
  | x :: xs, k + 1, h1, h2, h3 => by
    have h0 := h2 0 (by omega)
    simp at h0
    simp only [firstAt, h0, Bool.false_eq_true, if_false]
    rw [firstAt_some p z xs k (by simpa using h1) (fun j hj => by have := h2 (j + 1) (by omega); simpa using this) (by simpa using h3)]
    rfl
theorem firstAt_none {α : Type} (p : α → Bool) (z : α) : ∀ (l : List α), (∀ j, j < l.length → p (l.getD j z) = false) → firstAt p l = none
  | [], _ => rfl
  | x :: xs, h => by
    have h0 := h 0 (by simp)
    simp at h0
    simp only [firstAt, h0, Bool.false_eq_true, if_false]
    rw [firstAt_none p z xs (fun j hj => by have := h (j + 1) (by simpa using hj); simpa using this)]
    rfl
def atOr (o : Option Nat) : Int := match o with | some k => k | none => -1

set_option maxHeartbeats 2000000 in
set_option maxRecDepth 100000 in
/-- slices.IndexFunc, the predicate met by a contract. -/
theorem index_drop (b1 b2 : Nat) (p : S29 → Bool) (A : Option Addr) (c : Nat) (l : List S29) (w : World) (hl : Kd.C k29 w A l.length l)
    (hP : ∀ W x cs, Below w.heap.size w W → k29.K W x cs → Calls Try.prog 32 #[.agg cs.toArray, .pointer (some ⟨b1, 0, none⟩), .pointer (some ⟨b2, 0, none⟩)] W fun e w' => e = .returned (.bool (p x)) ∧ Below W.heap.size W w') :
    Calls Try.prog 41 #[.slice A l.length c, .func (.func 32) #[] #[.pointer (some ⟨b1, 0, none⟩), .pointer (some ⟨b2, 0, none⟩)]] w fun e w' =>
      e = .returned (.int .i64 (atOr (firstAt p l))) ∧ Below w.heap.size w w' := by
  have HL := Aside0.mk hl
  have HP := Aside0.mk hP
  have hm : l.length ≤ 9223372036854775807 := hl.2.1
  clear hl hP
  have hu := Try.underlying29
  go_enter Try.func41, Try.ntmps41
  go_wp2
  go_loopw [8] (fun v8 wr => ∃ i : Int, v8 = .int .i64 i ∧ 0 ≤ i ∧ i ≤ l.length ∧ Aside0 (∀ j : Nat, (j : Int) < i → p (l.getD j z29) = false) ∧ Aside0 (Below w.heap.size w wr)) (fun v8 _ => l.length - (intOf v8).toNat)
  case atStart => exact ⟨0, rfl, Int.le_refl _, by omega, ⟨fun j hj => by omega⟩, ⟨Below.refl _ _⟩⟩
  case round =>
    obtain ⟨i, rfl, h0, hk, HF, HB⟩ := hrel
    by_cases hlt : i < l.length
    · obtain ⟨ad, A0, c0, A2, c2, rfl, x0, x1, x2, x3, l0, g0, l2, g2⟩ := at_T29 (Kd.C_below HL.out HB.out) i h0 hlt
      have HK := Aside0.mk (k29_mk wr (rd_T29 l i) l0 g0 l2 g2)
      clear l0 g0 l2 g2
      go_wp2_with fail
      refine (HP.out wr (rd_T29 l i) _ HB.out HK.out).mono ?_
      rintro e w' ⟨rfl, hb⟩
      have HB2 := Aside0.mk (below_step HB.out hb)
      clear hb
      cases hp : p (rd_T29 l i) with
      | true =>
        have HR := Aside0.mk (firstAt_some p z29 l i.toNat (by omega) (fun j hj => HF.out j (by omega)) hp)
        clear hp
        go_wp2
        go_ret
        exact ⟨by rw [HR.out]; simp [atOr]; omega, HB2.out⟩
      | false =>
        have HR := Aside0.mk hp
        clear hp
        go_wp2
        go_roundw
        case rel => exact ⟨i + 1, rfl, by omega, by omega, ⟨fun j hj => by
          by_cases hji : (j : Int) < i
          · exact HF.out j hji
          · obtain rfl : j = i.toNat := by omega
            exact HR.out⟩, HB2⟩
        case measure => simp [intOf]; omega
    · go_wp2
      go_ret
      exact ⟨by rw [firstAt_none p z29 l (fun j hj => HF.out j (by omega))]; rfl, HB.out⟩
/-- What is kept so far, and what has not been looked at. -/
def keptL {α : Type} (p : α → Bool) (l : List α) (j : Nat) : List α := (l.take j).filter (fun x => !p x)
theorem keptL_len {α : Type} (p : α → Bool) (l : List α) (j : Nat) : (keptL p l j).length ≤ j ∧ (keptL p l j).length ≤ l.length := by
  have h := List.length_filter_le (fun x => !p x) (l.take j)
  rw [List.length_take] at h
  unfold keptL
  omega
theorem keptL_snoc {α : Type} (p : α → Bool) (l : List α) (j : Nat) (h : j < l.length) : keptL p l (j + 1) = keptL p l j ++ (if p l[j] then [] else [l[j]]) := by
  unfold keptL
  rw [List.take_succ_eq_append_getElem h, List.filter_append]
  cases hh : p l[j] <;> simp [hh]
theorem keptL_at {α : Type} (p : α → Bool) (l : List α) (j i : Nat) (h : j < l.length) (hi : (keptL p l j).length = i) : (keptL p l j ++ l.drop i)[j]? = some l[j] := by
  have := keptL_len p l j
  rw [List.getElem?_append_right (by omega), List.getElem?_drop, hi, show i + (j - i) = j by omega, List.getElem?_eq_getElem h]
theorem keptL_set {α : Type} (p : α → Bool) (l : List α) (j i : Nat) (h : j < l.length) (hi : (keptL p l j).length = i) (hp : p l[j] = false) : (keptL p l j ++ l.drop i).set i l[j] = keptL p l (j + 1) ++ l.drop (i + 1) := by
  have := keptL_len p l j
  rw [keptL_snoc p l j h, hp, List.set_append_right _ _ (by omega), hi, Nat.sub_self, List.drop_eq_getElem_cons (show i < l.length by omega), List.set_cons_zero]
  simp
theorem keptL_first {α : Type} (p : α → Bool) (z : α) (l : List α) (k : Nat) (hk : k < l.length) (h : ∀ j, j < k → p (l.getD j z) = false) (h2 : p l[k] = true) : keptL p l (k + 1) = l.take k := by
  rw [keptL_snoc p l k hk, h2]
  unfold keptL
  simp only [if_true, List.append_nil]
  rw [List.filter_eq_self.2]
  intro x hx
  obtain ⟨j, hj, rfl⟩ := List.mem_iff_getElem.1 hx
  rw [List.length_take] at hj
  have h3 := h j (by omega)
  rw [List.getD_eq_getElem?_getD, List.getElem?_eq_getElem (by omega)] at h3
  simp only [List.getElem_take]
  simpa using h3
theorem firstAt_eq {α : Type} (p : α → Bool) (z : α) : ∀ (l : List α), match firstAt p l with
    | none => l.filter (fun x => !p x) = l
    | some k => k < l.length ∧ p (l.getD k z) = true ∧ ∀ j, j < k → p (l.getD j z) = false
  | [] => rfl
  | x :: xs => by
    have ih := firstAt_eq p z xs
    simp only [firstAt]
    cases hx : p x with
    | true => simp [hx]
    | false =>
      simp only [Bool.false_eq_true, if_false]
      cases hf : firstAt p xs with
      | none => rw [hf] at ih; simp [hx, ih]
      | some k =>
        rw [hf] at ih
        obtain ⟨h1, h2, h3⟩ := ih
        refine ⟨by simp; omega, by simpa using h2, fun j hj => ?_⟩
        cases j with
        | zero => simpa using hx
        | succ j =>
          have hj' : j + 1 < k + 1 := hj
          simpa using h3 j (by omega)

set_option maxHeartbeats 4000000 in
set_option maxRecDepth 100000 in
/-- slices.DeleteFunc on a row of one's own, the predicate met by a contract. -/
theorem delete_drop (b1 b2 : Nat) (p : S29 → Bool) (base : Nat) (ok : Nat → Prop) (vs : Value) (l : List S29) (w0 w : World) (hN : Kd.N k29 29 w base ok vs l) (hB : Below base w0 w) (hbase : base ≤ w.heap.size)
    (hP : ∀ W x cs, Kept w W (fun k => vs.ownBlock = some k) → k29.K W x cs → Calls Try.prog 32 #[.agg cs.toArray, .pointer (some ⟨b1, 0, none⟩), .pointer (some ⟨b2, 0, none⟩)] W fun e w' => e = .returned (.bool (p x)) ∧ Below W.heap.size W w') :
    Calls Try.prog 30 #[vs, .func (.func 32) #[] #[.pointer (some ⟨b1, 0, none⟩), .pointer (some ⟨b2, 0, none⟩)]] w fun e w' =>
      ∃ v', e = .returned v' ∧ Kd.N k29 29 w' base ok v' (l.filter (fun x => !p x)) ∧ Below base w0 w' := by
  obtain ⟨A, c, rfl⟩ := Kd.N_slice hN
  have HN := Aside0.mk hN
  have HP := Aside0.mk hP
  have HB := Aside0.mk hB
  have hm : l.length ≤ 9223372036854775807 := (Kd.N_reads' hN).2.2.2.1
  clear hN hP hB
  have HF := Aside0.mk (firstAt_eq p z29 l)
  have hu := Try.underlying29
  go_enter Try.func30, Try.ntmps30
  go_wp2_with fail
  refine (index_drop b1 b2 p A c l w (Kd.N_reads' HN.out).2.2 (fun W x cs hb hK => HP.out W x cs (Kept.of_below hb _) hK)).mono ?_
  rintro e w1 ⟨rfl, hb⟩
  have HB1 := Aside0.mk hb
  clear hb
  cases hf : firstAt p l with
  | none =>
    have h2 := HF.out
    rw [hf] at h2
    have H2 := Aside0.mk h2
    clear hf h2
    simp only [atOr]
    go_wp2
    go_ret
    refine ⟨_, rfl, ?_, ?_⟩
    · rw [H2.out]; exact Kd.N_below HN.out HB1.out
    · exact below_then HB.out hbase HB1.out
  | some k =>
    have h2 := HF.out
    rw [hf] at h2
    obtain ⟨hk, hp, hq⟩ := h2
    clear hf
    have H3 := Aside0.mk hp
    have H4 := Aside0.mk hq
    clear hp hq
    simp only [atOr]
    cases A with
    | none => exact absurd hk (by rw [nil_of_reads (Kd.N_reads' HN.out).2.2]; simp)
    | some ad =>
    obtain ⟨g, cap, he, hbg, _⟩ := Kd.N_form HN.out (by omega)
    injection he with he1 _ he3
    injection he1 with he1
    subst he1; subst he3
    have hnc : l.length ≤ c := (Kd.N_reads' HN.out).2.1
    have HA := Aside0.mk hbase
    clear hbase
    go_wp2
    go_loopw [5, 6] (fun v5 v6 wr => ∃ i j : Int, v5 = .int .i64 i ∧ v6 = .int .i64 j ∧ 0 ≤ i ∧ i < j ∧ j ≤ l.length ∧ Aside0 (((keptL p l j.toNat).length : Int) = i) ∧
      Aside0 (Kd.N k29 29 wr base ok (.slice (some ⟨g, 0, none⟩) l.length c) (keptL p l j.toNat ++ l.drop i.toNat)) ∧ Aside0 (Below base w0 wr) ∧ Aside0 (Kept w wr (fun k => (Value.slice (some ⟨g, 0, none⟩) l.length c).ownBlock = some k)) ∧ Aside0 (base ≤ wr.heap.size))
      (fun _ v6 _ => l.length - (intOf v6).toNat)
    case atStart =>
      have hkt : keptL p l (k + 1) = l.take k := keptL_first p z29 l k hk H4.out (by have := H3.out; rwa [List.getD_eq_getElem?_getD, List.getElem?_eq_getElem hk] at this)
      refine ⟨k, (k : Int) + 1, rfl, by go_num, by omega, by omega, by omega, ⟨?_⟩, ⟨?_⟩, ⟨below_then HB.out HA.out HB1.out⟩, ⟨Kept.of_below HB1.out _⟩, ⟨Nat.le_trans HA.out HB1.out.size⟩⟩
      · rw [show ((k : Int) + 1).toNat = k + 1 by omega, hkt, List.length_take]; omega
      · rw [show ((k : Int) + 1).toNat = k + 1 by omega, hkt, Int.toNat_natCast, List.take_append_drop]
        exact Kd.N_below HN.out HB1.out
    case round =>
      obtain ⟨i, j, rfl, rfl, h0, hij, hj, HI, HN2, HB2, HK2, HA2⟩ := hrel
      by_cases hlt : j < l.length
      · have hjl : j.toNat < l.length := by omega
        obtain ⟨cs, hcl, hFK, hcc, hfz⟩ := Kd.N_elem HN2.out z29 j (by omega) hlt
        have hel : (keptL p l j.toNat ++ l.drop i.toNat).getD j.toNat z29 = l[j.toNat] := by
          rw [List.getD_eq_getElem?_getD, keptL_at p l j.toNat i.toNat hjl (by have := HI.out; omega)]; rfl
        rw [hel] at hFK
        obtain ⟨x, hx⟩ : ∃ x, l[j.toNat] = x := ⟨_, rfl⟩
        rw [hx] at hFK
        have HX := Aside0.mk hx
        clear hx hel
        obtain ⟨A0, c0, A2, c2, rfl, l0, g0, l2, g2⟩ := k29_openF hFK
        have HFK := Aside0.mk hFK
        have x0 : wr.cell? ⟨g, j.toNat * 4, none⟩ = _ := hcc 0 _ rfl
        have x1 : wr.cell? ⟨g, j.toNat * 4 + 1, none⟩ = _ := hcc 1 _ rfl
        have x2 : wr.cell? ⟨g, j.toNat * 4 + 2, none⟩ = _ := hcc 2 _ rfl
        have x3 : wr.cell? ⟨g, j.toNat * 4 + 3, none⟩ = _ := hcc 3 _ rfl
        have HCC := Aside0.mk hcc
        clear hcc hfz hFK l0 g0 l2 g2 hcl
        go_wp2_with fail
        refine (HP.out (wr.alloc _) x _ (Kept.alloc HK2.out _) (Kd.FK_now (Kd.FK_below HFK.out (below_alloc (Below.refl _ _) _)))).mono ?_
        rintro e w2 ⟨rfl, hb⟩
        have HB3 := Aside0.mk (below_step (below_alloc (Below.refl wr.heap.size wr) _) hb)
        have k0 := pw_cell_below hb (blk_cell (blk_new wr _) 0)
        have k1 := pw_cell_below hb (blk_cell (blk_new wr _) 1)
        have k2 := pw_cell_below hb (blk_cell (blk_new wr _) 2)
        have k3 := pw_cell_below hb (blk_cell (blk_new wr _) 3)
        clear hb x0 x1 x2 x3
        obtain ⟨gv, hgv⟩ : ∃ gv, gv = wr.heap.size := ⟨_, rfl⟩
        rw [← hgv] at k0 k1 k2 k3 ⊢
        clear hgv
        have HN3 := Aside0.mk (Kd.N_below HN2.out HB3.out)
        have HFK3 := Aside0.mk (Kd.FK_below HFK.out HB3.out)
        have HB4 := Aside0.mk (below_then HB2.out HA2.out HB3.out)
        have HK4 := Aside0.mk (Kept.below HK2.out HB3.out)
        have HA4 := Aside0.mk (Nat.le_trans HA2.out HB3.out.size)
        clear HN2 HFK HB2 HK2 HA2 HB3 HCC
        cases hp : p x with
        | true =>
          have HR := Aside0.mk hp
          clear hp
          go_wp2
          go_roundw
          case rel =>
            have e1 : (j + 1).toNat = j.toNat + 1 := by omega
            have e2 : keptL p l (j.toNat + 1) = keptL p l j.toNat := by rw [keptL_snoc p l j.toNat hjl, HX.out, HR.out]; simp
            exact ⟨i, j + 1, rfl, rfl, h0, by omega, by omega, ⟨by rw [e1, e2]; exact HI.out⟩, ⟨by rw [e1, e2]; exact HN3.out⟩, HB4, HK4, HA4⟩
          case measure => simp [intOf]; omega
        | false =>
          have HR := Aside0.mk hp
          clear hp
          obtain ⟨ci, hci, _, hcc, _⟩ := Kd.N_elem HN3.out z29 i h0 (by omega)
          have HC := Aside0.mk hcc
          have HCL := Aside0.mk hci
          clear hcc hci
          go_wp2_with ((with_reducible refine gate_store (t := 29) (p := 33) rfl ?_); go_must (refine Kd.N_store k29 (w0 := w0) base rfl rfl 29 (.tmp 33) (.tmp 32) rfl 29 (o' := i.toNat * 4) i 0 (keptL p l j.toNat ++ l.drop i.toNat) x (.agg #[.slice A0 x.f0.length c0, .int .i64 x.f1.f0, .slice A2 x.f1.f1.length c2, .int .i64 x.f1.f2]) [.slice A0 x.f0.length c0, .int .i64 x.f1.f0, .slice A2 x.f1.f1.length c2, .int .i64 x.f1.f2] ci ok (fun k => ok k ∧ k ≠ g) ?s1 ?s2 ?s3 ?s4 ?s5 ?s6 HN3.out h0 ?s7 HCL.out HC.out ?s8 ?s9 (fun _ hk => hk) HB4.out ?_; (case s1 => rfl); (case s2 => rfl); (case s3 => rfl); (case s4 => rfl); (case s5 => exact (show Option.map (fun x => x.size) (Try.prog.info? 29) = some 4 from by kernel_rfl)); (case s6 => exact k29.K_one (Kd.FK_now HFK3.out)); (case s7 => omega); (case s8 => exact (Nat.le_refl 4)); (case s9 => have hd_ : List.drop 4 ci = [] := List.drop_of_length_le (Nat.le_of_eq HCL.out); simp only [List.take_zero, List.nil_append, List.length_cons, List.length_nil, Nat.zero_add, Nat.reduceAdd, hd_, List.append_nil]; exact HFK3.out); intro w3 hN hb hg; have HN4 := Aside0.mk hN; have HB5 := Aside0.mk hb; have HG := Aside0.mk hg; clear hN hb hg))
          go_roundw
          case rel =>
            have e1 : (j + 1).toNat = j.toNat + 1 := by omega
            have e3 : (i + 1).toNat = i.toNat + 1 := by omega
            have hlen : (keptL p l j.toNat).length = i.toNat := by have := HI.out; omega
            have e2 := keptL_set p l j.toNat i.toNat hjl hlen (by rw [HX.out]; exact HR.out)
            rw [HX.out] at e2
            have e4 : (keptL p l (j.toNat + 1)).length = (keptL p l j.toNat).length + 1 := by rw [keptL_snoc p l j.toNat hjl, HX.out, HR.out]; simp
            exact ⟨i + 1, j + 1, rfl, rfl, by omega, by omega, by omega, ⟨by rw [e1, e4, hlen]; omega⟩, ⟨by rw [e1, e3, ← e2]; exact HN4.out⟩, HB5, ⟨Kept.of_grown HG.out HK4.out (fun k hk => .inl hk)⟩, ⟨Nat.le_trans HA4.out HG.out.size⟩⟩
          case measure => simp [intOf]; omega
      · obtain rfl : j = l.length := by omega
        have hfin : keptL p l ((l.length : Int).toNat) = l.filter (fun x => !p x) := by rw [Int.toNat_natCast]; unfold keptL; rw [List.take_length]
        obtain ⟨cur, hblk, hcl, hnc2, hcm, _, hokg, _, hfk⟩ := N_cells HN2.out
        have hlen : (l.filter (fun x => !p x)).length = i.toNat := by have := HI.out; rw [hfin] at this; omega
        have hsz : k29.sz = 4 := rfl
        rw [hsz] at hcl hfk
        have hcs : ∀ q, q < (l.length - i.toNat) * 4 → (wr.cell? ⟨g, i.toNat * 4 + q, none⟩).isSome = true := by
          intro q hq
          rw [cell_of_row wr g _ cur.toArray 29 (0, 0) hblk]
          simp only [List.getElem?_toArray]
          rw [List.getElem?_eq_getElem (by omega)]; rfl
        have HCLR : Aside0 (∀ ty n c2, n = l.length - i.toNat → (Builtin.clear_ #[22] ty #[.slice (some ⟨g, i.toNat * 4, none⟩) n c2]).run Try.prog wr = .ok (.tuple #[]) (wr.setCells g (i.toNat * 4) (Builtin.zeroCells #[.slice none 0 0, .int .i64 0, .slice none 0 0, .int .i64 0] n).toList)) := by
          refine ⟨fun ty n c2 hn => ?_⟩
          subst hn
          exact run_clearN wr 22 29 ty (.agg #[.slice none 0 0, .int .i64 0, .slice none 0 0, .int .i64 0]) Try.underlying22 (fun W => by kernel_rfl) (by intro u hu; have hu2 : u ∈ [Value.slice none 0 0, .int .i64 0, .slice none 0 0, .int .i64 0] := hu; simp only [List.mem_cons, List.not_mem_nil, or_false] at hu2; rcases hu2 with rfl | rfl | rfl | rfl <;> rfl) g (i.toNat * 4) (l.length - i.toNat) c2 (by simpa [Value.cells] using hcs) (fun q _ => blk_frozen hblk _)
        have HBK := Aside0.mk hblk
        have HFK := Aside0.mk hfk
        have HCM := Aside0.mk hcm
        have HCL := Aside0.mk hcl
        have HFI := Aside0.mk hfin
        have HLE := Aside0.mk hlen
        clear hblk hfk hcs hcm hcl hfin hlen hsz
        go_wp2_with ((with_reducible refine gate_builtin (b := .clear) (xs := #[.tmp 38]) rfl ?_); go_must (refine wpList_clear_eq rfl (.tmp 38) 22 rfl _ rfl (HCLR.out _ _ _ (by omega)) ?_))
        go_ret
        have hzl : (Builtin.zeroCells #[Value.slice none 0 0, .int .i64 0, .slice none 0 0, .int .i64 0] (l.length - i.toNat)).toList.length = (l.length - i.toNat) * 4 := by rw [Array.length_toList, size_zeroCells]; rfl
        have hcut := N_cut HN2.out (m := i.toNat) (by omega) (Builtin.zeroCells #[Value.slice none 0 0, .int .i64 0, .slice none 0 0, .int .i64 0] (l.length - i.toNat)).toList (by rw [hzl]; show i.toNat * 4 + _ ≤ c * 4; omega)
        rw [HFI.out, ← HLE.out, List.take_left'  rfl] at hcut
        refine ⟨_, rfl, ?_, ?_⟩
        · rw [HLE.out] at hcut
          exact hcut
        · exact below_setCells HB2.out hbg _ _

def log_Drop.f (l0 : List S29) (l1 : List Int) (a2 : Int) : Option (List S29) := if l0.length ≤ 1000000000 then some (l0.filter (fun x => !prunedL x.f0 l1 a2)) else none
set_option maxHeartbeats 2000000 in
set_option maxRecDepth 100000 in
theorem log_Drop.calls (P0_ : Nat → Prop) (A0 : Option Addr) (c0 : Nat) (l0 : List S29) (A1 : Option Addr) (c1 : Nat) (l1 : List Int) (a2 : Int) (r : List S29) (w : World) (hs0 : Kd.V k29 29 w w.heap.size (fun k_ => P0_ k_) (.slice A0 l0.length c0) l0) (hr1 : Kd.C (Kd.int .i64) w A1 l1.length l1) (hc1 : l1.length ≤ c1) (h : log_Drop.f l0 l1 a2 = some r) :
    Calls Try.prog 10 #[.slice A0 l0.length c0, .slice A1 l1.length c1, .int .i64 a2] w fun e w' => ∃ v0_ : Value, e = .returned (v0_) ∧ Kd.N k29 29 w' w.heap.size (fun k_ => (P0_ k_ ∨ w.heap.size ≤ k_)) v0_ r ∧ Below w.heap.size w w' := by
  unfold log_Drop.f at h
  split at h
  · rename_i hlen
    injection h with h
    have HR := Aside0.mk h
    have HS := Aside0.mk hs0
    have HC := Aside0.mk hr1
    have HL := Aside0.mk hlen
    clear h hs0 hr1 hlen
    go_enter Try.func10, Try.ntmps10
    go_wp2_with (first
      | ((with_reducible refine gate_dst (N := 4) rfl ?_); refine box_event ?hg (N := 4) ?hd (cs := #[.slice A1 l1.length c1]) (t := 23) ?hr ?_; (case hd => rfl); (case hg => rfl); (case hr => first | (go_simp; done) | (go_simp; rfl)); intro b1 hgb w1 hbox hb; have H1 := Aside0.mk hb; have X1 := Aside0.mk hbox; clear hb hbox hgb)
      | ((with_reducible refine gate_dst (N := 5) rfl ?_); refine box_event ?hg (N := 5) ?hd (cs := #[.int .i64 a2]) (t := 3) ?hr ?_; (case hd => rfl); (case hg => rfl); (case hr => first | (go_simp; done) | (go_simp; rfl)); intro b2 hgb w2 hbox hb; have H2 := Aside0.mk (below_step H1.out hb); have X2 := Aside0.mk hbox; have X3 := Aside0.mk (pw_cell_below hb (blk_cell X1.out 0)); clear hb hbox hgb X1 H1)
      | fail)
    refine (clone_entry P0_ A0 c0 l0 w2 (Kd.V_below HS.out H2.out) HL.out).mono ?_
    rintro e w3 ⟨v, rfl, hN, hb⟩
    have HN := Aside0.mk hN
    have H3 := Aside0.mk (below_step H2.out hb)
    have H4 := Aside0.mk hb
    clear hN hb
    go_wp2_with fail
    have hnew : ∀ k, v.ownBlock = some k → w2.heap.size ≤ k := Kd.N_base HN.out
    have hb1 : b1 < w2.heap.size := World.block_lt_of_cell? w2 ⟨b1, 0, none⟩ X3.out
    have hb2 : b2 < w2.heap.size := blk_lt X2.out
    have HF := Aside0.mk (Kd.F_below (Kd.C_F (Kd.heap_int .i64) HC.out) (below_step H2.out H4.out))
    have hws : w.heap.size ≤ w2.heap.size := H2.out.size
    refine (delete_drop b1 b2 (fun x => prunedL x.f0 l1 a2) w2.heap.size (fun k => P0_ k ∨ w2.heap.size ≤ k) v l0 w2 w3 HN.out H4.out H4.out.size (fun W x cs hk hK => ?_)).mono ?_
    · refine drop_pred b1 b2 A1 c1 l1 a2 x cs W hK (cell_kept (pw_cell_below H4.out X3.out) hk (fun he => by have := hnew _ he; simp at this; omega)) (cell_kept (pw_cell_below H4.out ((blk_cell X2.out 0).trans rfl)) hk (fun he => by have := hnew _ he; simp at this; omega)) ?_ hc1
      exact Kd.F_now (Kd.F_kept HF.out hk (fun k hkk he => by have := hnew _ he; omega))
    · rintro e w4 ⟨v2, rfl, hN, hb⟩
      have HN2 := Aside0.mk hN
      have H5 := Aside0.mk (below_step H2.out hb)
      clear hN hb
      go_wp2
      go_ret
      refine ⟨_, rfl, ?_, H5.out⟩
      rw [← HR.out]
      exact Kd.N_lower (Kd.N_mono HN2.out (fun k hk => hk.imp (fun h => h) (fun h => by omega))) hws
  · cases h
end Go.Proofs.Ytlapiebnmbbemaa.A
