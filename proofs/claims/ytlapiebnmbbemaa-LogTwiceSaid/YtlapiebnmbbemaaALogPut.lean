/- The contract of log.Put, in the print's words: an entry laid down. -/
import Derived.Test.YtlapiebnmbbemaaALogSearch
import Derived.Test.YtlapiebnmbbemaaALogClone
import Derived.Test.YtlapiebnmbbemaaACells
import Derived.Test.YtlapiebnmbbemaaAInsertEntry
import Derived.Deep.RegionWith
import Derived.Deep.DeepCutAuto
import Derived.Deep.CutBlock
namespace Go.Proofs.Ytlapiebnmbbemaa.A
open Go.RowKit Go.Proofs.YtlapiebnmbbemaaW.PrintWords Go.Proofs.YtlapiebnmbbemaaW.PrintLast Go.Proofs.YtlapiebnmbbemaaW.PrintMore

/-- Where Put lays an entry. -/
def putAt (l : List S29) (lab : List Int) : Nat := searchF (fun h => decide (cmpL (l.getD h z29).f0 lab ≥ 0)) l.length 0 l.length
theorem putAt_le (l : List S29) (lab : List Int) : putAt l lab ≤ l.length := (searchF_spec _ l.length 0 l.length (by omega) (by omega)).2.1
def log_Put.f (l0 : List S29) (l1_0 : List Int) (a1_1 : Int) (l1_2 : List S47) (a1_3 : Int) : Option (List S29 × Int) :=
  if l0.length ≤ 1000000000 then (if putAt l0 l1_0 < l0.length ∧ cmpL (l0.getD (putAt l0 l1_0) z29).f0 l1_0 = 0 then some ([], 1) else some (l0.take (putAt l0 l1_0) ++ ⟨l1_0, ⟨a1_1, l1_2, a1_3⟩⟩ :: l0.drop (putAt l0 l1_0), 0)) else none

theorem ne_lt {v : Value} {n : Nat} (h : ∀ k, v.ownBlock = some k → k < n) : v.ownBlock ≠ some n := fun e => by have := h n e; omega
theorem ne_base {v : Value} {w : World} {o : Obj} (h : ∀ k, v.ownBlock = some k → (w.alloc o).heap.size ≤ k) : v.ownBlock ≠ some w.heap.size := fun e => by
  have := h _ e
  rw [World.alloc, Array.size_push] at this
  omega

theorem insert_put (P0 P1 : Nat → Prop) (base : Nat) (w W : World) (v : Value) (l0 : List S29) (gv : Nat) (x : S29) (cs : List Value) (i : Nat)
    (hN : Kd.N k29 29 W base (fun k => P0 k ∨ base ≤ k) v l0) (hwb : w.heap.size ≤ base) (hbw : Below w.heap.size w W) (hblk : W.heap[gv]? = some (.cells cs.toArray 29 (0, 0)))
    (hx : Kd.FK k29 W (fun k => P1 k ∧ k < w.heap.size) x cs) (hne : v.ownBlock ≠ some gv) (hgv : w.heap.size ≤ gv) (hl : l0.length ≤ 1000000000) (hi : i ≤ l0.length) :
    Calls Try.prog 38 #[v, .int .i64 i, .slice (some ⟨gv, 0, none⟩) 1 1] W fun e w' =>
      ∃ v', e = .returned v' ∧ Kd.N k29 29 w' w.heap.size (fun k => (P0 k ∨ P1 k) ∨ w.heap.size ≤ k) v' (l0.take i ++ x :: l0.drop i) ∧ Below w.heap.size w w' := by
  have hnb := Kd.N_base hN
  refine insert_any w.heap.size (fun k => (P0 k ∨ P1 k) ∨ w.heap.size ≤ k) (fun k => (P1 k ∧ k < w.heap.size) ∨ k = gv) v l0 gv x i w W
    (Kd.N_lower (Kd.N_mono hN (fun k hk => hk.elim (fun h => .inl (.inl h)) (fun h => .inr (by omega)))) hwb) hbw hbw.size (fun k hk => .inr (by have := hbw.size; omega)) ?_ (fun k hk => ?_) ⟨_, hblk⟩ hl hi
  · intro W' hW
    refine ⟨rfl, by omega, fun _ => ⟨_, rfl, fun j p hj => ?_⟩⟩
    cases j with
    | succ j => simp at hj
    | zero =>
      simp only [List.getElem?_cons_zero, Option.some.injEq] at hj
      subst hj
      have hg : W'.heap[gv]? = some (.cells cs.toArray 29 (0, 0)) := (hW gv (.inr rfl) (blk_lt hblk)).trans hblk
      refine ⟨cs, k29.K_len (Kd.FK_now hx), hx W' (fun k hk hlt => hW k (.inl hk) hlt), fun q u hq => ?_⟩
      rw [Nat.zero_mul, Nat.zero_add, add_plain, cell_of_row W' gv _ cs.toArray 29 (0, 0) hg]
      simpa using hq
  · rcases hk with hk | rfl
    · exact ⟨.inl (.inr hk.1), fun e => by have := hnb k e.symm; have := hk.2; omega⟩
    · exact ⟨.inr hgv, fun e => hne e.symm⟩

set_option maxHeartbeats 4000000 in
set_option maxRecDepth 100000 in
theorem log_Put.calls (P0_ : Nat → Prop) (A0 : Option Addr) (c0 : Nat) (l0 : List S29) (P1_0_ : Nat → Prop) (A1_0 : Option Addr) (c1_0 : Nat) (l1_0 : List Int) (a1_1 : Int) (P1_2_ : Nat → Prop) (A1_2 : Option Addr) (c1_2 : Nat) (l1_2 : List S47) (a1_3 : Int) (r1 : List S29) (r2 : Int) (w : World) (hs0 : Kd.V k29 29 w w.heap.size (fun k_ => P0_ k_) (.slice A0 l0.length c0) l0) (hs1_0 : Kd.V (Kd.int .i64) 3 w w.heap.size (fun k_ => P1_0_ k_) (.slice A1_0 l1_0.length c1_0) l1_0) (hs1_2 : Kd.V k47 47 w w.heap.size (fun k_ => P1_2_ k_) (.slice A1_2 l1_2.length c1_2) l1_2) (h : log_Put.f l0 l1_0 a1_1 l1_2 a1_3 = some (r1, r2)) :
    Calls Try.prog 12 #[.slice A0 l0.length c0, .agg #[.slice A1_0 l1_0.length c1_0, .int .i64 a1_1, .slice A1_2 l1_2.length c1_2, .int .i64 a1_3]] w fun e w' => ∃ v0_ : Value, e = .returned (.tuple #[v0_, .int .i64 r2]) ∧ Kd.N k29 29 w' w.heap.size (fun k_ => ((P0_ k_ ∨ P1_0_ k_ ∨ P1_2_ k_) ∨ w.heap.size ≤ k_)) v0_ r1 ∧ Below w.heap.size w w' := by
  unfold log_Put.f at h
  split at h
  · rename_i hlen
    have HR := Aside0.mk h
    have HS := Aside0.mk hs0
    have HX := Aside0.mk (k29_mkF w (fun k_ => P1_0_ k_ ∨ P1_2_ k_) ⟨l1_0, ⟨a1_1, l1_2, a1_3⟩⟩ (Kd.V_reads' hs1_0).2.1 (Kd.F_mono (Kd.V_F hs1_0) (fun _ h => .inl h)) (Kd.V_reads' hs1_2).2.1 (Kd.F_mono (Kd.V_F hs1_2) (fun _ h => .inr h)))
    have HL := Aside0.mk hlen
    have HC1 := Aside0.mk (Kd.V_reads' hs1_0).2.1
    have HC0 := Aside0.mk (Kd.V_reads' hs1_0).2.2
    clear h hs0 hs1_0 hs1_2 hlen
    go_enter Try.func12, Try.ntmps12
    go_wp2_with (first
      | ((with_reducible refine gate_dst (N := 2) rfl ?_); refine box_event ?hg (N := 2) ?hd (cs := #[.slice A0 l0.length c0]) (t := 22) ?hr ?_; (case hd => rfl); (case hg => rfl); (case hr => first | (go_simp; done) | (go_simp; rfl)); intro b1 hgb w1 hbox hb; have H1 := Aside0.mk hb; have X1 := Aside0.mk hbox; clear hb hbox hgb)
      | ((with_reducible refine gate_dst (N := 3) rfl ?_); refine box_event ?hg (N := 3) ?hd (cs := #[.slice A1_0 l1_0.length c1_0, .int .i64 a1_1, .slice A1_2 l1_2.length c1_2, .int .i64 a1_3]) (t := 29) ?hr ?_; (case hd => rfl); (case hg => rfl); (case hr => first | (go_simp; done) | (go_simp; rfl)); intro b2 hgb w2 hbox hb; have H2 := Aside0.mk (below_step H1.out hb); have X2 := Aside0.mk hbox; have k1 := pw_cell_below hb ((blk_cell X1.out 0).trans rfl); clear hb hbox hgb X1 H1)
      | fail)
    have HS2 := Aside0.mk (Kd.V_below HS.out H2.out)
    have HX2 := Aside0.mk (Kd.FK_below HX.out H2.out)
    clear HS
    refine (search_put b1 b2 (fun h => decide (cmpL (l0.getD h z29).f0 l1_0 ≥ 0)) l0.length w2 (by have := HL.out; omega) (fun W i h0 hi hb => put_pred b1 b2 A0 c0 l0 #[.slice A1_0 l1_0.length c1_0, .int .i64 a1_1, .slice A1_2 l1_2.length c1_2, .int .i64 a1_3] ⟨l1_0, ⟨a1_1, l1_2, a1_3⟩⟩ i W h0 hi (pw_cell_below hb k1) ((hb.block b2 (blk_lt X2.out)).trans X2.out) (Kd.C_below (Kd.V_reads' HS2.out).2.2 hb) (Kd.FK_now (Kd.FK_below HX2.out hb)))).mono ?_
    rintro e w3 ⟨rfl, hb⟩
    have hpl := putAt_le l0 l1_0
    rw [show searchF (fun h => decide (cmpL (l0.getD h z29).f0 l1_0 ≥ 0)) l0.length 0 l0.length = putAt l0 l1_0 from rfl]
    obtain ⟨i, hi⟩ : ∃ i, putAt l0 l1_0 = i := ⟨_, rfl⟩
    rw [hi] at hpl ⊢
    have HI := Aside0.mk hi
    have k1' := pw_cell_below hb k1
    have X3 := Aside0.mk ((hb.block b2 (blk_lt X2.out)).trans X2.out)
    have HS3 := Aside0.mk (Kd.V_below HS2.out hb)
    have HX3 := Aside0.mk (Kd.FK_below HX2.out hb)
    have H3 := Aside0.mk (below_step H2.out hb)
    clear hb hi k1 X2 HS2 HX2 H2
    have e0 : w3.cell? ⟨b2, 0, none⟩ = some (.slice A1_0 l1_0.length c1_0) := (blk_cell X3.out 0).trans rfl
    have e1 : w3.cell? ⟨b2, 1, none⟩ = some (.int .i64 a1_1) := (blk_cell X3.out 1).trans rfl
    have e2 : w3.cell? ⟨b2, 2, none⟩ = some (.slice A1_2 l1_2.length c1_2) := (blk_cell X3.out 2).trans rfl
    have e3 : w3.cell? ⟨b2, 3, none⟩ = some (.int .i64 a1_3) := (blk_cell X3.out 3).trans rfl
    go_upto_region 2 with (fail)
    go_cut [25] (fun v25 wc => v25 = .bool (decide (i < l0.length ∧ cmpL (l0.getD i z29).f0 l1_0 = 0)) ∧ Aside0 (Below w3.heap.size w3 wc))
    case first =>
      by_cases hlt : i < l0.length
      · have hd1 : decide (i < l0.length) = true := decide_eq_true hlt
        have hd2 : decide ((i : Int) < (l0.length : Int)) = true := decide_eq_true (by omega)
        have hd3 : (0 : Int) ≤ (i : Int) := by omega
        have hd4 : (i : Int) < (l0.length : Int) := by omega
        obtain ⟨ad, A1, c1, A3, c3, rfl, x0, x1, x2, x3, l1, g1, l3, g3⟩ := at_T29 (Kd.V_reads' HS3.out).2.2 (i : Int) hd3 hd4
        have G1 := Aside0.mk g1
        clear x1 x2 x3 g1 g3 l3
        rw [Int.toNat_natCast] at x0
        go_wp2
        go_region_with (go_at_call 37; refine (label_CompareW.calls _ _ _ _ _ _ _ _ ?q1 l1 ?q2 HC1.out rfl).mono ?_; (case q1 => exact Kd.C_drew G1.out); (case q2 => exact Kd.C_drew (Kd.C_below HC0.out H3.out)); rintro e w' ⟨rfl, hb⟩; have HB := Aside0.mk hb; clear hb)
        all_goals
          go_wp2
          go_meet
          case rel => exact ⟨congrArg Value.bool (by rw [show rd_T29 l0 (i : Int) = l0.getD i z29 from by simp only [rd_T29, Int.toNat_natCast], Bool.eq_iff_iff, beq_iff_eq, decide_eq_true_eq]; exact ⟨fun h => ⟨hlt, h⟩, fun h => h.2⟩), ⟨below_step (below_drew (Below.refl _ _)) HB.out⟩⟩
      · have hd1 : decide (i < l0.length) = false := decide_eq_false hlt
        have hd2 : decide ((i : Int) < (l0.length : Int)) = false := decide_eq_false (by omega)
        go_wp2
        go_quiet (fail)
        go_wp2
        go_meet
        case rel => exact ⟨by simp [hlt], ⟨pw_below_drewN (Below.refl _ _) _⟩⟩
    case rest =>
      obtain ⟨rfl, hb⟩ := hcut
      have e0' := pw_cell_below hb.out e0
      have e1' := pw_cell_below hb.out e1
      have e2' := pw_cell_below hb.out e2
      have e3' := pw_cell_below hb.out e3
      have k2 := pw_cell_below hb.out k1'
      have HS4 := Aside0.mk (Kd.V_below HS3.out hb.out)
      have HX4 := Aside0.mk (Kd.FK_below HX3.out hb.out)
      have H4 := Aside0.mk (below_step H3.out hb.out)
      clear hb e0 e1 e2 e3 k1' HS3 HX3 H3 X3 HC0
      by_cases hq : i < l0.length ∧ cmpL (l0.getD i z29).f0 l1_0 = 0
      · have HQ := Aside0.mk hq
        have hdq : decide (i < l0.length ∧ cmpL (l0.getD i z29).f0 l1_0 = 0) = true := decide_eq_true hq
        clear hq
        rw [hdq]
        clear hdq
        go_wp2
        go_ret2
        have hr := HR.out
        rw [HI.out, if_pos HQ.out] at hr
        injection hr with hr
        injection hr with hr1 hr2
        subst hr1; subst hr2
        exact ⟨_, rfl, Kd.N_nil _ _ _ _ _, H4.out⟩
      · have HQ := Aside0.mk hq
        have hdq : decide (i < l0.length ∧ cmpL (l0.getD i z29).f0 l1_0 = 0) = false := decide_eq_false hq
        clear hq
        rw [hdq]
        clear hdq
        have HXB := Aside0.mk (Kd.FK_below (Kd.FK_bound HX.out) H4.out)
        go_wp2
        have k3 : (wc.alloc (Obj.cells #[.slice A1_0 l1_0.length c1_0, .int .i64 a1_1, .slice A1_2 l1_2.length c1_2, .int .i64 a1_3] 29)).cell? ⟨b1, 0, none⟩ = _ := pw_cell_below (below_alloc (Below.refl _ _) _) k2
        go_region_with (first
          | (go_at_call 31; go_must (refine (clone_entry P0_ A0 c0 l0 _ ?v1 HL.out).mono ?_; (case v1 => first | exact Kd.V_drew HS4.out | exact Kd.V_alloc (Kd.V_drew HS4.out) _ | exact Kd.V_drew (Kd.V_alloc HS4.out _)); rintro e wq ⟨v, rfl, hN, hb⟩; obtain ⟨Av, cv, rfl⟩ := Kd.N_slice hN; have HN := Aside0.mk hN; have HBq := Aside0.mk hb; (have HBw : Aside0 (Below wc.heap.size wc wq) := (by first | exact ⟨below_step (below_drew (Below.refl _ _)) hb⟩ | exact ⟨below_step (below_drew (below_alloc (Below.refl _ _) _)) hb⟩)); have f0 := pw_cell_below HBw.out e0'; have f1 := pw_cell_below HBw.out e1'; have f2 := pw_cell_below HBw.out e2'; have f3 := pw_cell_below HBw.out e3'; (first | (with_reducible have hb2 : Below (World.drew (World.alloc wc (.cells #[.slice A1_0 l1_0.length c1_0, .int .i64 a1_1, .slice A1_2 l1_2.length c1_2, .int .i64 a1_3] 29 (0, 0)))).heap.size (World.drew (World.alloc wc (.cells #[.slice A1_0 l1_0.length c1_0, .int .i64 a1_1, .slice A1_2 l1_2.length c1_2, .int .i64 a1_3] 29 (0, 0)))) wq := hb); have HBK := Aside0.mk ((hb2.block wc.heap.size (blk_lt (blk_new wc _))).trans (blk_new wc _)); clear hb2 | skip); clear hN hb))
          | (go_at_call 38; go_must ((first | refine (insert_put P0_ (fun k => P1_0_ k ∨ P1_2_ k) _ w _ _ l0 _ ⟨l1_0, ⟨a1_1, l1_2, a1_3⟩⟩ _ i HN.out ?n2 ?n3 HBK.out ?n5 ?n6 ?n7 HL.out ?n8).mono ?_ | refine (insert_put P0_ (fun k => P1_0_ k ∨ P1_2_ k) _ w _ _ l0 _ ⟨l1_0, ⟨a1_1, l1_2, a1_3⟩⟩ _ i (Kd.N_below HN.out (below_alloc (Below.refl _ _) _)) ?n2 ?n3 (blk_new wq _) ?n5 ?n6 ?n7 HL.out ?n8).mono ?_); (case n2 => first | exact H4.out.size | exact Nat.le_trans H4.out.size (below_alloc (Below.refl _ _) _).size); (case n3 => first | exact below_step H4.out HBw.out | exact below_alloc (below_step H4.out HBw.out) _); (case n5 => first | exact Kd.FK_below HXB.out HBw.out | exact Kd.FK_below HXB.out (below_alloc HBw.out _)); (case n6 => first | exact ne_lt (Kd.N_lt HN.out) | exact ne_base (Kd.N_base HN.out)); (case n7 => first | exact H4.out.size | exact Nat.le_trans H4.out.size HBq.out.size); (case n8 => exact hpl); rintro e wf ⟨v', rfl, hN, hb⟩; have HNF := Aside0.mk hN; have HBF := Aside0.mk hb; clear hN hb HN HBq HBw))
          | fail)
        all_goals
          go_wp2
          go_ret2
          have hr := HR.out
          rw [HI.out, if_neg HQ.out] at hr
          injection hr with hr
          injection hr with hr1 hr2
          subst hr1; subst hr2
          exact ⟨_, rfl, Kd.N_mono HNF.out (fun k hk => hk.imp (fun h => by rcases h with h | h | h; exact .inl h; exact .inr (.inl h); exact .inr (.inr h)) (fun h => h)), HBF.out⟩
  · cases h
end Go.Proofs.Ytlapiebnmbbemaa.A
