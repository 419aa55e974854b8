/- slices.Insert of one entry into a row of one's own. -/
import Derived.Test.YtlapiebnmbbemaaAInsert
import Derived.Deep.RegionLaw
namespace Go.Proofs.Ytlapiebnmbbemaa.A
open Go.RowKit Go.Lib Go.Proofs.YtlapiebnmbbemaaW.PrintWords Go.Proofs.YtlapiebnmbbemaaW.PrintLast Go.Proofs.YtlapiebnmbbemaaW.PrintMore

set_option maxHeartbeats 4000000 in
set_option maxRecDepth 100000 in
theorem insert_end (base : Nat) (ok okp : Nat → Prop) (vs : Value) (l : List S29) (gv : Nat) (x : S29) (w0 w : World)
    (hN : Kd.N k29 29 w base ok vs l) (hB : Below base w0 w) (hbase : base ≤ w.heap.size) (hfresh : ∀ k, w.heap.size ≤ k → ok k)
    (hv : Kd.F k29 w okp (some ⟨gv, 0, none⟩) 1 [x]) (hokp : ∀ k, okp k → ok k ∧ some k ≠ vs.ownBlock) (hl : l.length ≤ 1000000000) :
    Calls Try.prog 38 #[vs, .int .i64 l.length, .slice (some ⟨gv, 0, none⟩) 1 1] w fun e w' =>
      ∃ v', e = .returned v' ∧ Kd.N k29 29 w' base ok v' (l ++ [x]) ∧ Below base w0 w' := by
  obtain ⟨A, c, rfl⟩ := Kd.N_slice hN
  have HN := Aside0.mk hN
  have HB := Aside0.mk hB
  have HA := Aside0.mk hbase
  have HV := Aside0.mk hv
  have HO := Aside0.mk hokp
  have HF := Aside0.mk hfresh
  have hlc : l.length ≤ c := (Kd.N_reads' hN).2.1
  clear hN hB hbase hv hokp hfresh
  go_enter Try.func38, Try.ntmps38
  go_wp2_with (at_builtin; go_must (refine Kd.N_append_rows k29 (w0 := w0) base rfl (.tmp 23) (.tmp 24) 22 29 (.agg #[(.slice none 0 0), (.int .i64 0), (.slice none 0 0), (.int .i64 0)]) 64 rfl Try.underlying22 info29 rfl (by decide) (by omega) (.slice A l.length c) l [x] (some ⟨gv, 0, none⟩) 1 1 ok okp rfl rfl HN.out HV.out HO.out HF.out HB.out HA.out (by omega) ?_; intro v2 w2 hN2 hb hg hat; have HN2 := Aside0.mk hN2; have HB2 := Aside0.mk hb; clear hN2 hb hg hat))
  all_goals (go_ret; exact ⟨_, rfl, HN2.out, HB2.out⟩)

/-- The cells of a slice of one value, and that slices.overlaps says no. -/
theorem one_cells {w : World} {okp : Nat → Prop} {gv : Nat} {x : S29} (hv : Kd.F k29 w okp (some ⟨gv, 0, none⟩) 1 [x]) :
    ∃ cv : List Value, cv.length = 4 ∧ Kd.FK k29 w okp x cv ∧ (∀ j u, cv[j]? = some u → w.cell? ⟨gv, j, none⟩ = some u) ∧ okp gv := by
  obtain ⟨ad, cv, he, hl, hf, hc, ho⟩ := Kd.F_get hv z29 0 (by omega) (by omega)
  injection he with he
  subst he
  exact ⟨cv, hl, hf, fun j u hu => by have := hc j u hu; simpa [add_plain] using this, ho (by decide)⟩

set_option maxHeartbeats 4000000 in
set_option maxRecDepth 100000 in
theorem insert_room (base : Nat) (ok okp : Nat → Prop) (g n c : Nat) (l : List S29) (gv : Nat) (x : S29) (i : Nat) (w0 w : World)
    (hN : Kd.N k29 29 w base ok (.slice (some ⟨g, 0, none⟩) n c) l) (hB : Below base w0 w) (hbg : base ≤ g)
    (hv : Kd.F k29 w okp (some ⟨gv, 0, none⟩) 1 [x]) (hokp : ∀ k, okp k → ok k ∧ k ≠ g) (hvb : ∃ cells, w.heap[gv]? = some (.cells cells 29 (0, 0))) (hi : i < n) (hroom : n + 1 ≤ c) :
    Calls Try.prog 38 #[.slice (some ⟨g, 0, none⟩) n c, .int .i64 i, .slice (some ⟨gv, 0, none⟩) 1 1] w fun e w' =>
      ∃ v', e = .returned v' ∧ Kd.N k29 29 w' base ok v' (l.take i ++ x :: l.drop i) ∧ Below base w0 w' := by
  obtain ⟨cur, hblk, hcl, hnc, hcm, _, hokg, hxl, hfk⟩ := N_cells hN
  obtain ⟨cv, hcvl, hcvf, hcvc, hokv⟩ := one_cells hv
  have hgv : gv ≠ g := (hokp gv hokv).2
  have hsz : k29.sz = 4 := rfl
  rw [hsz] at hcl
  obtain ⟨cells, hvblk⟩ := hvb
  have hu := Try.underlying22
  have hmax : c ≤ 9223372036854775807 := by simpa [maxLen] using hcm
  -- the first copy: the tail one place on
  obtain ⟨seg, hseg⟩ : ∃ seg, seg = (cur.drop (i * 4)).take ((n - i) * 4) := ⟨_, rfl⟩
  have hsegl : seg.length = (n - i) * 4 := by rw [hseg, List.length_take, List.length_drop]; omega
  have hone : ∀ u ∈ cur.take (n * 4), u.oneCell' = true := by
    intro u hu2
    obtain ⟨q, hq, rfl⟩ := List.mem_iff_getElem.1 hu2
    rw [List.length_take] at hq
    have hj : q / 4 < l.length := by omega
    have := k29.K_one (Kd.FK_now (hfk (q / 4) _ (List.getElem?_eq_getElem hj))) cur[q] (by
      rw [hsz, List.mem_iff_getElem?]
      exact ⟨q % 4, by rw [List.getElem?_take, if_pos (by omega), List.getElem?_drop, show q / 4 * 4 + q % 4 = q by omega, List.getElem?_eq_getElem (by omega)]⟩)
    simpa using this
  have hsub : ∀ u ∈ seg, u ∈ cur.take (n * 4) := by
    intro u hu2
    rw [hseg] at hu2
    obtain ⟨q, hq, rfl⟩ := List.mem_iff_getElem.1 hu2
    rw [List.length_take, List.length_drop] at hq
    rw [List.mem_iff_getElem?]
    refine ⟨i * 4 + q, ?_⟩
    rw [List.getElem?_take, if_pos (by omega), List.getElem_take, List.getElem_drop, List.getElem?_eq_getElem (by omega)]
  have hcell : ∀ (W : World), W.heap[g]? = w.heap[g]? → ∀ q u, cur[q]? = some u → W.cell? ⟨g, q, none⟩ = some u := fun W hW q u hq => by
    rw [cell_of_row W g _ cur.toArray 29 (0, 0) (hW.trans hblk)]; simpa using hq
  have hsome : ∀ (W : World), W.heap[g]? = w.heap[g]? → ∀ q, q < c * 4 → (W.cell? ⟨g, q, none⟩).isSome = true := fun W hW q hq => by
    rw [hcell W hW q _ (List.getElem?_eq_getElem (by omega))]; rfl
  have hcp1 : Aside0 (∀ ty dl dc sl sc, dl = n - i → sl = n + 1 - i → (Builtin.copy_ #[22, 22] ty #[.slice (some ⟨g, (i + 1) * 4, none⟩) dl dc, .slice (some ⟨g, i * 4, none⟩) sl sc]).run Try.prog w.drew = .ok (goInt (n - i : Nat)) (w.drew.setCells g ((i + 1) * 4) seg)) := by
    refine ⟨fun ty dl dc sl sc hdl hs_ => ?_⟩
    subst hdl hs_
    have h := run_copyN (P := Try.prog) w.drew 22 22 ty 29 4 g ((i + 1) * 4) (n - i) dc ⟨g, i * 4, none⟩ (n + 1 - i) sc seg Try.underlying22 (by kernel_rfl) (by rw [hsegl]; congr 1; exact (Nat.min_eq_right (by omega)).symm)
      (fun q u hq => by
        rw [add_at]
        refine hcell w.drew rfl (i * 4 + q) u ?_
        rw [hseg, List.getElem?_take] at hq
        split at hq
        · rwa [List.getElem?_drop] at hq
        · cases hq)
      (fun q hq => hsome w.drew rfl _ (by omega)) (fun q _ => blk_frozen (show w.drew.heap[g]? = _ from hblk) _) (fun u hu2 => hone u (hsub u hu2))
    rw [show Nat.min (n + 1 - i) (n - i) = n - i from Nat.min_eq_right (by omega)] at h
    exact h
  obtain ⟨W1, hW1⟩ : ∃ W1, W1 = w.drew.setCells g ((i + 1) * 4) seg := ⟨_, rfl⟩
  obtain ⟨cur1, hb1, hs1, hl1⟩ := setCells_row seg ((i + 1) * 4) w.drew cur.toArray hblk (by simp; omega)
  rw [← hW1] at hb1 hcp1
  have hcp2 : Aside0 (∀ ty dl dc, dl = n + 1 - i → (Builtin.copy_ #[22, 22] ty #[.slice (some ⟨g, i * 4, none⟩) dl dc, .slice (some ⟨gv, 0, none⟩) 1 1]).run Try.prog W1 = .ok (goInt 1) (W1.setCells g (i * 4) cv)) := by
    refine ⟨fun ty dl dc hdl => ?_⟩
    subst hdl
    have h := run_copyN (P := Try.prog) W1 22 22 ty 29 4 g (i * 4) (n + 1 - i) dc ⟨gv, 0, none⟩ 1 1 cv Try.underlying22 (by kernel_rfl) (by rw [hcvl, show Nat.min 1 (n + 1 - i) = 1 from Nat.min_eq_left (by omega)])
      (fun q u hq => by
        rw [add_plain]
        have h1 := hcvc q u hq
        have h2 : W1.heap[gv]? = w.heap[gv]? := by rw [hW1]; exact setCells_far seg _ gv hgv
        simpa [World.cell?, h2] using h1)
      (fun q hq => by
        rw [cell_of_row W1 g _ cur1 29 (0, 0) hb1]
        have : i * 4 + q < cur1.size := by rw [hs1]; simp; omega
        rw [Array.getElem?_eq_getElem this]; rfl)
      (fun q _ => blk_frozen hb1 _) (k29.K_one (Kd.FK_now hcvf))
    rw [show Nat.min 1 (n + 1 - i) = 1 from Nat.min_eq_left (by omega)] at h
    exact h
  have hov : ∀ lb cb, (callFunc 60 #[.slice (some ⟨gv, 0, none⟩) 1 1, .slice (some ⟨g, (i + 1) * 4, none⟩) lb cb]).run Try.prog w = .ok (.value (.bool false)) w := fun lb cb => by
    rw [run_callFunc_extern Try.func60 (by kernel_rfl) (by kernel_rfl) (by kernel_rfl) (e := Extern.SlicesOverlaps.overlaps #[22, 22] #[4]) (by kernel_rfl),
      Lib.run_overlaps_apart w 22 4 29 Try.underlying22 4 (fun _ => by kernel_rfl) ⟨gv, 0, none⟩ ⟨g, (i + 1) * 4, none⟩ 1 1 lb cb hgv 29 29 cells.size cur.length ?_ ?_ (by omega) (blk_frozen hvblk _) (blk_frozen hvblk _)]
    · rfl
    · simp [World.shape?, hvblk]
    · simp [World.shape?, hblk]
  have HOV := Aside0.mk hov
  have hcap1 : ¬ (c = i + 1) := by omega
  have hcap2 : ¬ (c = i) := by omega
  have HW1 := Aside0.mk hW1
  have HB1 := Aside0.mk hb1
  have HS1 := Aside0.mk hs1
  have HL1 := Aside0.mk hl1
  have HSEG := Aside0.mk hseg
  have HSEGL := Aside0.mk hsegl
  have HFK := Aside0.mk hfk
  have HCV := Aside0.mk hcvf
  have HCVL := Aside0.mk hcvl
  have HCL := Aside0.mk hcl
  have HBK := Aside0.mk hblk
  have HXL := Aside0.mk hxl
  have HOKP := Aside0.mk hokp
  clear hone hsub hcell hsome hsz hfk hW1 hb1 hs1 hl1 hseg hsegl hcvf hcvl hcl hblk hxl hvblk hcvc hu hv hN hokp
  go_enter Try.func38, Try.ntmps38
  go_wp2_with (simp only [hov])
  have hw1 : IntKind.i64.wrap ((i : Int) + 1) = (i : Int) + 1 := by rw [IntKind.wrap_i64]; omega
  have hq1 : (0 : Int) ≤ (i : Int) + 1 := by omega
  have hq2 : ((i : Int) + 1).toNat = i + 1 := by omega
  have hq3 : (i : Int) ≤ (n : Int) + 1 := by omega
  have hq4 : (i : Int) ≤ (n : Int) := by omega
  go_region_law (refine step_copy_eq rfl (.tmp 73) (.tmp 76) 22 22 rfl (.slice (some ⟨g, (i + 1) * 4, none⟩) (n - i) (c - (i + 1))) (.slice (some ⟨g, i * 4, none⟩) (n + 1 - i) (c - i)) ?e1 ?e2 (hcp1.out _ _ _ _ _ rfl rfl) ?_; (case e1 => simp [Act.eval, Act.put]); (case e2 => simp [Act.eval, Act.put]))
  go_wp2_with ((with_reducible refine gate_builtin (b := .copy) (xs := #[.tmp 80, .tmp 81]) rfl ?_); refine wpList_copy_eq rfl (.tmp 80) (.tmp 81) 22 22 rfl (.slice (some ⟨g, i * 4, none⟩) (n + 1 - i) (c - i)) (.slice (some ⟨gv, 0, none⟩) 1 1) rfl rfl (hcp2.out _ _ _ rfl) ?_)
  go_ret
  obtain ⟨cur2, hb2, hs2, hl2⟩ := setCells_row cv (i * 4) W1 cur1 HB1.out (by have := HS1.out; simp at this; have := HCVL.out; have := HCL.out; omega)
  have hcl2 : cur2.toList.length = c * 4 := by rw [Array.length_toList, hs2, HS1.out]; simpa using HCL.out
  have hfar : ∀ k, k ≠ g → (W1.setCells g (i * 4) cv).heap[k]? = w.heap[k]? := fun k hk => by
    rw [setCells_far cv _ k hk, HW1.out, setCells_far seg _ k hk]; rfl
  refine ⟨_, rfl, N_ins (cur := cur) (cur' := cur2.toList) (cv := cv) (i := i) (by simpa using hb2) hcl2 hroom (by simp only [maxLen]; omega) hbg hokg HXL.out (by omega) HCVL.out (by have := HCL.out; show n * 4 ≤ _; omega) ?_ (fun j y hj => ?_) ?_, ?_⟩
  · show cur2.toList.take ((n + 1) * 4) = cur.take (i * 4) ++ (cv ++ (cur.drop (i * 4)).take ((n - i) * 4))
    have e := shift_cells cur cv (i * 4) 4 (n * 4) HCVL.out (by omega) (by have := HCL.out; omega)
    rw [hl2, HL1.out, HSEGL.out, HSEG.out, HCVL.out]
    rw [show n * 4 - i * 4 = (n - i) * 4 by omega, show n * 4 + 4 = (n + 1) * 4 by omega, show i * 4 + 4 = (i + 1) * 4 by omega] at e
    rw [show i * 4 + 4 = (i + 1) * 4 by omega]
    exact e
  · exact Kd.FK_step (HFK.out j y hj) (fun k hk _ => hfar k hk.2)
  · exact Kd.FK_mono (Kd.FK_step HCV.out (fun k hk _ => hfar k (HOKP.out k hk).2)) (fun k hk => HOKP.out k hk)
  · rw [HW1.out]
    exact below_setCells (below_setCells (below_drew hB) hbg _ _) hbg _ _

set_option maxHeartbeats 4000000 in
set_option maxRecDepth 100000 in
theorem insert_grow (base : Nat) (ok okp : Nat → Prop) (g n c : Nat) (l : List S29) (gv : Nat) (x : S29) (i : Nat) (w0 w : World)
    (hN : Kd.N k29 29 w base ok (.slice (some ⟨g, 0, none⟩) n c) l) (hB : Below base w0 w) (hbase : base ≤ w.heap.size) (hfresh : ∀ k, w.heap.size ≤ k → ok k)
    (hv : Kd.F k29 w okp (some ⟨gv, 0, none⟩) 1 [x]) (hokp : ∀ k, okp k → ok k) (hgv : gv < w.heap.size) (hl : l.length ≤ 1000000000) (hi : i < n) (hroom : c < n + 1) :
    Calls Try.prog 38 #[.slice (some ⟨g, 0, none⟩) n c, .int .i64 i, .slice (some ⟨gv, 0, none⟩) 1 1] w fun e w' =>
      ∃ v', e = .returned v' ∧ Kd.N k29 29 w' base ok v' (l.take i ++ x :: l.drop i) ∧ Below base w0 w' := by
  obtain ⟨cur, hblk, hcl, hnc, hcm, _, hokg, hxl, hfk⟩ := N_cells hN
  obtain ⟨cv, hcvl, hcvf, hcvc, hokv⟩ := one_cells hv
  have hsz : k29.sz = 4 := rfl
  rw [hsz] at hcl hfk
  obtain rfl : c = n := by omega
  have hg : g < w.heap.size := blk_lt hblk
  have hcell : ∀ q u, cur[q]? = some u → w.cell? ⟨g, q, none⟩ = some u := fun q u hq => by
    rw [cell_of_row w g _ cur.toArray 29 (0, 0) hblk]; simpa using hq
  have hone : ∀ u ∈ cur, u.oneCell' = true := by
    intro u hu2
    obtain ⟨q, hq, rfl⟩ := List.mem_iff_getElem.1 hu2
    have hj : q / 4 < l.length := by omega
    have := k29.K_one (Kd.FK_now (hfk (q / 4) _ (List.getElem?_eq_getElem hj))) cur[q] (by
      rw [List.mem_iff_getElem?]
      exact ⟨q % 4, by rw [List.getElem?_take, if_pos (by omega), List.getElem?_drop, show q / 4 * 4 + q % 4 = q by omega, List.getElem?_eq_getElem (by omega)]⟩)
    simpa using this
  -- the new row
  obtain ⟨i0, hi0, hzz⟩ := Option.map_eq_some_iff.1 info29
  simp only [Prod.mk.injEq] at hzz
  obtain ⟨hz0, hz1, hz2⟩ := hzz
  obtain ⟨C, hC⟩ : ∃ C, C = grownCap w (c + 1) c 29 := ⟨_, rfl⟩
  have hC1 : c + 1 ≤ C := by rw [hC]; exact grownCap_ge w (c + 1) c 29
  have hC2 : C ≤ maxLen := by rw [hC]; exact grownCap_le_maxLen w (c + 1) c 29 (by simp only [maxLen]; omega)
  have hC3 : C ≤ 9223372036854775807 := by simpa [maxLen] using hC2
  obtain ⟨nc, hnc1⟩ : ∃ nc : Array Value, nc = (cur.take (i * 4)).toArray ++ Builtin.zeroCells #[.slice none 0 0, .int .i64 0, .slice none 0 0, .int .i64 0] (c + 1 - i) ++ Builtin.zeroCells #[.slice none 0 0, .int .i64 0, .slice none 0 0, .int .i64 0] (C - (c + 1)) := ⟨_, rfl⟩
  have hncs : nc.size = C * 4 := by
    rw [hnc1]
    simp only [Array.size_append, List.size_toArray, size_zeroCells, List.length_take]
    simp; omega
  have hnct : nc.toList.take (i * 4) = cur.take (i * 4) := by
    rw [hnc1]
    simp only [Array.toList_append, List.append_assoc]
    exact List.take_left' (by rw [List.length_take]; omega)
  obtain ⟨W2, hW2⟩ : ∃ W2, W2 = w.drew.alloc (.cells nc 29) := ⟨_, rfl⟩
  have hap : Aside0 (∀ ty, (Builtin.append_ #[22, 3] ty #[.slice (some ⟨g, 0, none⟩) i c, .int .i64 ((c : Int) + 1 - i)]).run Try.prog w = .ok (.slice (some ⟨w.heap.size, 0, none⟩) (c + 1) C) W2) := by
    refine ⟨fun ty => ?_⟩
    have h := run_append_zeros_grow (P := Try.prog) w 22 3 ty 29 i0 _ Try.underlying22 Try.underlying3 hi0 hz0 (by omega) (by omega) (some ⟨g, 0, none⟩) i c (c + 1 - i) (cur.take (i * 4))
      (by
        rw [hz1]
        exact run_firstCells_some (P := Try.prog) w.drew 4 i _ i c _ (by rw [List.length_take]; omega) (fun q u hq => by
          rw [add_plain, World.cell?_drew]
          rw [List.getElem?_take] at hq
          split at hq
          · exact hcell q u hq
          · cases hq)) (by omega) (by omega) (by rw [hz2]; omega) .i64
    rw [show ((c : Int) + 1 - i) = ((c + 1 - i : Nat) : Int) by omega, h, hW2, hnc1, hC, show i + (c + 1 - i) = c + 1 by omega]
    rfl
  have hb2 : W2.heap[w.heap.size]? = some (.cells nc 29 (0, 0)) := by rw [hW2]; exact heap_alloc_new w.drew _
  have hold : ∀ k, k < w.heap.size → W2.heap[k]? = w.heap[k]? := fun k hk => by rw [hW2]; exact heap_alloc_old w.drew _ hk
  obtain ⟨G, hG⟩ : ∃ G, G = w.heap.size := ⟨_, rfl⟩
  rw [← hG] at hap hb2
  -- the value
  have hcp1 : Aside0 (∀ ty dl dc, dl = c + 1 - i → (Builtin.copy_ #[22, 22] ty #[.slice (some ⟨G, i * 4, none⟩) dl dc, .slice (some ⟨gv, 0, none⟩) 1 1]).run Try.prog W2 = .ok (goInt 1) (W2.setCells G (i * 4) cv)) := by
    refine ⟨fun ty dl dc hdl => ?_⟩
    subst hdl
    have h := run_copyN (P := Try.prog) W2 22 22 ty 29 4 G (i * 4) (c + 1 - i) dc ⟨gv, 0, none⟩ 1 1 cv Try.underlying22 (by kernel_rfl) (by rw [hcvl, show Nat.min 1 (c + 1 - i) = 1 from Nat.min_eq_left (by omega)])
      (fun q u hq => by
        rw [add_plain]
        have h1 := hcvc q u hq
        simpa [World.cell?, hold gv hgv] using h1)
      (fun q hq => by
        rw [cell_of_row W2 G _ nc 29 (0, 0) hb2]
        have : i * 4 + q < nc.size := by omega
        rw [Array.getElem?_eq_getElem this]; rfl)
      (fun q _ => blk_frozen hb2 _) (k29.K_one (Kd.FK_now hcvf))
    rw [show Nat.min 1 (c + 1 - i) = 1 from Nat.min_eq_left (by omega)] at h
    exact h
  obtain ⟨W3, hW3⟩ : ∃ W3, W3 = W2.setCells G (i * 4) cv := ⟨_, rfl⟩
  obtain ⟨cur3, hb3, hs3, hl3⟩ := setCells_row cv (i * 4) W2 nc hb2 (by omega)
  rw [← hW3] at hb3 hcp1
  -- the tail
  have hcp2 : Aside0 (∀ ty dl dc sl sc, dl = c - i → sl = c - i → (Builtin.copy_ #[22, 22] ty #[.slice (some ⟨G, (i + 1) * 4, none⟩) dl dc, .slice (some ⟨g, i * 4, none⟩) sl sc]).run Try.prog W3.drew = .ok (goInt (c - i : Nat)) (W3.drew.setCells G ((i + 1) * 4) (cur.drop (i * 4)))) := by
    refine ⟨fun ty dl dc sl sc hdl hs_ => ?_⟩
    subst hdl hs_
    have h := run_copyN (P := Try.prog) W3.drew 22 22 ty 29 4 G ((i + 1) * 4) (c - i) dc ⟨g, i * 4, none⟩ (c - i) sc (cur.drop (i * 4)) Try.underlying22 (by kernel_rfl) (by rw [List.length_drop, show Nat.min (c - i) (c - i) = c - i from Nat.min_self _]; omega)
      (fun q u hq => by
        rw [add_at]
        have h1 := hcell (i * 4 + q) u (by rwa [List.getElem?_drop] at hq)
        have h2 : W3.drew.heap[g]? = w.heap[g]? := by
          show W3.heap[g]? = _
          rw [hW3, setCells_far cv _ g (by omega)]; exact hold g hg
        simpa [World.cell?, h2] using h1)
      (fun q hq => by
        rw [cell_of_row W3.drew G _ cur3 29 (0, 0) hb3]
        have : (i + 1) * 4 + q < cur3.size := by rw [hs3, hncs]; rw [List.length_drop] at hq; omega
        rw [Array.getElem?_eq_getElem this]; rfl)
      (fun q _ => blk_frozen (show W3.drew.heap[G]? = _ from hb3) _) (fun u hu2 => hone u (List.mem_of_mem_drop hu2))
    rw [show Nat.min (c - i) (c - i) = c - i from Nat.min_self _] at h
    exact h
  have hGw : w.heap.size = G := hG.symm
  have HW2 := Aside0.mk hW2
  have HW3 := Aside0.mk hW3
  have HB2 := Aside0.mk hb2
  have HB3 := Aside0.mk hb3
  have HS3 := Aside0.mk hs3
  have HL3 := Aside0.mk hl3
  have HNCS := Aside0.mk hncs
  have HNCT := Aside0.mk hnct
  have HFK := Aside0.mk hfk
  have HCV := Aside0.mk hcvf
  have HCVL := Aside0.mk hcvl
  have HCL := Aside0.mk hcl
  have HXL := Aside0.mk hxl
  have HOLD := Aside0.mk hold
  have HBS := Aside0.mk hB
  have HG := Aside0.mk hGw
  have HF := Aside0.mk hfresh
  have HO := Aside0.mk hokp
  have hcap1 : ¬ (C = i + 1) := by omega
  have hcap2 : ¬ (C = i) := by omega
  have hcap3 : ¬ (c = i) := by omega
  have hCm := Aside0.mk hC2
  clear hone hcell hsz hfk hW2 hb2 hW3 hb3 hs3 hl3 hncs hnct hcvf hcvl hcl hblk hxl hold hB hGw hG hC hnc1 hz0 hz1 hz2 hi0 hfresh hokp hN hv hcvc hcm hC2 hnc
  go_enter Try.func38, Try.ntmps38
  go_wp2_with (first
    | ((with_reducible refine gate_builtin (b := .append) (xs := #[.tmp 34, .tmp 39]) rfl ?_); go_must (refine Lib.wpList_append_run _ rfl (.tmp 34) (.tmp 39) 22 3 rfl (.slice (some ⟨g, 0, none⟩) i c) (.int .i64 ((c : Int) + 1 - i)) rfl rfl _ _ (hap.out _) ?_))
    | ((with_reducible refine gate_builtin (b := .copy) (xs := #[.tmp 43, .tmp 44]) rfl ?_); go_must (refine wpList_copy_eq rfl (.tmp 43) (.tmp 44) 22 22 rfl (.slice (some ⟨G, i * 4, none⟩) (c + 1 - i) (C - i)) (.slice (some ⟨gv, 0, none⟩) 1 1) rfl rfl (hcp1.out _ _ _ rfl) ?_)))
  have hw1 : IntKind.i64.wrap ((i : Int) + 1) = (i : Int) + 1 := by rw [IntKind.wrap_i64]; omega
  have hq1 : (0 : Int) ≤ (i : Int) + 1 := by omega
  have hq2 : ((i : Int) + 1).toNat = i + 1 := by omega
  have hq3 : (i : Int) + 1 ≤ (c : Int) + 1 := by omega
  have hq4 : (i : Int) ≤ (c : Int) := by omega
  go_region_law (refine step_copy_eq rfl (.tmp 50) (.tmp 53) 22 22 rfl (.slice (some ⟨G, (i + 1) * 4, none⟩) (c - i) (C - (i + 1))) (.slice (some ⟨g, i * 4, none⟩) (c - i) (c - i)) ?e1 ?e2 (hcp2.out _ _ _ _ _ rfl rfl) ?_; (case e1 => simp [Act.eval, Act.put]); (case e2 => simp [Act.eval, Act.put]))
  go_wp2
  go_ret
  have hcurl : cur.length = c * 4 := HCL.out
  have hdl : (cur.drop (i * 4)).length = (c - i) * 4 := by rw [List.length_drop]; omega
  obtain ⟨cur4, hb4, hs4, hl4⟩ := setCells_row (cur.drop (i * 4)) ((i + 1) * 4) W3.drew cur3 HB3.out (by rw [HS3.out, HNCS.out, hdl]; omega)
  have hGb : base ≤ G := by rw [← HG.out]; exact hbase
  have hfar : ∀ k, k < G → (W3.drew.setCells G ((i + 1) * 4) (cur.drop (i * 4))).heap[k]? = w.heap[k]? := fun k hk => by
    rw [setCells_far _ _ k (by omega)]
    show W3.heap[k]? = _
    rw [HW3.out, setCells_far cv _ k (by omega)]
    exact HOLD.out k (by rw [HG.out]; exact hk)
  refine ⟨_, rfl, N_ins (cur := cur) (cur' := cur4.toList) (cv := cv) (i := i) (by simpa using hb4) (by rw [Array.length_toList, hs4, HS3.out, HNCS.out]; rfl) hC1 hCm.out hGb (HF.out G (by rw [HG.out]; exact Nat.le_refl _)) HXL.out (by omega) HCVL.out (by show c * 4 ≤ _; omega) ?_ (fun j y hj => ?_) ?_, ?_⟩
  · show cur4.toList.take ((c + 1) * 4) = cur.take (i * 4) ++ (cv ++ (cur.drop (i * 4)).take ((c - i) * 4))
    have hcv4 : cv.length = 4 := HCVL.out
    have e1 : cur3.toList.take ((i + 1) * 4) = cur.take (i * 4) ++ cv := by
      rw [HL3.out, HNCT.out, hcv4]
      exact List.take_left' (by rw [List.length_append, List.length_take, hcv4]; omega)
    rw [hl4, e1, List.append_assoc, List.append_assoc, ← List.append_assoc cv, ← List.append_assoc (cur.take (i * 4)), List.take_of_length_le (l := cur.drop (i * 4)) (by omega)]
    exact List.take_left' (by simp only [List.length_append, List.length_take, hcv4, hdl]; omega)
  · exact Kd.FK_mono (Kd.FK_step (Kd.FK_bound (HFK.out j y hj)) (fun k hk _ => hfar k (by rw [← HG.out]; exact hk.2))) (fun k hk => ⟨hk.1.1, by have := hk.2; rw [HG.out] at this; omega⟩)
  · exact Kd.FK_mono (Kd.FK_step (Kd.FK_bound HCV.out) (fun k hk _ => hfar k (by rw [← HG.out]; exact hk.2))) (fun k hk => ⟨HO.out k hk.1, by have := hk.2; rw [HG.out] at this; omega⟩)
  · have h1 : Below base w0 W2 := by rw [HW2.out]; exact (below_drew HBS.out).alloc (by simpa using hbase) _
    have h2 : Below base w0 W3 := by rw [HW3.out]; exact below_setCells h1 hGb _ _
    exact below_setCells (below_drew h2) hGb _ _

theorem insert_any (base : Nat) (ok okp : Nat → Prop) (vs : Value) (l : List S29) (gv : Nat) (x : S29) (i : Nat) (w0 w : World)
    (hN : Kd.N k29 29 w base ok vs l) (hB : Below base w0 w) (hbase : base ≤ w.heap.size) (hfresh : ∀ k, w.heap.size ≤ k → ok k)
    (hv : Kd.F k29 w okp (some ⟨gv, 0, none⟩) 1 [x]) (hokp : ∀ k, okp k → ok k ∧ some k ≠ vs.ownBlock) (hvb : ∃ cells, w.heap[gv]? = some (.cells cells 29 (0, 0))) (hl : l.length ≤ 1000000000) (hi : i ≤ l.length) :
    Calls Try.prog 38 #[vs, .int .i64 i, .slice (some ⟨gv, 0, none⟩) 1 1] w fun e w' =>
      ∃ v', e = .returned v' ∧ Kd.N k29 29 w' base ok v' (l.take i ++ x :: l.drop i) ∧ Below base w0 w' := by
  by_cases he : i = l.length
  · subst he
    rw [List.take_length, List.drop_length]
    exact insert_end base ok okp vs l gv x w0 w hN hB hbase hfresh hv hokp hl
  · obtain ⟨g, cap, rfl, hbg, _⟩ := Kd.N_form hN (by omega)
    have hob : (Value.slice (some ⟨g, 0, none⟩) l.length cap).ownBlock = some g := rfl
    by_cases hr : l.length + 1 ≤ cap
    · exact insert_room base ok okp g l.length cap l gv x i w0 w hN hB hbg hv (fun k hk => ⟨(hokp k hk).1, fun e => (hokp k hk).2 (by rw [e]; rfl)⟩) hvb (by omega) hr
    · obtain ⟨cells, hc⟩ := hvb
      exact insert_grow base ok okp g l.length cap l gv x i w0 w hN hB hbase hfresh hv (fun k hk => (hokp k hk).1) (blk_lt hc) hl (by omega) (by omega)
end Go.Proofs.Ytlapiebnmbbemaa.A
