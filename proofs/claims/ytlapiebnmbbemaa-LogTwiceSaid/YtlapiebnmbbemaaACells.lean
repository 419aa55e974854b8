/- Words of my own beside the print's: a row of one's own as its block's cells and back; copy and clear at elements of any size; operations whose run is known as an equation. -/
import Derived.Test.YtlapiebnmbbemaaAKinds
import Derived.Lib.AppendZeros
import Derived.Lib.SliceRun
import Derived.Lib.Overlaps
namespace Go.Proofs.Ytlapiebnmbbemaa.A
open Go.RowKit Go.Proofs.YtlapiebnmbbemaaW.PrintWords Go.Proofs.YtlapiebnmbbemaaW.PrintLast Go.Proofs.YtlapiebnmbbemaaW.PrintMore

section
variable {α : Type} {d : Kd α} {e base g n cap : Nat} {w : World} {ok : Nat → Prop} {xs : List α}

/-- A row of one's own, laid open: its block's cells. -/
theorem N_cells (h : Kd.N d e w base ok (.slice (some ⟨g, 0, none⟩) n cap) xs) :
    ∃ cur : List Value, w.heap[g]? = some (.cells cur.toArray e (0, 0)) ∧ cur.length = cap * d.sz ∧ n ≤ cap ∧ cap ≤ maxLen ∧ base ≤ g ∧ ok g ∧ xs.length = n ∧
      ∀ j x, xs[j]? = some x → Kd.FK d w (fun k => ok k ∧ k ≠ g) x ((cur.drop (j * d.sz)).take d.sz) := by
  obtain ⟨h0, rows, hl, ⟨_, inner, hown, hrep⟩, hf⟩ := h
  have hob : (Value.slice (some ⟨g, 0, none⟩) n cap).ownBlock = some g := rfl
  rcases hown.2 with ⟨he, _⟩ | ⟨g', cap', cur, he, hb, hh, h1, h2, h3, h4⟩
  · cases he
  · injection he with ha hn hc
    injection ha with ha
    injection ha with ha
    subst ha; subst hc
    have h3' : cur.size = cap * d.sz := h3
    refine ⟨cur.toList, by simpa using hh, by simpa using h3', by omega, h2, hb, h0 _ hob, by omega, fun j x hx => ?_⟩
    have hj : j < rows.length := by rw [hl]; exact (List.getElem?_eq_some_iff.1 hx).1
    have hr := hrep.2 j _ (List.getElem?_eq_getElem hj)
    have hr1 : rows[j] = (inner.drop (j * d.sz)).take d.sz := hr.1.symm
    have hfk := hf j x _ hx (List.getElem?_eq_getElem hj)
    rw [hr1, ← h4] at hfk
    have hle : j * d.sz + d.sz ≤ rows.length * d.sz := by rw [← Nat.succ_mul]; exact Nat.mul_le_mul_right _ hj
    have e1 : ((cur.toList.take (rows.length * d.sz)).drop (j * d.sz)).take d.sz = (cur.toList.drop (j * d.sz)).take d.sz := by
      apply List.ext_getElem?
      intro q
      simp only [List.getElem?_take, List.getElem?_drop]
      split
      · rw [if_pos (by omega)]
      · rfl
    have hfk2 : Kd.FK d w (fun k => ok k ∧ some k ≠ (Value.slice (some ⟨g, 0, none⟩) n cap).ownBlock) x ((cur.toList.drop (j * d.sz)).take d.sz) := by
      rw [← e1]; exact hfk
    exact Kd.FK_mono hfk2 (fun k hk => ⟨hk.1, fun hkg => hk.2 (by rw [hkg]; rfl)⟩)
/-- .. and put together. -/
theorem N_mk {cur : List Value} (hg : w.heap[g]? = some (.cells cur.toArray e (0, 0))) (hc : cur.length = cap * d.sz) (hn : n ≤ cap) (hm : cap ≤ maxLen) (hb : base ≤ g) (hok : ok g) (hx : xs.length = n)
    (hf : ∀ j x, xs[j]? = some x → Kd.FK d w (fun k => ok k ∧ k ≠ g) x ((cur.drop (j * d.sz)).take d.sz)) : Kd.N d e w base ok (.slice (some ⟨g, 0, none⟩) n cap) xs := by
  have hob : (Value.slice (some ⟨g, 0, none⟩) n cap).ownBlock = some g := rfl
  have hle : n * d.sz ≤ cap * d.sz := Nat.mul_le_mul_right _ hn
  refine ⟨fun k hk => by rw [hob] at hk; injection hk with hk; rw [← hk]; exact hok, Kd.chunks d.sz n (cur.take (n * d.sz)), by rw [Kd.chunks_length, hx], ⟨fun k hk => hk.symm, cur.take (n * d.sz), ?_, ?_⟩, fun j x c hj hc2 => ?_⟩
  · rw [Kd.chunks_length]
    exact ⟨by rw [List.length_take, hc]; show min (n * d.sz) (cap * d.sz) = n * d.sz; omega, .inr ⟨g, cap, cur.toArray, rfl, hb, hg, hn, hm, (show cur.toArray.size = cap * d.sz by simpa using hc), by simp; rfl⟩⟩
  · refine Kd.reps_raw (Rr := fun (x : α) c => Kd.FK d w (fun k => ok k ∧ k ≠ g) x c) (xs := xs) (sz := d.sz) (inner := cur.take (n * d.sz)) ?_ (fun x c hk => ⟨d.K_len (Kd.FK_now hk), d.K_one (Kd.FK_now hk)⟩) |> (hx ▸ ·)
    refine ⟨by rw [List.length_take, hc, hx]; omega, fun j x hj => ?_⟩
    have hjl : j < n := by rw [← hx]; exact (List.getElem?_eq_some_iff.1 hj).1
    have hle2 : j * d.sz + d.sz ≤ n * d.sz := by rw [← Nat.succ_mul]; exact Nat.mul_le_mul_right _ hjl
    have e1 : ((cur.take (n * d.sz)).drop (j * d.sz)).take d.sz = (cur.drop (j * d.sz)).take d.sz := by
      apply List.ext_getElem?
      intro q
      simp only [List.getElem?_take, List.getElem?_drop]
      split
      · rw [if_pos (by omega)]
      · rfl
    rw [e1]
    exact hf j x hj
  · have hjl : j < n := by rw [← hx]; exact (List.getElem?_eq_some_iff.1 hj).1
    have hle2 : j * d.sz + d.sz ≤ n * d.sz := by rw [← Nat.succ_mul]; exact Nat.mul_le_mul_right _ hjl
    rw [Kd.chunks_get hc2]
    have e1 : ((cur.take (n * d.sz)).drop (j * d.sz)).take d.sz = (cur.drop (j * d.sz)).take d.sz := by
      apply List.ext_getElem?
      intro q
      simp only [List.getElem?_take, List.getElem?_drop]
      split
      · rw [if_pos (by omega)]
      · rfl
    rw [e1]
    exact Kd.FK_mono (hf j x hj) (fun k hk => ⟨hk.1, fun he => by rw [hob] at he; injection he with he; exact hk.2 he⟩)
/-- Cells behind the first m elements are written; the first m stay. -/
theorem N_cut (h : Kd.N d e w base ok (.slice (some ⟨g, 0, none⟩) n cap) xs) {m : Nat} (hm : m ≤ n) (zs : List Value) (hz : m * d.sz + zs.length ≤ cap * d.sz) :
    Kd.N d e (w.setCells g (m * d.sz) zs) base ok (.slice (some ⟨g, 0, none⟩) m cap) (xs.take m) := by
  obtain ⟨cur, hblk, hcl, hnc, hcm, hb, hokg, hxl, hfk⟩ := N_cells h
  obtain ⟨cur', h3, h4, h5⟩ := setCells_row zs (m * d.sz) w cur.toArray hblk (by simpa [hcl] using hz)
  refine N_mk (cur := cur'.toList) (by simpa using h3) (by simpa [hcl] using h4) (by omega) hcm hb hokg (by rw [List.length_take]; omega) (fun j x hj => ?_)
  rw [List.getElem?_take] at hj
  split at hj
  · rename_i hjm
    have hle : j * d.sz + d.sz ≤ m * d.sz := by rw [← Nat.succ_mul]; exact Nat.mul_le_mul_right _ hjm
    have e1 : (cur'.toList.drop (j * d.sz)).take d.sz = (cur.drop (j * d.sz)).take d.sz := by
      rw [h5]
      apply List.ext_getElem?
      intro q
      simp only [List.getElem?_take, List.getElem?_drop]
      split
      · rw [List.append_assoc, List.getElem?_append_left (by simp; omega), List.getElem?_take, if_pos (by omega)]
      · rfl
    rw [e1]
    exact Kd.FK_step (hfk j x hj) (fun k hk _ => setCells_far zs _ k hk.2)
  · cases hj
theorem below_setCells {w0 : World} {B : Nat} (h : Below B w0 w) (hg : B ≤ g) (o : Nat) (zs : List Value) : Below B w0 (w.setCells g o zs) := by
  obtain ⟨s1, s2, s3, s4⟩ := setCells_same g zs o w
  exact h.trans ⟨s1, s2, s3, by rw [s4]; exact Nat.le_refl _, fun k hk => setCells_far zs _ k (by omega)⟩
end

section
variable {P : Program}
/-- copy at elements of sz cells. -/
theorem run_copyN (w : World) (dT sT ty elem : TypeId) (sz b o dLen dCap : Nat) (a : Addr) (sLen sCap : Nat) (cs : List Value)
    (hu : P.underlying dT = some (.slice elem)) (hs : (P.info? elem).map (·.size) = some sz) (hn : cs.length = Nat.min sLen dLen * sz)
    (hsrc : ∀ j v, cs[j]? = some v → w.cell? (a.add j) = some v) (hc : ∀ j, j < cs.length → (w.cell? ⟨b, o + j, none⟩).isSome = true) (hf : ∀ j, j < cs.length → w.frozen? ⟨b, o + j, none⟩ = false) (h1 : ∀ v ∈ cs, v.oneCell' = true) :
    (Builtin.copy_ #[dT, sT] ty #[.slice (some ⟨b, o, none⟩) dLen dCap, .slice (some a) sLen sCap]).run P w = .ok (goInt (Nat.min sLen dLen)) (w.setCells b o cs) := by
  have hl := run_loadCells_list (P := P) w a cs hsrc
  have hst := run_storeCells_cells (P := P) b o cs 0 w (by simpa using hc) (by simpa using hf) h1
  cases hq : P.info? elem with
  | none => simp [hq] at hs
  | some i =>
    have hi : i.size = sz := by simpa [hq] using hs
    simp [Builtin.copy_, run_underlying hu, Builtin.lenOf, Builtin.firstCells, sizeOf, typeInfo, hq, hi, ← hn, hl, hst]
/-- clear at elements of any size. -/
theorem run_clearN (w : World) (t e ty : TypeId) (z : Value) (ht : P.underlying t = some (.slice e)) (hv : ∀ w, (zeroValue e).run P w = .ok z w) (h1 : ∀ u ∈ z.cells.toList, u.oneCell' = true) (b o n c : Nat)
    (hc : ∀ j, j < n * z.cells.size → (w.cell? ⟨b, o + j, none⟩).isSome = true) (hf : ∀ j, j < n * z.cells.size → w.frozen? ⟨b, o + j, none⟩ = false) :
    (Builtin.clear_ #[t] ty #[.slice (some ⟨b, o, none⟩) n c]).run P w = .ok (.tuple #[]) (w.setCells b o (Builtin.zeroCells z.cells n).toList) := by
  have hlen : (Builtin.zeroCells z.cells n).toList.length = n * z.cells.size := by rw [Array.length_toList, size_zeroCells]
  have hz1 : ∀ v ∈ (Builtin.zeroCells z.cells n).toList, v.oneCell' = true := by
    intro v hv'
    obtain ⟨q, hq, rfl⟩ := List.mem_iff_getElem.1 hv'
    have hq2 : q < n * z.cells.size := by rwa [hlen] at hq
    have hz0 : 0 < z.cells.size := by
      rcases Nat.eq_zero_or_pos z.cells.size with h | h
      · rw [h, Nat.mul_zero] at hq2; omega
      · exact h
    simp only [Builtin.zeroCells, Array.getElem_toList]
    refine h1 _ ?_
    have hmod := Nat.mod_lt q hz0
    first
      | exact Array.getElem_mem_toList hmod
      | (rw [Array.getD_eq_getD_getElem?, Array.getElem?_eq_getElem hmod]; simp)
      | simp [hmod]
  have hst := run_storeCells_cells (P := P) b o (Builtin.zeroCells z.cells n).toList 0 w (by rw [hlen]; simpa using hc) (by rw [hlen]; simpa using hf) hz1
  simp only [Nat.add_zero] at hst
  cases n with
  | zero =>
    have h0 : (Builtin.zeroCells z.cells 0).toList = [] := List.eq_nil_of_length_eq_zero (by rw [hlen]; simp)
    rw [h0]
    simp [Builtin.clear_, run_underlying ht, World.setCells]
  | succ n => simp [Builtin.clear_, run_underlying ht, hv, hst]

section
variable {w : World} {ops : Array Oper} {rest : List Oper} {o : Oper} {a : Act} {Q : Exit → Act → World → Prop} {K : Act → World → Prop} {E : Prop}
/-- copy, its run known as an equation. -/
theorem wpList_copy_eq (hgd : o.guard = none) (d s : Operand) (t t' : TypeId)
    (ho : o.op = .call { callee := .builtin .copy, args := #[d, s], argTypes := #[t, t'] }) (v u : Value) (hd : a.eval d = v) (hs : a.eval s = u) {v' : Value} {w' : World}
    (hr : (Builtin.copy_ #[t, t'] o.type #[v, u]).run P w = .ok v' w') (h : wpList P ops Q rest (a.put o.dst v') w') : wpList P ops Q (o :: rest) a w := by
  refine wpList_plain hgd fun K hK => ?_
  unfold Oper.wp
  simp [execOp, ho, resolve, invoke, builtin, hd, hs, hr, Result.andThen]
  exact hK _ _ h
theorem step_copy_eq (hg : o.guard = none) (d x : Operand) (dT sT : TypeId) (hop : o.op = Op.call { callee := Callee.builtin Builtin.copy, args := #[d, x], argTypes := #[dT, sT] })
    (v u : Value) (hd : a.eval d = v) (hx : a.eval x = u) {v' : Value} {w' : World} (hr : (Builtin.copy_ #[dT, sT] o.type #[v, u]).run P w = .ok v' w') (hK : K (a.put o.dst v') w') :
    if Region.wanted o (yielded ops a.tmps) = true then Oper.wp P o a w K Q else E := by
  have hw : Region.wanted o (yielded ops a.tmps) = true := by simp [Region.wanted, hg]
  rw [if_pos hw]
  unfold Oper.wp
  simp [execOp, hop, resolve, invoke, builtin, hd, hx, hr, Result.andThen]
  exact hK
theorem wpList_clear_eq (hgd : o.guard = none) (d : Operand) (t : TypeId)
    (ho : o.op = .call { callee := .builtin .clear, args := #[d], argTypes := #[t] }) (v : Value) (hd : a.eval d = v) {v' : Value} {w' : World}
    (hr : (Builtin.clear_ #[t] o.type #[v]).run P w = .ok v' w') (h : wpList P ops Q rest (a.put o.dst v') w') : wpList P ops Q (o :: rest) a w := by
  refine wpList_plain hgd fun K hK => ?_
  unfold Oper.wp
  simp [execOp, ho, resolve, invoke, builtin, hd, hr, Result.andThen]
  exact hK _ _ h
end
end
end Go.Proofs.Ytlapiebnmbbemaa.A
