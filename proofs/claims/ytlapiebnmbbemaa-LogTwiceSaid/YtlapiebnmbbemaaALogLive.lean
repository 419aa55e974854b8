/- The contract of live: the chapter's examples hold. -/
import Derived.Test.YtlapiebnmbbemaaALogPut
import Derived.Test.YtlapiebnmbbemaaALogReady
import Derived.Test.YtlapiebnmbbemaaAFSpinneyref20Same
namespace Go.Proofs.Ytlapiebnmbbemaa.A
open Go.RowKit Go.Proofs.YtlapiebnmbbemaaW.PrintWords Go.Proofs.YtlapiebnmbbemaaW.PrintLast Go.Proofs.YtlapiebnmbbemaaW.PrintMore
set_option linter.unusedVariables false

set_option maxHeartbeats 1000000 in
set_option maxRecDepth 100000 in
theorem at_any (v : Value) (A : Option Addr) (n c : Nat) (hv : v = .slice A n c) (w : World) :
    Calls Try.prog 29 #[v] w fun e w' => e = .returned (.agg #[v, .int .i64 1, .slice none 0 0, .int .i64 0]) ∧ Below w.heap.size w w' := by
  subst hv
  have hu := Try.underlying29
  have hu2 := Try.underlying27
  go_enter Try.func29, Try.ntmps29
  go_wp2
  refine bodyPost_ret (results_cell_row rfl _ _ w.heap.size 29 #[.slice A n c, .int .i64 1, .slice none 0 0, .int .i64 0] (0, 0) _ rfl (blk_new w _) Try.underlying29 rfl (by kernel_rfl)) rfl ?_
  exact ⟨rfl, below_alloc (Below.refl _ _) _⟩

/-- The examples' entries. -/
def enL (a : List Int) : S29 := ⟨a, ⟨1, [], 0⟩⟩
theorem blk_below_a {W w1 : World} {g : Nat} {o : Obj} (hb : Aside0 (Below W.heap.size W w1)) (h : W.heap[g]? = some o) : w1.heap[g]? = some o := (hb.out.block g (blk_lt h)).trans h
theorem C_below_a {α : Type} {d : Kd α} {W w1 : World} {A : Option Addr} {n : Nat} {xs : List α} (hb : Aside0 (Below W.heap.size W w1)) (h : d.C W A n xs) : d.C w1 A n xs := Kd.C_below h hb.out
theorem C_lit {α : Type} (d : Kd α) (W : World) (g e : Nat) (cells : List Value) (xs : List α) (hblk : W.heap[g]? = some (.cells cells.toArray e (0, 0))) (hm : xs.length ≤ 9223372036854775807)
    (hx : ∀ j p, xs[j]? = some p → ∃ c, c.length = d.sz ∧ d.K W p c ∧ ∀ i u, c[i]? = some u → cells[j * d.sz + i]? = some u) : d.C W (some ⟨g, 0, none⟩) xs.length xs := by
  refine ⟨rfl, hm, fun _ => ⟨_, rfl, fun j p hj => ?_⟩⟩
  obtain ⟨c, h1, h2, h3⟩ := hx j p hj
  refine ⟨c, h1, h2, fun i u hu => ?_⟩
  rw [add_plain, cell_of_row W g _ cells.toArray e (0, 0) hblk]
  simpa using h3 i u hu
theorem ints_lit (W : World) (g : Nat) (xs : List Int) (hblk : W.heap[g]? = some (.cells (xs.map (Value.int .i64)).toArray 3 (0, 0))) (hm : xs.length ≤ 1000) : (Kd.int .i64).C W (some ⟨g, 0, none⟩) xs.length xs := by
  refine C_lit _ W g 3 _ xs hblk (by omega) (fun j p hj => ⟨[.int .i64 p], rfl, rfl, fun i u hu => ?_⟩)
  cases i with
  | succ i => simp at hu
  | zero =>
    show (xs.map (Value.int .i64))[j * 1 + 0]? = some u
    rw [Nat.mul_one, Nat.add_zero, List.getElem?_map, hj]
    exact hu
theorem rows_lit (W : World) (g g2 : Nat) (xs : List Int) (hblk : W.heap[g]? = some (.cells #[.slice (some ⟨g2, 0, none⟩) xs.length xs.length] 23 (0, 0))) (hx : (Kd.int .i64).C W (some ⟨g2, 0, none⟩) xs.length xs) : (Kd.slice 3 (Kd.int .i64)).C W (some ⟨g, 0, none⟩) 1 [xs] := by
  refine C_lit _ W g 23 [_] [xs] hblk (by simp) (fun j p hj => ⟨[.slice (some ⟨g2, 0, none⟩) xs.length xs.length], rfl, ?_, fun i u hu => ?_⟩)
  · cases j with
    | succ j => simp at hj
    | zero =>
      simp only [List.getElem?_cons_zero, Option.some.injEq] at hj
      subst hj
      exact ⟨_, _, rfl, Nat.le_refl _, hx⟩
  · cases j with
    | succ j => simp at hj
    | zero => show [_][0 * 1 + i]? = some u; simpa using hu
/-- A call of Put, where only what can be read counts. -/
theorem put_reads (A0 : Option Addr) (c0 : Nat) (l0 : List S29) (A1 : Option Addr) (c1 : Nat) (la : List Int) (W : World) (h0 : Kd.C k29 W A0 l0.length l0) (hc0 : l0.length ≤ c0) (h1 : (Kd.int .i64).C W A1 la.length la) (hc1 : la.length ≤ c1) (r1 : List S29) (r2 : Int)
    (hf : log_Put.f l0 la 1 [] 0 = some (r1, r2)) :
    Calls Try.prog 12 #[.slice A0 l0.length c0, .agg #[.slice A1 la.length c1, .int .i64 1, .slice none 0 0, .int .i64 0]] W fun e w' => ∃ A c, e = .returned (.tuple #[.slice A r1.length c, .int .i64 r2]) ∧ r1.length ≤ c ∧ Kd.C k29 w' A r1.length r1 ∧ Below W.heap.size W w' := by
  refine (log_Put.calls (fun k => k < W.heap.size) A0 c0 l0 (fun k => k < W.heap.size) A1 c1 la 1 (fun k => k < W.heap.size) none 0 [] 0 r1 r2 W (Kd.V_mk hc0 (Kd.C_F k29_heap h0)) (Kd.V_mk hc1 (Kd.C_F (Kd.heap_int .i64) h1)) (Kd.V_nil _ _ _ _ _) hf).mono ?_
  rintro e w' ⟨v, rfl, hN, hb⟩
  obtain ⟨A, c, rfl⟩ := Kd.N_slice hN
  exact ⟨A, c, rfl, (Kd.N_reads' hN).2.1, (Kd.N_reads' hN).2.2, hb⟩

theorem ints_one (W : World) (g : Nat) (a : Int) (hblk : W.heap[g]? = some (.cells #[.int .i64 a] 3 (0, 0))) : (Kd.int .i64).C W (some ⟨g, 0, none⟩) 1 [a] := ints_lit W g [a] hblk (by simp)
theorem ints_two (W : World) (g : Nat) (a b : Int) (hblk : W.heap[g]? = some (.cells #[.int .i64 a, .int .i64 b] 3 (0, 0))) : (Kd.int .i64).C W (some ⟨g, 0, none⟩) 2 [a, b] := ints_lit W g [a, b] hblk (by simp)
theorem below_a {w W w1 : World} (hb : Aside0 (Below W.heap.size W w1)) (h : Below w.heap.size w W) : Below w.heap.size w w1 := below_step h hb.out
theorem put1 : log_Put.f [] [2] 1 [] 0 = some ([enL [2]], 0) := by kernel_rfl
theorem put2 : log_Put.f [enL [2]] [0] 1 [] 0 = some ([enL [0], enL [2]], 0) := by kernel_rfl
theorem put3 : log_Put.f [enL [0], enL [2]] [1, 2] 1 [] 0 = some ([enL [0], enL [1, 2], enL [2]], 0) := by kernel_rfl
theorem put4 : log_Put.f [enL [0], enL [1, 2], enL [2]] [0] 1 [] 0 = some ([], 1) := by kernel_rfl
theorem ready1 : log_Ready.f [enL [0], enL [1, 2], enL [2]] [[1, 3]] = some 2 := by kernel_rfl
theorem ready2 : log_Ready.f [enL [0], enL [1, 2], enL [2]] [[1]] = some 1 := by kernel_rfl
theorem ready3 : log_Ready.f [enL [0], enL [1, 2], enL [2]] [[2]] = some 2 := by kernel_rfl
theorem ready4 : log_Ready.f [enL [0], enL [1, 2], enL [2]] [] = some 3 := by kernel_rfl
theorem same3 : spinneyref20_Same.f 20 [enL [0], enL [1, 2], enL [2]] [enL [0], enL [1, 2], enL [2]] = some true := by kernel_rfl
/-- A log that can be read. -/
structure Logged (W : World) (A : Option Addr) (c : Nat) (L : List S29) : Prop where
  fits : L.length ≤ c
  reads : Kd.C k29 W A L.length L
theorem put_a (A0 : Option Addr) (c0 : Nat) (A1 : Option Addr) (W : World) (h : Logged W A0 c0 []) (h1 : (Kd.int .i64).C W A1 1 [2]) :
    Calls Try.prog 12 #[.slice A0 0 c0, .agg #[.slice A1 1 1, .int .i64 1, .slice none 0 0, .int .i64 0]] W fun e w' => ∃ A c, e = .returned (.tuple #[.slice A 1 c, .int .i64 0]) ∧ Logged w' A c [enL [2]] ∧ Below W.heap.size W w' := by
  refine (put_reads A0 c0 [] A1 1 [2] W h.reads h.fits h1 (Nat.le_refl _) [enL [2]] 0 put1).mono ?_
  rintro e w2 ⟨A, c, rfl, hc, hC, hb⟩
  exact ⟨A, c, rfl, ⟨hc, hC⟩, hb⟩
theorem put_b (A0 : Option Addr) (c0 : Nat) (A1 : Option Addr) (W : World) (h : Logged W A0 c0 [enL [2]]) (h1 : (Kd.int .i64).C W A1 1 [0]) :
    Calls Try.prog 12 #[.slice A0 1 c0, .agg #[.slice A1 1 1, .int .i64 1, .slice none 0 0, .int .i64 0]] W fun e w' => ∃ A c, e = .returned (.tuple #[.slice A 2 c, .int .i64 0]) ∧ Logged w' A c [enL [0], enL [2]] ∧ Below W.heap.size W w' := by
  refine (put_reads A0 c0 [enL [2]] A1 1 [0] W h.reads h.fits h1 (Nat.le_refl _) [enL [0], enL [2]] 0 put2).mono ?_
  rintro e w2 ⟨A, c, rfl, hc, hC, hb⟩
  exact ⟨A, c, rfl, ⟨hc, hC⟩, hb⟩
theorem put_c (A0 : Option Addr) (c0 : Nat) (A1 : Option Addr) (W : World) (h : Logged W A0 c0 [enL [0], enL [2]]) (h1 : (Kd.int .i64).C W A1 2 [1, 2]) :
    Calls Try.prog 12 #[.slice A0 2 c0, .agg #[.slice A1 2 2, .int .i64 1, .slice none 0 0, .int .i64 0]] W fun e w' => ∃ A c, e = .returned (.tuple #[.slice A 3 c, .int .i64 0]) ∧ Logged w' A c [enL [0], enL [1, 2], enL [2]] ∧ Below W.heap.size W w' := by
  refine (put_reads A0 c0 [enL [0], enL [2]] A1 2 [1, 2] W h.reads h.fits h1 (Nat.le_refl _) [enL [0], enL [1, 2], enL [2]] 0 put3).mono ?_
  rintro e w2 ⟨A, c, rfl, hc, hC, hb⟩
  exact ⟨A, c, rfl, ⟨hc, hC⟩, hb⟩
theorem put_d (A0 : Option Addr) (c0 : Nat) (A1 : Option Addr) (W : World) (h : Logged W A0 c0 [enL [0], enL [1, 2], enL [2]]) (h1 : (Kd.int .i64).C W A1 1 [0]) :
    Calls Try.prog 12 #[.slice A0 3 c0, .agg #[.slice A1 1 1, .int .i64 1, .slice none 0 0, .int .i64 0]] W fun e w' => ∃ A c, e = .returned (.tuple #[.slice A 0 c, .int .i64 1]) ∧ Logged w' A c [] ∧ Below W.heap.size W w' := by
  refine (put_reads A0 c0 [enL [0], enL [1, 2], enL [2]] A1 1 [0] W h.reads h.fits h1 (Nat.le_refl _) [] 1 put4).mono ?_
  rintro e w2 ⟨A, c, rfl, hc, hC, hb⟩
  exact ⟨A, c, rfl, ⟨hc, hC⟩, hb⟩
theorem Logged.below {W w1 : World} {A : Option Addr} {c : Nat} {L : List S29} (h : Logged W A c L) (hb : Below W.heap.size W w1) : Logged w1 A c L := ⟨h.fits, Kd.C_below h.reads hb⟩
theorem Logged.alloc {W : World} {A : Option Addr} {c : Nat} {L : List S29} (h : Logged W A c L) (o : Obj) : Logged (W.alloc o) A c L := ⟨h.fits, Kd.C_alloc h.reads o⟩
theorem Logged.drew {W : World} {A : Option Addr} {c : Nat} {L : List S29} (h : Logged W A c L) : Logged W.drew A c L := ⟨h.fits, Kd.C_drew h.reads⟩
theorem same_lit (A0 : Option Addr) (c0 : Nat) (A1 : Option Addr) (W : World) (h : Logged W A0 c0 [enL [0], enL [1, 2], enL [2]]) (h1 : Kd.C k29 W A1 3 [enL [0], enL [1, 2], enL [2]]) :
    Calls Try.prog 11 #[.slice A0 3 c0, .slice A1 3 3] W fun e w' => e = .returned (.bool true) ∧ Below W.heap.size W w' :=
  spinneyref20_Same.calls 20 A0 c0 [enL [0], enL [1, 2], enL [2]] A1 3 [enL [0], enL [1, 2], enL [2]] true W h.reads h.fits h1 (Nat.le_refl _) same3
theorem ready_lit (A0 : Option Addr) (c0 : Nat) (A1 : Option Addr) (W : World) (os : List Int) (r : Int) (hf : log_Ready.f [enL [0], enL [1, 2], enL [2]] [os] = some r) (h : Logged W A0 c0 [enL [0], enL [1, 2], enL [2]]) (h1 : (Kd.slice 3 (Kd.int .i64)).C W A1 1 [os]) :
    Calls Try.prog 15 #[.slice A0 3 c0, .slice A1 1 1] W fun e w' => e = .returned (.int .i64 r) ∧ Below W.heap.size W w' :=
  log_Ready.calls A0 c0 [enL [0], enL [1, 2], enL [2]] A1 1 [os] r W h.reads h.fits h1 (Nat.le_refl _) hf
theorem ready_nil (A0 : Option Addr) (c0 : Nat) (W : World) (h : Logged W A0 c0 [enL [0], enL [1, 2], enL [2]]) :
    Calls Try.prog 15 #[.slice A0 3 c0, .slice none 0 0] W fun e w' => e = .returned (.int .i64 3) ∧ Below W.heap.size W w' :=
  log_Ready.calls A0 c0 [enL [0], enL [1, 2], enL [2]] none 0 [] 3 W h.reads h.fits (Kd.C_nil _ _) (Nat.le_refl _) ready4
theorem rows_one (W : World) (g g2 : Nat) (a : Int) (hblk : W.heap[g]? = some (.cells #[.slice (some ⟨g2, 0, none⟩) 1 1] 23 (0, 0))) (hx : W.heap[g2]? = some (.cells #[.int .i64 a] 3 (0, 0))) : (Kd.slice 3 (Kd.int .i64)).C W (some ⟨g, 0, none⟩) 1 [[a]] := rows_lit W g g2 [a] hblk (ints_one W g2 a hx)
theorem rows_two (W : World) (g g2 : Nat) (a b : Int) (hblk : W.heap[g]? = some (.cells #[.slice (some ⟨g2, 0, none⟩) 2 2] 23 (0, 0))) (hx : W.heap[g2]? = some (.cells #[.int .i64 a, .int .i64 b] 3 (0, 0))) : (Kd.slice 3 (Kd.int .i64)).C W (some ⟨g, 0, none⟩) 1 [[a, b]] := rows_lit W g g2 [a, b] hblk (ints_two W g2 a b hx)
theorem en_K (W : World) (g n : Nat) (a : List Int) (h : (Kd.int .i64).C W (some ⟨g, 0, none⟩) a.length a) (hn : a.length = n) : k29.K W (enL a) [.slice (some ⟨g, 0, none⟩) n n, .int .i64 1, .slice none 0 0, .int .i64 0] := by
  subst hn
  exact k29_mk W (enL a) (Nat.le_refl _) h (Nat.le_refl _) (Kd.C_nil _ _)
theorem rows3 (W : World) (g g0 g1 g2 : Nat) (hblk : W.heap[g]? = some (.cells #[.slice (some ⟨g0, 0, none⟩) 1 1, .int .i64 1, .slice none 0 0, .int .i64 0, .slice (some ⟨g1, 0, none⟩) 2 2, .int .i64 1, .slice none 0 0, .int .i64 0, .slice (some ⟨g2, 0, none⟩) 1 1, .int .i64 1, .slice none 0 0, .int .i64 0] 29 (0, 0)))
    (h0 : W.heap[g0]? = some (.cells #[.int .i64 0] 3 (0, 0))) (h1 : W.heap[g1]? = some (.cells #[.int .i64 1, .int .i64 2] 3 (0, 0))) (h2 : W.heap[g2]? = some (.cells #[.int .i64 2] 3 (0, 0))) : Kd.C k29 W (some ⟨g, 0, none⟩) 3 [enL [0], enL [1, 2], enL [2]] := by
  refine C_lit _ W g 29 [_, _, _, _, _, _, _, _, _, _, _, _] [enL [0], enL [1, 2], enL [2]] hblk (by simp) (fun j p hj => ?_)
  match j with
  | 0 => cases hj; exact ⟨_, rfl, en_K W g0 1 [0] (ints_one W g0 0 h0) rfl, fun i u hu => by match i with | 0 => exact hu | 1 => exact hu | 2 => exact hu | 3 => exact hu | i + 4 => simp at hu⟩
  | 1 => cases hj; exact ⟨_, rfl, en_K W g1 2 [1, 2] (ints_two W g1 1 2 h1) rfl, fun i u hu => by match i with | 0 => exact hu | 1 => exact hu | 2 => exact hu | 3 => exact hu | i + 4 => simp at hu⟩
  | 2 => cases hj; exact ⟨_, rfl, en_K W g2 1 [2] (ints_one W g2 2 h2) rfl, fun i u hu => by match i with | 0 => exact hu | 1 => exact hu | 2 => exact hu | 3 => exact hu | i + 4 => simp at hu⟩
  | j + 3 => simp at hj
theorem blk_new2 (w : World) (o o' : Obj) : ((w.alloc o).alloc o').heap[w.heap.size + 1]? = some o' := by
  have h := blk_new (w.alloc o) o'
  rwa [show (w.alloc o).heap.size = w.heap.size + 1 from Array.size_push ..] at h
theorem rows_one' (w : World) (a : Int) : (Kd.slice 3 (Kd.int .i64)).C ((w.alloc (.cells #[.int .i64 a] 3)).alloc (.cells #[.slice (some ⟨w.heap.size, 0, none⟩) 1 1] 23)) (some ⟨w.heap.size + 1, 0, none⟩) 1 [[a]] :=
  rows_one _ _ w.heap.size a (blk_new2 _ _ _) (blk_alloc (blk_new _ _) _)
theorem rows_two' (w : World) (a b : Int) : (Kd.slice 3 (Kd.int .i64)).C ((w.alloc (.cells #[.int .i64 a, .int .i64 b] 3)).alloc (.cells #[.slice (some ⟨w.heap.size, 0, none⟩) 2 2] 23)) (some ⟨w.heap.size + 1, 0, none⟩) 1 [[a, b]] :=
  rows_two _ _ w.heap.size a b (blk_new2 _ _ _) (blk_alloc (blk_new _ _) _)

def spinneylaw20_live.f : Option Bool := some true
set_option maxHeartbeats 1000000 in
set_option maxRecDepth 100000 in
theorem spinneylaw20_live.calls (r : Bool) (w : World) (h : spinneylaw20_live.f = some r) :
    Calls Try.prog 7 #[] w fun e w' => e = .returned (.bool r) ∧ Below w.heap.size w w' := by
  injection h with h
  subst h
  go_enter Try.func7, Try.ntmps7
  go_upto_region 5 with (first
    | (go_at_call 29; go_must (refine (at_any _ _ _ _ rfl _).mono ?_; rintro e w1 ⟨rfl, hb⟩; have HB1 := Aside0.mk hb; (try have HC2 := Aside0.mk (Logged.below (Logged.alloc HC2.out _) hb)); clear hb))
    | (go_at_call 12; go_must ((first
        | (rename Aside0 (Logged _ _ _ [enL [0], enL [1, 2], enL [2]]) => hg; refine (put_d _ _ _ _ hg.out ?i).mono ?_; (case i => refine ints_one _ _ _ ?_; (repeat (first | (with_reducible exact blk_new _ _) | (with_reducible exact blk_new2 _ _ _) | (with_reducible refine blk_alloc ?_ _) | (with_reducible refine blk_drew ?_) | (with_reducible refine blk_below_a (by assumption) ?_))); done))
        | (rename Aside0 (Logged _ _ _ [enL [0], enL [2]]) => hg; refine (put_c _ _ _ _ hg.out ?i).mono ?_; (case i => refine ints_two _ _ _ _ ?_; (repeat (first | (with_reducible exact blk_new _ _) | (with_reducible exact blk_new2 _ _ _) | (with_reducible refine blk_alloc ?_ _) | (with_reducible refine blk_drew ?_) | (with_reducible refine blk_below_a (by assumption) ?_))); done))
        | (rename Aside0 (Logged _ _ _ [enL [2]]) => hg; refine (put_b _ _ _ _ hg.out ?i).mono ?_; (case i => refine ints_one _ _ _ ?_; (repeat (first | (with_reducible exact blk_new _ _) | (with_reducible exact blk_new2 _ _ _) | (with_reducible refine blk_alloc ?_ _) | (with_reducible refine blk_drew ?_) | (with_reducible refine blk_below_a (by assumption) ?_))); done))
        | ((fail_if_success (rename Aside0 (Logged _ _ _ _) => hg)); refine (put_a none 0 _ _ ⟨Nat.le_refl _, Kd.C_nil _ _⟩ ?i).mono ?_; (case i => refine ints_one _ _ _ ?_; (repeat (first | (with_reducible exact blk_new _ _) | (with_reducible exact blk_new2 _ _ _) | (with_reducible refine blk_alloc ?_ _) | (with_reducible refine blk_drew ?_) | (with_reducible refine blk_below_a (by assumption) ?_))); done))); rintro e w2 ⟨A, c, rfl, hL, hb⟩; have HB2 := Aside0.mk hb; (try have HL := Aside0.mk (Logged.below hg.out hb)); have HC2 := Aside0.mk hL; clear hb hL))
    | fail)
  have HB0 : Aside0 (Below w.heap.size w w2) := ⟨by (repeat (first | (with_reducible exact Below.refl _ _) | (with_reducible refine below_alloc ?_ _) | (with_reducible refine below_drew ?_) | (with_reducible refine below_a (by assumption) ?_)))⟩
  go_wp2_with (first
    | (go_at_call 29; go_must (refine (at_any _ _ _ _ rfl _).mono ?_; rintro e w1 ⟨rfl, hb⟩; have HB1 := Aside0.mk hb; clear hb))
    | (go_at_call 11; go_must (refine (same_lit _ _ _ _ ?ql ?qr).mono ?_; (case ql => exact ⟨HL.out.fits, by (repeat (first | (with_reducible exact HL.out.reads) | (with_reducible refine Kd.C_alloc ?_ _) | (with_reducible refine Kd.C_drew ?_) | (with_reducible refine C_below_a (by assumption) ?_)))⟩); (case qr => exact rows3 _ _ _ _ _ (by (repeat (first | (with_reducible exact blk_new _ _) | (with_reducible exact blk_new2 _ _ _) | (with_reducible refine blk_alloc ?_ _) | (with_reducible refine blk_drew ?_) | (with_reducible refine blk_below_a (by assumption) ?_)))) (by (repeat (first | (with_reducible exact blk_new _ _) | (with_reducible exact blk_new2 _ _ _) | (with_reducible refine blk_alloc ?_ _) | (with_reducible refine blk_drew ?_) | (with_reducible refine blk_below_a (by assumption) ?_)))) (by (repeat (first | (with_reducible exact blk_new _ _) | (with_reducible exact blk_new2 _ _ _) | (with_reducible refine blk_alloc ?_ _) | (with_reducible refine blk_drew ?_) | (with_reducible refine blk_below_a (by assumption) ?_)))) (by (repeat (first | (with_reducible exact blk_new _ _) | (with_reducible exact blk_new2 _ _ _) | (with_reducible refine blk_alloc ?_ _) | (with_reducible refine blk_drew ?_) | (with_reducible refine blk_below_a (by assumption) ?_))))); rintro e w3 ⟨rfl, hb⟩; have HB1 := Aside0.mk hb; clear hb))
    | (go_at_call_of 15 (Value.slice none 0 0); go_must (refine (ready_nil _ _ _ ?ql).mono ?_; (case ql => exact ⟨HL.out.fits, by (repeat (first | (with_reducible exact HL.out.reads) | (with_reducible refine Kd.C_alloc ?_ _) | (with_reducible refine Kd.C_drew ?_) | (with_reducible refine C_below_a (by assumption) ?_)))⟩); rintro e w3 ⟨rfl, hb⟩; have HB1 := Aside0.mk hb; clear hb))
    | (go_at_call 15; go_must ((first
        | (refine (ready_lit _ _ _ _ [1, 3] 2 ready1 ?ql ?qr).mono ?_; (case ql => exact ⟨HL.out.fits, by (repeat (first | (with_reducible exact HL.out.reads) | (with_reducible refine Kd.C_alloc ?_ _) | (with_reducible refine Kd.C_drew ?_) | (with_reducible refine C_below_a (by assumption) ?_)))⟩); (case qr => with_reducible exact rows_two' _ _ _))
        | (refine (ready_lit _ _ _ _ [1] 1 ready2 ?ql ?qr).mono ?_; (case ql => exact ⟨HL.out.fits, by (repeat (first | (with_reducible exact HL.out.reads) | (with_reducible refine Kd.C_alloc ?_ _) | (with_reducible refine Kd.C_drew ?_) | (with_reducible refine C_below_a (by assumption) ?_)))⟩); (case qr => with_reducible exact rows_one' _ _))
        | (refine (ready_lit _ _ _ _ [2] 2 ready3 ?ql ?qr).mono ?_; (case ql => exact ⟨HL.out.fits, by (repeat (first | (with_reducible exact HL.out.reads) | (with_reducible refine Kd.C_alloc ?_ _) | (with_reducible refine Kd.C_drew ?_) | (with_reducible refine C_below_a (by assumption) ?_)))⟩); (case qr => with_reducible exact rows_one' _ _))); rintro e w3 ⟨rfl, hb⟩; have HB1 := Aside0.mk hb; clear hb))
    | fail)
  go_ret
  exact ⟨rfl, by (repeat (first | (with_reducible exact Below.refl _ _) | (with_reducible refine below_alloc ?_ _) | (with_reducible refine below_drew ?_) | (with_reducible refine below_a (by assumption) ?_)))⟩
end Go.Proofs.Ytlapiebnmbbemaa.A
