-- Written by my drive.py over the kit's print program. Not trusted: Lean checks it.
import Derived.Test.YtlapiebnmbbemaaProg
import Derived.Below
import Derived.Deep.Draws
import Derived.Deep.AppendLies
import Derived.Maps.AppendAt
import Derived.OwnWalk
import Derived.Laws.BytesArg
import Derived.Laws.MakeOwn
import Derived.Laws.OwnMore
import Derived.Deep.OwnRows
import Derived.Tactics
import Derived.Lib.ConvBytes
import Derived.Laws.Slices
import Derived.WalkKit
import Derived.KernelRfl
import Derived.RowKit3
import Derived.Deep.LoopGhost
import Derived.Deep.QuietTactic
import Derived.BigQuiet
import Derived.WideLaws
import Derived.Deep.DeepCutAuto
import Derived.Deep.CutBlock
import Derived.Deep.RegionHeld3
import Derived.Laws.Rows
import Derived.Lib.AppendStr
import Derived.ArgAppend
import Derived.Laws.IdiomCopy
import Derived.OrdersHeld
import Derived.Laws.BitsLemmas
import Derived.RowKit
import Derived.Test.YtlapiebnmbbemaaWWords
import Derived.Test.YtlapiebnmbbemaaWLast
import Derived.Test.YtlapiebnmbbemaaWTab
import Derived.Test.YtlapiebnmbbemaaWFour
import Derived.Test.YtlapiebnmbbemaaWQPut
import Derived.Test.YtlapiebnmbbemaaWApart
import Derived.Test.YtlapiebnmbbemaaWArr
import Derived.Test.YtlapiebnmbbemaaWZeros
import Derived.Test.YtlapiebnmbbemaaWFoot
import Derived.Test.YtlapiebnmbbemaaWKept
import Derived.Test.YtlapiebnmbbemaaWShare
import Derived.Test.YtlapiebnmbbemaaWN
import Derived.Test.YtlapiebnmbbemaaWFootNe
import Derived.Test.YtlapiebnmbbemaaWAt
import Derived.Test.YtlapiebnmbbemaaWEqStruct
import Derived.Test.YtlapiebnmbbemaaWRepsOne
import Derived.Test.YtlapiebnmbbemaaWInv
import Derived.Test.YtlapiebnmbbemaaWInvWords
import Derived.Test.YtlapiebnmbbemaaWGuard
import Derived.Test.YtlapiebnmbbemaaWNEv
import Derived.Test.YtlapiebnmbbemaaWMore
namespace Go.Proofs.Ytlapiebnmbbemaa.A
open Go.RowKit Go.Proofs.YtlapiebnmbbemaaW.PrintWords Go.Proofs.YtlapiebnmbbemaaW.PrintLast Go.Proofs.YtlapiebnmbbemaaW.PrintMore
attribute [local go_sem] max2_int min2_int max_two min_two max_three min_three max_four min_four   -- for this text's walks alone
set_option linter.unusedVariables false
set_option linter.unusedSimpArgs false

def errW : Option Int → Value
  | none => .nilIface
  | some c => .iface 0 (.int .i64 c)
theorem errW_none : errW none = .nilIface := rfl
theorem errW_some (c : Int) : errW (some c) = .iface 0 (.int .i64 c) := rfl

theorem info3 : (Try.prog.info? 3).map (fun i => (i.zero, i.size, i.bytes)) = some (some (.int .i64 0), 1, 8) := by kernel_rfl
theorem info23 : (Try.prog.info? 23).map (fun i => (i.zero, i.size, i.bytes)) = some (some (.slice none 0 0), 1, 24) := by kernel_rfl
theorem info27 : (Try.prog.info? 27).map (fun i => (i.zero, i.size, i.bytes)) = some (some (.agg #[(.int .i64 0), (.slice none 0 0), (.int .i64 0)]), 3, 40) := by kernel_rfl
theorem info29 : (Try.prog.info? 29).map (fun i => (i.zero, i.size, i.bytes)) = some (some (.agg #[(.slice none 0 0), (.int .i64 0), (.slice none 0 0), (.int .i64 0)]), 4, 64) := by kernel_rfl
-- the values' own types
/-! #### struct type 47, nested in itself -/
structure S47 where
  f0 : Int
  f1 : ByteArray
  f2 : Int
  f3 : (List S47)
def z47 : S47 := ⟨(0 : Int), (⟨#[]⟩ : ByteArray), (0 : Int), ([] : List S47)⟩
def F47 (d : Kd S47) : Kd S47 := Kd.iso (Kd.pair (Kd.int .i64) (Kd.pair Kd.string (Kd.pair (Kd.int .i64) (Kd.slice 47 d)))) (fun x : S47 => (x.f0, x.f1, x.f2, x.f3))
theorem mono47 : Kd.Mono F47 := Kd.mono_iso _ (Kd.mono_pair (Kd.mono_const _) (Kd.mono_pair (Kd.mono_const _) (Kd.mono_pair (Kd.mono_const _) (Kd.mono_slice 47 Kd.mono_id))))
theorem sub47 : Kd.Sub F47 [47] := Kd.sub_iso _ (Kd.sub_pair (Kd.sub_const _ (by decide)) (Kd.sub_pair (Kd.sub_const _ (by decide)) (Kd.sub_pair (Kd.sub_const _ (by decide)) (Kd.sub_slice 47 (by decide) Kd.sub_id))))
theorem sz47 : ∀ n, (Kd.upto F47 4 [47] n).sz = 4 := Kd.upto_sz (fun _ => rfl)
def k47 : Kd S47 := Kd.fix F47 4 [47] sz47 (Kd.upto_E sub47)
theorem k47_heap : Kd.Heap k47 := Kd.heap_fix (fun _ h_ => Kd.heap_iso _ (Kd.heap_pair (Kd.heap_int .i64) (Kd.heap_pair Kd.heap_string (Kd.heap_pair (Kd.heap_int .i64) (Kd.heap_slice 47 h_)))))
theorem k47_open {w : World} {x : S47} {cs : List Value} (h : k47.K w x cs) : ∃ A3 c3, cs = [.int .i64 x.f0, .string x.f1, .int .i64 x.f2, .slice A3 x.f3.length c3] ∧ x.f3.length ≤ c3 ∧ k47.C w A3 x.f3.length x.f3 := by
  obtain ⟨n, h⟩ := h
  cases n with
  | zero => exact h.elim
  | succ n =>
    obtain ⟨_, _, rfl, rfl, ⟨_, _, rfl, rfl, ⟨_, _, rfl, rfl, ⟨A3, c3, rfl, l3, g3⟩⟩⟩⟩ := h
    exact ⟨A3, c3, rfl, l3, Kd.fix_C g3⟩
theorem k47_openM {w : World} {base : Nat} {ok : Nat → Prop} {x : S47} {cs : List Value} (h : k47.M w base ok x cs) : ∃ v3, cs = [.int .i64 x.f0, .string x.f1, .int .i64 x.f2, v3] ∧ k47.R 47 w base ok v3 x.f3 := by
  obtain ⟨n, h⟩ := h
  cases n with
  | zero => exact h.elim
  | succ n =>
    obtain ⟨_, _, rfl, rfl, ⟨_, _, rfl, rfl, ⟨_, _, rfl, rfl, ⟨v3, rfl, g3⟩⟩⟩⟩ := h
    exact ⟨v3, rfl, Kd.fix_R g3⟩
theorem k47_mk (w : World) (x : S47) {A3 : Option Addr} {c3 : Nat} (l3 : x.f3.length ≤ c3) (g3 : k47.C w A3 x.f3.length x.f3) : k47.K w x [.int .i64 x.f0, .string x.f1, .int .i64 x.f2, .slice A3 x.f3.length c3] := by
  obtain ⟨n3, q3⟩ := Kd.fix_C_back mono47 g3
  have r3 := Kd.upto_C_le mono47 sz47 (show n3 ≤ n3 by omega) q3
  exact ⟨n3 + 1, ⟨[.int .i64 x.f0], [.string x.f1, .int .i64 x.f2, .slice A3 x.f3.length c3], rfl, rfl, ⟨[.string x.f1], [.int .i64 x.f2, .slice A3 x.f3.length c3], rfl, rfl, ⟨[.int .i64 x.f2], [.slice A3 x.f3.length c3], rfl, rfl, ⟨A3, c3, rfl, l3, r3⟩⟩⟩⟩⟩
theorem k47_mkM (w : World) (base : Nat) (ok : Nat → Prop) (x : S47) {v3 : Value} (g3 : k47.R 47 w base ok v3 x.f3) : k47.M w base ok x [.int .i64 x.f0, .string x.f1, .int .i64 x.f2, v3] := by
  obtain ⟨n3, q3⟩ := Kd.fix_R_back mono47 g3
  have r3 := Kd.upto_R_le mono47 sz47 (show n3 ≤ n3 by omega) q3
  exact ⟨n3 + 1, ⟨[.int .i64 x.f0], [.string x.f1, .int .i64 x.f2, v3], rfl, rfl, ⟨[.string x.f1], [.int .i64 x.f2, v3], rfl, rfl, ⟨[.int .i64 x.f2], [v3], rfl, rfl, ⟨v3, rfl, r3⟩⟩⟩⟩⟩
theorem k47_openF {W : World} {ok : Nat → Prop} {x : S47} {cs : List Value} (h : Kd.FK k47 W ok x cs) : ∃ A3 c3, cs = [.int .i64 x.f0, .string x.f1, .int .i64 x.f2, .slice A3 x.f3.length c3] ∧ x.f3.length ≤ c3 ∧ Kd.F k47 W ok A3 x.f3.length x.f3 := by
  obtain ⟨A3, c3, rfl, l3, _⟩ := k47_open (Kd.FK_now h)
  exact ⟨A3, c3, rfl, l3, (fun W' hW => by obtain ⟨A3_, c3_, he, l3_, g3_⟩ := k47_open (h W' hW); injection (Option.some.inj (show some (Value.slice A3 x.f3.length c3) = some (Value.slice A3_ x.f3.length c3_) from congrArg (fun l => l[3]?) he)) with ha_ _ _; rw [ha_]; exact g3_)⟩
theorem k47_mkF (W : World) (ok : Nat → Prop) (x : S47) {A3 : Option Addr} {c3 : Nat} (l3 : x.f3.length ≤ c3) (g3 : Kd.F k47 W ok A3 x.f3.length x.f3) : Kd.FK k47 W ok x [.int .i64 x.f0, .string x.f1, .int .i64 x.f2, .slice A3 x.f3.length c3] := fun W2 hW => k47_mk W2 x l3 (g3 W2 hW)
def rd_T47 (xs : List S47) (i : Int) : S47 := xs.getD i.toNat z47
theorem at_T47 {w : World} {A : Option Addr} {n : Nat} {xs : List S47} (h : Kd.C k47 w A n xs) (i : Int) (h0 : 0 ≤ i) (h1 : i < n) : ∃ ad A3 c3, A = some ad ∧ w.cell? (ad.add (i.toNat * 4)) = some (.int .i64 (rd_T47 xs i).f0) ∧ w.cell? ⟨(ad.add (i.toNat * 4)).block, (ad.add (i.toNat * 4)).off + 1, none⟩ = some (.string (rd_T47 xs i).f1) ∧ w.cell? ⟨(ad.add (i.toNat * 4)).block, (ad.add (i.toNat * 4)).off + 2, none⟩ = some (.int .i64 (rd_T47 xs i).f2) ∧ w.cell? ⟨(ad.add (i.toNat * 4)).block, (ad.add (i.toNat * 4)).off + 3, none⟩ = some (.slice A3 (rd_T47 xs i).f3.length c3) ∧ (rd_T47 xs i).f3.length ≤ c3 ∧ k47.C w A3 (rd_T47 xs i).f3.length (rd_T47 xs i).f3 := by
  obtain ⟨ad, c, e, _, hK, hc0⟩ := Kd.C_get h z47 i h0 h1
  have hc : ∀ j u, c[j]? = some u → w.cell? (ad.add (i.toNat * 4 + j)) = some u := hc0
  obtain ⟨A3, c3, rfl, l3, g3⟩ := k47_open hK
  exact ⟨ad, A3, c3, e, hc 0 _ rfl, by rw [← add_field _ _ 1 (by omega)]; exact hc 1 _ rfl, by rw [← add_field _ _ 2 (by omega)]; exact hc 2 _ rfl, by rw [← add_field _ _ 3 (by omega)]; exact hc 3 _ rfl, l3, g3⟩

def rd_L3 (xs : List (List Int)) (i : Int) : (List Int) := xs.getD i.toNat ([] : List Int)
theorem at_L3 {w : World} {A : Option Addr} {n : Nat} {xs : List (List Int)} (h : Kd.C (Kd.slice 3 (Kd.int .i64)) w A n xs) (i : Int) (h0 : 0 ≤ i) (h1 : i < n) : ∃ ad A0 c0, A = some ad ∧ w.cell? (ad.add i.toNat) = some (.slice A0 (rd_L3 xs i).length c0) ∧ (rd_L3 xs i).length ≤ c0 ∧ (Kd.int .i64).C w A0 (rd_L3 xs i).length (rd_L3 xs i) := by
  obtain ⟨ad, c, e, _, hK, hc0⟩ := Kd.C_get h ([] : List Int) i h0 h1
  have hc : ∀ j u, c[j]? = some u → w.cell? (ad.add (i.toNat * 1 + j)) = some u := hc0
  obtain ⟨A0, c0, rfl, l0, g0⟩ := hK
  exact ⟨ad, A0, c0, e, by have hq := hc 0 _ rfl; rwa [Nat.mul_one, Nat.add_zero] at hq, l0, g0⟩

def rd_L4 (xs : List (List S47)) (i : Int) : (List S47) := xs.getD i.toNat ([] : List S47)
theorem at_L4 {w : World} {A : Option Addr} {n : Nat} {xs : List (List S47)} (h : Kd.C (Kd.slice 47 k47) w A n xs) (i : Int) (h0 : 0 ≤ i) (h1 : i < n) : ∃ ad A0 c0, A = some ad ∧ w.cell? (ad.add i.toNat) = some (.slice A0 (rd_L4 xs i).length c0) ∧ (rd_L4 xs i).length ≤ c0 ∧ k47.C w A0 (rd_L4 xs i).length (rd_L4 xs i) := by
  obtain ⟨ad, c, e, _, hK, hc0⟩ := Kd.C_get h ([] : List S47) i h0 h1
  have hc : ∀ j u, c[j]? = some u → w.cell? (ad.add (i.toNat * 1 + j)) = some u := hc0
  obtain ⟨A0, c0, rfl, l0, g0⟩ := hK
  exact ⟨ad, A0, c0, e, by have hq := hc 0 _ rfl; rwa [Nat.mul_one, Nat.add_zero] at hq, l0, g0⟩

/-! #### struct type 27 -/
structure S27 where
  f0 : Int
  f1 : (List S47)
  f2 : Int
def z27 : S27 := ⟨(0 : Int), ([] : List S47), (0 : Int)⟩
def k27 : Kd S27 := Kd.iso (Kd.pair (Kd.int .i64) (Kd.pair (Kd.slice 47 k47) (Kd.int .i64))) (fun x : S27 => (x.f0, x.f1, x.f2))
theorem k27_heap : Kd.Heap k27 := Kd.heap_iso _ (Kd.heap_pair (Kd.heap_int .i64) (Kd.heap_pair (Kd.heap_slice 47 k47_heap) (Kd.heap_int .i64)))
theorem k27_open {w : World} {x : S27} {cs : List Value} (h : k27.K w x cs) : ∃ A1 c1, cs = [.int .i64 x.f0, .slice A1 x.f1.length c1, .int .i64 x.f2] ∧ x.f1.length ≤ c1 ∧ k47.C w A1 x.f1.length x.f1 := by
  obtain ⟨_, _, rfl, rfl, ⟨_, _, rfl, ⟨A1, c1, rfl, l1, g1⟩, rfl⟩⟩ := h
  exact ⟨A1, c1, rfl, l1, g1⟩
theorem k27_openM {w : World} {base : Nat} {ok : Nat → Prop} {x : S27} {cs : List Value} (h : k27.M w base ok x cs) : ∃ v1, cs = [.int .i64 x.f0, v1, .int .i64 x.f2] ∧ k47.R 47 w base ok v1 x.f1 := by
  obtain ⟨_, _, rfl, rfl, ⟨_, _, rfl, ⟨v1, rfl, g1⟩, rfl⟩⟩ := h
  exact ⟨v1, rfl, g1⟩
theorem k27_mk (w : World) (x : S27) {A1 : Option Addr} {c1 : Nat} (l1 : x.f1.length ≤ c1) (g1 : k47.C w A1 x.f1.length x.f1) : k27.K w x [.int .i64 x.f0, .slice A1 x.f1.length c1, .int .i64 x.f2] := ⟨[.int .i64 x.f0], [.slice A1 x.f1.length c1, .int .i64 x.f2], rfl, rfl, ⟨[.slice A1 x.f1.length c1], [.int .i64 x.f2], rfl, ⟨A1, c1, rfl, l1, g1⟩, rfl⟩⟩
theorem k27_mkM (w : World) (base : Nat) (ok : Nat → Prop) (x : S27) {v1 : Value} (g1 : k47.R 47 w base ok v1 x.f1) : k27.M w base ok x [.int .i64 x.f0, v1, .int .i64 x.f2] := ⟨[.int .i64 x.f0], [v1, .int .i64 x.f2], rfl, rfl, ⟨[v1], [.int .i64 x.f2], rfl, ⟨v1, rfl, g1⟩, rfl⟩⟩
theorem k27_openF {W : World} {ok : Nat → Prop} {x : S27} {cs : List Value} (h : Kd.FK k27 W ok x cs) : ∃ A1 c1, cs = [.int .i64 x.f0, .slice A1 x.f1.length c1, .int .i64 x.f2] ∧ x.f1.length ≤ c1 ∧ Kd.F k47 W ok A1 x.f1.length x.f1 := by
  obtain ⟨A1, c1, rfl, l1, _⟩ := k27_open (Kd.FK_now h)
  exact ⟨A1, c1, rfl, l1, (fun W' hW => by obtain ⟨A1_, c1_, he, l1_, g1_⟩ := k27_open (h W' hW); injection (Option.some.inj (show some (Value.slice A1 x.f1.length c1) = some (Value.slice A1_ x.f1.length c1_) from congrArg (fun l => l[1]?) he)) with ha_ _ _; rw [ha_]; exact g1_)⟩
theorem k27_mkF (W : World) (ok : Nat → Prop) (x : S27) {A1 : Option Addr} {c1 : Nat} (l1 : x.f1.length ≤ c1) (g1 : Kd.F k47 W ok A1 x.f1.length x.f1) : Kd.FK k27 W ok x [.int .i64 x.f0, .slice A1 x.f1.length c1, .int .i64 x.f2] := fun W2 hW => k27_mk W2 x l1 (g1 W2 hW)
def rd_T27 (xs : List S27) (i : Int) : S27 := xs.getD i.toNat z27
theorem at_T27 {w : World} {A : Option Addr} {n : Nat} {xs : List S27} (h : Kd.C k27 w A n xs) (i : Int) (h0 : 0 ≤ i) (h1 : i < n) : ∃ ad A1 c1, A = some ad ∧ w.cell? (ad.add (i.toNat * 3)) = some (.int .i64 (rd_T27 xs i).f0) ∧ w.cell? ⟨(ad.add (i.toNat * 3)).block, (ad.add (i.toNat * 3)).off + 1, none⟩ = some (.slice A1 (rd_T27 xs i).f1.length c1) ∧ w.cell? ⟨(ad.add (i.toNat * 3)).block, (ad.add (i.toNat * 3)).off + 2, none⟩ = some (.int .i64 (rd_T27 xs i).f2) ∧ (rd_T27 xs i).f1.length ≤ c1 ∧ k47.C w A1 (rd_T27 xs i).f1.length (rd_T27 xs i).f1 := by
  obtain ⟨ad, c, e, _, hK, hc0⟩ := Kd.C_get h z27 i h0 h1
  have hc : ∀ j u, c[j]? = some u → w.cell? (ad.add (i.toNat * 3 + j)) = some u := hc0
  obtain ⟨A1, c1, rfl, l1, g1⟩ := k27_open hK
  exact ⟨ad, A1, c1, e, hc 0 _ rfl, by rw [← add_field _ _ 1 (by omega)]; exact hc 1 _ rfl, by rw [← add_field _ _ 2 (by omega)]; exact hc 2 _ rfl, l1, g1⟩

/-! #### struct type 29 -/
structure S29 where
  f0 : (List Int)
  f1 : S27
def z29 : S29 := ⟨([] : List Int), z27⟩
def k29 : Kd S29 := Kd.iso (Kd.pair (Kd.slice 3 (Kd.int .i64)) k27) (fun x : S29 => (x.f0, x.f1))
theorem k29_heap : Kd.Heap k29 := Kd.heap_iso _ (Kd.heap_pair (Kd.heap_slice 3 (Kd.heap_int .i64)) k27_heap)
theorem k29_open {w : World} {x : S29} {cs : List Value} (h : k29.K w x cs) : ∃ A0 c0 A2 c2, cs = [.slice A0 x.f0.length c0, .int .i64 x.f1.f0, .slice A2 x.f1.f1.length c2, .int .i64 x.f1.f2] ∧ x.f0.length ≤ c0 ∧ (Kd.int .i64).C w A0 x.f0.length x.f0 ∧ x.f1.f1.length ≤ c2 ∧ k47.C w A2 x.f1.f1.length x.f1.f1 := by
  obtain ⟨_, _, rfl, ⟨A0, c0, rfl, l0, g0⟩, s1⟩ := h
  obtain ⟨A2, c2, rfl, l2, g2⟩ := k27_open s1
  exact ⟨A0, c0, A2, c2, rfl, l0, g0, l2, g2⟩
theorem k29_openM {w : World} {base : Nat} {ok : Nat → Prop} {x : S29} {cs : List Value} (h : k29.M w base ok x cs) : ∃ v0 v2, cs = [v0, .int .i64 x.f1.f0, v2, .int .i64 x.f1.f2] ∧ (Kd.int .i64).R 3 w base ok v0 x.f0 ∧ k47.R 47 w base ok v2 x.f1.f1 := by
  obtain ⟨_, _, rfl, ⟨v0, rfl, g0⟩, s1⟩ := h
  obtain ⟨v2, rfl, g2⟩ := k27_openM s1
  exact ⟨v0, v2, rfl, g0, g2⟩
theorem k29_mk (w : World) (x : S29) {A0 : Option Addr} {c0 : Nat} (l0 : x.f0.length ≤ c0) (g0 : (Kd.int .i64).C w A0 x.f0.length x.f0) {A2 : Option Addr} {c2 : Nat} (l2 : x.f1.f1.length ≤ c2) (g2 : k47.C w A2 x.f1.f1.length x.f1.f1) : k29.K w x [.slice A0 x.f0.length c0, .int .i64 x.f1.f0, .slice A2 x.f1.f1.length c2, .int .i64 x.f1.f2] := ⟨[.slice A0 x.f0.length c0], [.int .i64 x.f1.f0, .slice A2 x.f1.f1.length c2, .int .i64 x.f1.f2], rfl, ⟨A0, c0, rfl, l0, g0⟩, (k27_mk w x.f1 l2 g2)⟩
theorem k29_mkM (w : World) (base : Nat) (ok : Nat → Prop) (x : S29) {v0 : Value} (g0 : (Kd.int .i64).R 3 w base ok v0 x.f0) {v2 : Value} (g2 : k47.R 47 w base ok v2 x.f1.f1) : k29.M w base ok x [v0, .int .i64 x.f1.f0, v2, .int .i64 x.f1.f2] := ⟨[v0], [.int .i64 x.f1.f0, v2, .int .i64 x.f1.f2], rfl, ⟨v0, rfl, g0⟩, (k27_mkM w base ok x.f1 g2)⟩
theorem k29_openF {W : World} {ok : Nat → Prop} {x : S29} {cs : List Value} (h : Kd.FK k29 W ok x cs) : ∃ A0 c0 A2 c2, cs = [.slice A0 x.f0.length c0, .int .i64 x.f1.f0, .slice A2 x.f1.f1.length c2, .int .i64 x.f1.f2] ∧ x.f0.length ≤ c0 ∧ Kd.F (Kd.int .i64) W ok A0 x.f0.length x.f0 ∧ x.f1.f1.length ≤ c2 ∧ Kd.F k47 W ok A2 x.f1.f1.length x.f1.f1 := by
  obtain ⟨A0, c0, A2, c2, rfl, l0, _, l2, _⟩ := k29_open (Kd.FK_now h)
  exact ⟨A0, c0, A2, c2, rfl, l0, (fun W' hW => by obtain ⟨A0_, c0_, A2_, c2_, he, l0_, g0_, l2_, g2_⟩ := k29_open (h W' hW); injection (Option.some.inj (show some (Value.slice A0 x.f0.length c0) = some (Value.slice A0_ x.f0.length c0_) from congrArg (fun l => l[0]?) he)) with ha_ _ _; rw [ha_]; exact g0_), l2, (fun W' hW => by obtain ⟨A0_, c0_, A2_, c2_, he, l0_, g0_, l2_, g2_⟩ := k29_open (h W' hW); injection (Option.some.inj (show some (Value.slice A2 x.f1.f1.length c2) = some (Value.slice A2_ x.f1.f1.length c2_) from congrArg (fun l => l[2]?) he)) with ha_ _ _; rw [ha_]; exact g2_)⟩
theorem k29_mkF (W : World) (ok : Nat → Prop) (x : S29) {A0 : Option Addr} {c0 : Nat} (l0 : x.f0.length ≤ c0) (g0 : Kd.F (Kd.int .i64) W ok A0 x.f0.length x.f0) {A2 : Option Addr} {c2 : Nat} (l2 : x.f1.f1.length ≤ c2) (g2 : Kd.F k47 W ok A2 x.f1.f1.length x.f1.f1) : Kd.FK k29 W ok x [.slice A0 x.f0.length c0, .int .i64 x.f1.f0, .slice A2 x.f1.f1.length c2, .int .i64 x.f1.f2] := fun W2 hW => k29_mk W2 x l0 (g0 W2 hW) l2 (g2 W2 hW)
def rd_T29 (xs : List S29) (i : Int) : S29 := xs.getD i.toNat z29
theorem at_T29 {w : World} {A : Option Addr} {n : Nat} {xs : List S29} (h : Kd.C k29 w A n xs) (i : Int) (h0 : 0 ≤ i) (h1 : i < n) : ∃ ad A0 c0 A2 c2, A = some ad ∧ w.cell? (ad.add (i.toNat * 4)) = some (.slice A0 (rd_T29 xs i).f0.length c0) ∧ w.cell? ⟨(ad.add (i.toNat * 4)).block, (ad.add (i.toNat * 4)).off + 1, none⟩ = some (.int .i64 (rd_T29 xs i).f1.f0) ∧ w.cell? ⟨(ad.add (i.toNat * 4)).block, (ad.add (i.toNat * 4)).off + 2, none⟩ = some (.slice A2 (rd_T29 xs i).f1.f1.length c2) ∧ w.cell? ⟨(ad.add (i.toNat * 4)).block, (ad.add (i.toNat * 4)).off + 3, none⟩ = some (.int .i64 (rd_T29 xs i).f1.f2) ∧ (rd_T29 xs i).f0.length ≤ c0 ∧ (Kd.int .i64).C w A0 (rd_T29 xs i).f0.length (rd_T29 xs i).f0 ∧ (rd_T29 xs i).f1.f1.length ≤ c2 ∧ k47.C w A2 (rd_T29 xs i).f1.f1.length (rd_T29 xs i).f1.f1 := by
  obtain ⟨ad, c, e, _, hK, hc0⟩ := Kd.C_get h z29 i h0 h1
  have hc : ∀ j u, c[j]? = some u → w.cell? (ad.add (i.toNat * 4 + j)) = some u := hc0
  obtain ⟨A0, c0, A2, c2, rfl, l0, g0, l2, g2⟩ := k29_open hK
  exact ⟨ad, A0, c0, A2, c2, e, hc 0 _ rfl, by rw [← add_field _ _ 1 (by omega)]; exact hc 1 _ rfl, by rw [← add_field _ _ 2 (by omega)]; exact hc 2 _ rfl, by rw [← add_field _ _ 3 (by omega)]; exact hc 3 _ rfl, l0, g0, l2, g2⟩

def rd_L7 (xs : List (List S29)) (i : Int) : (List S29) := xs.getD i.toNat ([] : List S29)
theorem at_L7 {w : World} {A : Option Addr} {n : Nat} {xs : List (List S29)} (h : Kd.C (Kd.slice 29 k29) w A n xs) (i : Int) (h0 : 0 ≤ i) (h1 : i < n) : ∃ ad A0 c0, A = some ad ∧ w.cell? (ad.add i.toNat) = some (.slice A0 (rd_L7 xs i).length c0) ∧ (rd_L7 xs i).length ≤ c0 ∧ k29.C w A0 (rd_L7 xs i).length (rd_L7 xs i) := by
  obtain ⟨ad, c, e, _, hK, hc0⟩ := Kd.C_get h ([] : List S29) i h0 h1
  have hc : ∀ j u, c[j]? = some u → w.cell? (ad.add (i.toNat * 1 + j)) = some u := hc0
  obtain ⟨A0, c0, rfl, l0, g0⟩ := hK
  exact ⟨ad, A0, c0, e, by have hq := hc 0 _ rfl; rwa [Nat.mul_one, Nat.add_zero] at hq, l0, g0⟩

def rd_L8 (xs : List (List (List Int))) (i : Int) : (List (List Int)) := xs.getD i.toNat ([] : List (List Int))
theorem at_L8 {w : World} {A : Option Addr} {n : Nat} {xs : List (List (List Int))} (h : Kd.C (Kd.slice 23 (Kd.slice 3 (Kd.int .i64))) w A n xs) (i : Int) (h0 : 0 ≤ i) (h1 : i < n) : ∃ ad A0 c0, A = some ad ∧ w.cell? (ad.add i.toNat) = some (.slice A0 (rd_L8 xs i).length c0) ∧ (rd_L8 xs i).length ≤ c0 ∧ (Kd.slice 3 (Kd.int .i64)).C w A0 (rd_L8 xs i).length (rd_L8 xs i) := by
  obtain ⟨ad, c, e, _, hK, hc0⟩ := Kd.C_get h ([] : List (List Int)) i h0 h1
  have hc : ∀ j u, c[j]? = some u → w.cell? (ad.add (i.toNat * 1 + j)) = some u := hc0
  obtain ⟨A0, c0, rfl, l0, g0⟩ := hK
  exact ⟨ad, A0, c0, e, by have hq := hc 0 _ rfl; rwa [Nat.mul_one, Nat.add_zero] at hq, l0, g0⟩

end Go.Proofs.Ytlapiebnmbbemaa.A
