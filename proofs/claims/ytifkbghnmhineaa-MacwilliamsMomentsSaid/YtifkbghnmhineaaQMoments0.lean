/- What functions of the program do and come to, for the statement MacwilliamsMoments, part 0. Conditions: as each theorem says. -/
import Derived.Below
import Derived.Laws.Slices
import Derived.WalkKit
import Derived.KernelRfl
import Derived.RowKit3
import Derived.Test.YtifkbghnmhineaaWMore
import Derived.Test.YtifkbghnmhineaaProg
import Derived.Lib.BitFns
import Derived.Lib.Tables
import Derived.Deep.Draws
import Derived.Deep.AppendLies
import Derived.Maps.AppendAt
import Derived.OwnWalk
import Derived.Laws.BytesArg
import Derived.Laws.MakeOwn
import Derived.Laws.OwnMore
import Derived.Deep.OwnRows
import Derived.Tactics
import Derived.Lib.ConvBytes
import Derived.Deep.LoopGhost
import Derived.Deep.QuietTactic
import Derived.BigQuiet
import Derived.WideLaws
import Derived.Deep.DeepCutAuto
import Derived.Deep.CutBlock
import Derived.Deep.RegionHeld3
import Derived.Laws.Rows
import Derived.Lib.AppendStr
import Derived.ArgAppend
import Derived.Laws.IdiomCopy
import Derived.OrdersHeld
import Derived.Laws.BitsLemmas
import Derived.RowKit
import Derived.Test.YtifkbghnmhineaaWWords
import Derived.Test.YtifkbghnmhineaaWLast
import Derived.Test.YtifkbghnmhineaaWTab
import Derived.Test.YtifkbghnmhineaaWFour
import Derived.Test.YtifkbghnmhineaaWQPut
import Derived.Test.YtifkbghnmhineaaWApart
import Derived.Test.YtifkbghnmhineaaWArr
import Derived.Test.YtifkbghnmhineaaWZeros
import Derived.Test.YtifkbghnmhineaaWFoot
import Derived.Test.YtifkbghnmhineaaWKept
import Derived.Test.YtifkbghnmhineaaWShare
import Derived.Test.YtifkbghnmhineaaWN
import Derived.Test.YtifkbghnmhineaaWFootNe
import Derived.Test.YtifkbghnmhineaaWAt
import Derived.Test.YtifkbghnmhineaaWEqStruct
import Derived.Test.YtifkbghnmhineaaWRepsOne
import Derived.Test.YtifkbghnmhineaaWInv
import Derived.Test.YtifkbghnmhineaaWInvWords
import Derived.Test.YtifkbghnmhineaaWGuard
import Derived.Test.YtifkbghnmhineaaWNEv

/- What the machine does at 'a[:n:n]'. Its condition: n lies within the slice. -/

namespace Mw
open Go Go.RowKit

theorem cut_to_max {P : Program} (t e : TypeId) (kh : IntKind) {i : TypeInfo} (ht : P.underlying t = some (.slice e)) (hi : P.info? e = some i) (A : Option Addr) (n c : Nat) (j : Int) (h0 : 0 ≤ j) (hm : j ≤ n) (hc : n ≤ c) :
    ∀ W : World, (Instr.slice t (.slice A n c) none (some (.int kh j)) (some (.int kh j))).run P W = .ok (.slice A j.toNat j.toNat) W := by
  intro W
  have hel : P.elem t = e := by simp [Program.elem, ht]
  have hu : P.underlying t = some (.slice (P.elem t)) := by rw [hel]; exact ht
  have ha : (A.map fun x => x.add 0) = A := by cases A <;> simp [Addr.add]
  rw [run_slice_hm W t A n c hu kh kh j j h0 (Int.le_refl j) (by omega), hel]
  simp [Go.sizeOf, Go.typeInfo, hi, sliced, Result.andThen, ha]

end Mw

/- What is told of an element that is a row of the call's own, whose length is told by another list. -/

namespace Mw
open Go Go.RowKit Go.Proofs.YtifkbghnmhineaaW.PrintWords Go.Proofs.YtifkbghnmhineaaW.PrintLast Go.Proofs.YtifkbghnmhineaaW.PrintMore

theorem FK_of_R {α : Type} {d : Kd α} {e e0 base n c : Nat} {ok : Nat → Prop} {W : World} {A : Option Addr} {xs : List α} (h : d.R e0 W base ok (.slice A n c) xs) : Kd.FK (Kd.slice e d) W ok xs [.slice A n c] := by
  obtain ⟨h1, h2, _⟩ := Kd.R_reads' h
  have h3 := Kd.R_F h
  subst h1
  exact Kd.FK_slice_mk h2 h3

end Mw

namespace Go.Proofs.Ytifkbghnmhineaa.PAll
open Go.RowKit Go.Proofs.YtifkbghnmhineaaW.PrintWords Go.Proofs.YtifkbghnmhineaaW.PrintLast Go.Proofs.YtifkbghnmhineaaW.PrintMore
attribute [local go_sem] max2_int min2_int max_two min_two max_three min_three max_four min_four   -- for this text's walks alone
set_option linter.unusedVariables false
set_option linter.unusedSimpArgs false



def errW : Option Int → Value
  | none => .nilIface
  | some c => .iface 0 (.int .i64 c)
theorem errW_none : errW none = .nilIface := rfl
theorem errW_some (c : Int) : errW (some c) = .iface 0 (.int .i64 c) := rfl

theorem info3 : (Try.prog.info? 3).map (fun i => (i.zero, i.size, i.bytes)) = some (some (.int .i64 0), 1, 8) := by kernel_rfl
theorem info22 : (Try.prog.info? 22).map (fun i => (i.zero, i.size, i.bytes)) = some (some (.slice none 0 0), 1, 24) := by kernel_rfl
theorem info29 : (Try.prog.info? 29).map (fun i => (i.zero, i.size, i.bytes)) = some (some (.slice none 0 0), 1, 24) := by kernel_rfl
theorem info60 : (Try.prog.info? 60).map (fun i => (i.zero, i.size, i.bytes)) = some (some (.agg #[(.bool false), (.slice none 0 0), (.slice none 0 0)]), 3, 56) := by kernel_rfl
theorem info97 : (Try.prog.info? 97).map (fun i => (i.zero, i.size, i.bytes)) = some (some (.int .u32 0), 1, 4) := by kernel_rfl
theorem info113 : (Try.prog.info? 113).map (fun i => (i.zero, i.size, i.bytes)) = some (some (.agg #[(.bool false), (.slice none 0 0)]), 2, 32) := by kernel_rfl
theorem info114 : (Try.prog.info? 114).map (fun i => (i.zero, i.size, i.bytes)) = some (some (.slice none 0 0), 1, 24) := by kernel_rfl
-- the values' own types
def rd_L1 (xs : List (List Int)) (i : Int) : (List Int) := xs.getD i.toNat ([] : List Int)
theorem at_L1 {w : World} {A : Option Addr} {n : Nat} {xs : List (List Int)} (h : Kd.C (Kd.slice 3 (Kd.int .i64)) w A n xs) (i : Int) (h0 : 0 ≤ i) (h1 : i < n) : ∃ ad A0 c0, A = some ad ∧ w.cell? (ad.add i.toNat) = some (.slice A0 (rd_L1 xs i).length c0) ∧ (rd_L1 xs i).length ≤ c0 ∧ (Kd.int .i64).C w A0 (rd_L1 xs i).length (rd_L1 xs i) := by
  obtain ⟨ad, c, e, _, hK, hc0⟩ := Kd.C_get h ([] : List Int) i h0 h1
  have hc : ∀ j u, c[j]? = some u → w.cell? (ad.add (i.toNat * 1 + j)) = some u := hc0
  obtain ⟨A0, c0, rfl, l0, g0⟩ := hK
  exact ⟨ad, A0, c0, e, by have hq := hc 0 _ rfl; rwa [Nat.mul_one, Nat.add_zero] at hq, l0, g0⟩

def rd_L3 (xs : List (List Int)) (i : Int) : (List Int) := xs.getD i.toNat ([] : List Int)
theorem at_L3 {w : World} {A : Option Addr} {n : Nat} {xs : List (List Int)} (h : Kd.C (Kd.slice 97 (Kd.int .u32)) w A n xs) (i : Int) (h0 : 0 ≤ i) (h1 : i < n) : ∃ ad A0 c0, A = some ad ∧ w.cell? (ad.add i.toNat) = some (.slice A0 (rd_L3 xs i).length c0) ∧ (rd_L3 xs i).length ≤ c0 ∧ (Kd.int .u32).C w A0 (rd_L3 xs i).length (rd_L3 xs i) := by
  obtain ⟨ad, c, e, _, hK, hc0⟩ := Kd.C_get h ([] : List Int) i h0 h1
  have hc : ∀ j u, c[j]? = some u → w.cell? (ad.add (i.toNat * 1 + j)) = some u := hc0
  obtain ⟨A0, c0, rfl, l0, g0⟩ := hK
  exact ⟨ad, A0, c0, e, by have hq := hc 0 _ rfl; rwa [Nat.mul_one, Nat.add_zero] at hq, l0, g0⟩

/-! #### struct type 113 -/
structure S113 where
  f0 : Bool
  f1 : (List Int)
def z113 : S113 := ⟨false, ([] : List Int)⟩
def k113 : Kd S113 := Kd.iso (Kd.pair Kd.bool (Kd.slice 97 (Kd.int .u32))) (fun x : S113 => (x.f0, x.f1))
theorem k113_heap : Kd.Heap k113 := Kd.heap_iso _ (Kd.heap_pair Kd.heap_bool (Kd.heap_slice 97 (Kd.heap_int .u32)))
theorem k113_open {w : World} {x : S113} {cs : List Value} (h : k113.K w x cs) : ∃ A1 c1, cs = [.bool x.f0, .slice A1 x.f1.length c1] ∧ x.f1.length ≤ c1 ∧ (Kd.int .u32).C w A1 x.f1.length x.f1 := by
  obtain ⟨_, _, rfl, rfl, ⟨A1, c1, rfl, l1, g1⟩⟩ := h
  exact ⟨A1, c1, rfl, l1, g1⟩
theorem k113_openM {w : World} {base : Nat} {ok : Nat → Prop} {x : S113} {cs : List Value} (h : k113.M w base ok x cs) : ∃ v1, cs = [.bool x.f0, v1] ∧ (Kd.int .u32).R 97 w base ok v1 x.f1 := by
  obtain ⟨_, _, rfl, rfl, ⟨v1, rfl, g1⟩⟩ := h
  exact ⟨v1, rfl, g1⟩
theorem k113_mk (w : World) (x : S113) {A1 : Option Addr} {c1 : Nat} (l1 : x.f1.length ≤ c1) (g1 : (Kd.int .u32).C w A1 x.f1.length x.f1) : k113.K w x [.bool x.f0, .slice A1 x.f1.length c1] := ⟨[.bool x.f0], [.slice A1 x.f1.length c1], rfl, rfl, ⟨A1, c1, rfl, l1, g1⟩⟩
theorem k113_mkM (w : World) (base : Nat) (ok : Nat → Prop) (x : S113) {v1 : Value} (g1 : (Kd.int .u32).R 97 w base ok v1 x.f1) : k113.M w base ok x [.bool x.f0, v1] := ⟨[.bool x.f0], [v1], rfl, rfl, ⟨v1, rfl, g1⟩⟩
theorem k113_openF {W : World} {ok : Nat → Prop} {x : S113} {cs : List Value} (h : Kd.FK k113 W ok x cs) : ∃ A1 c1, cs = [.bool x.f0, .slice A1 x.f1.length c1] ∧ x.f1.length ≤ c1 ∧ Kd.F (Kd.int .u32) W ok A1 x.f1.length x.f1 := by
  obtain ⟨A1, c1, rfl, l1, _⟩ := k113_open (Kd.FK_now h)
  exact ⟨A1, c1, rfl, l1, (fun W' hW => by obtain ⟨A1_, c1_, he, l1_, g1_⟩ := k113_open (h W' hW); injection (Option.some.inj (show some (Value.slice A1 x.f1.length c1) = some (Value.slice A1_ x.f1.length c1_) from congrArg (fun l => l[1]?) he)) with ha_ _ _; rw [ha_]; exact g1_)⟩
theorem k113_mkF (W : World) (ok : Nat → Prop) (x : S113) {A1 : Option Addr} {c1 : Nat} (l1 : x.f1.length ≤ c1) (g1 : Kd.F (Kd.int .u32) W ok A1 x.f1.length x.f1) : Kd.FK k113 W ok x [.bool x.f0, .slice A1 x.f1.length c1] := fun W2 hW => k113_mk W2 x l1 (g1 W2 hW)
def rd_T113 (xs : List S113) (i : Int) : S113 := xs.getD i.toNat z113
theorem at_T113 {w : World} {A : Option Addr} {n : Nat} {xs : List S113} (h : Kd.C k113 w A n xs) (i : Int) (h0 : 0 ≤ i) (h1 : i < n) : ∃ ad A1 c1, A = some ad ∧ w.cell? (ad.add (i.toNat * 2)) = some (.bool (rd_T113 xs i).f0) ∧ w.cell? ⟨(ad.add (i.toNat * 2)).block, (ad.add (i.toNat * 2)).off + 1, none⟩ = some (.slice A1 (rd_T113 xs i).f1.length c1) ∧ (rd_T113 xs i).f1.length ≤ c1 ∧ (Kd.int .u32).C w A1 (rd_T113 xs i).f1.length (rd_T113 xs i).f1 := by
  obtain ⟨ad, c, e, _, hK, hc0⟩ := Kd.C_get h z113 i h0 h1
  have hc : ∀ j u, c[j]? = some u → w.cell? (ad.add (i.toNat * 2 + j)) = some u := hc0
  obtain ⟨A1, c1, rfl, l1, g1⟩ := k113_open hK
  exact ⟨ad, A1, c1, e, hc 0 _ rfl, by rw [← add_field _ _ 1 (by omega)]; exact hc 1 _ rfl, l1, g1⟩

def rd_L6 (xs : List (List S113)) (i : Int) : (List S113) := xs.getD i.toNat ([] : List S113)
theorem at_L6 {w : World} {A : Option Addr} {n : Nat} {xs : List (List S113)} (h : Kd.C (Kd.slice 113 k113) w A n xs) (i : Int) (h0 : 0 ≤ i) (h1 : i < n) : ∃ ad A0 c0, A = some ad ∧ w.cell? (ad.add i.toNat) = some (.slice A0 (rd_L6 xs i).length c0) ∧ (rd_L6 xs i).length ≤ c0 ∧ k113.C w A0 (rd_L6 xs i).length (rd_L6 xs i) := by
  obtain ⟨ad, c, e, _, hK, hc0⟩ := Kd.C_get h ([] : List S113) i h0 h1
  have hc : ∀ j u, c[j]? = some u → w.cell? (ad.add (i.toNat * 1 + j)) = some u := hc0
  obtain ⟨A0, c0, rfl, l0, g0⟩ := hK
  exact ⟨ad, A0, c0, e, by have hq := hc 0 _ rfl; rwa [Nat.mul_one, Nat.add_zero] at hq, l0, g0⟩

/-! #### struct type 60 -/
structure S60 where
  f0 : Bool
  f1 : (List Int)
  f2 : (List Int)
def z60 : S60 := ⟨false, ([] : List Int), ([] : List Int)⟩
def k60 : Kd S60 := Kd.iso (Kd.pair Kd.bool (Kd.pair (Kd.slice 97 (Kd.int .u32)) (Kd.slice 97 (Kd.int .u32)))) (fun x : S60 => (x.f0, x.f1, x.f2))
theorem k60_heap : Kd.Heap k60 := Kd.heap_iso _ (Kd.heap_pair Kd.heap_bool (Kd.heap_pair (Kd.heap_slice 97 (Kd.heap_int .u32)) (Kd.heap_slice 97 (Kd.heap_int .u32))))
theorem k60_open {w : World} {x : S60} {cs : List Value} (h : k60.K w x cs) : ∃ A1 c1 A2 c2, cs = [.bool x.f0, .slice A1 x.f1.length c1, .slice A2 x.f2.length c2] ∧ x.f1.length ≤ c1 ∧ (Kd.int .u32).C w A1 x.f1.length x.f1 ∧ x.f2.length ≤ c2 ∧ (Kd.int .u32).C w A2 x.f2.length x.f2 := by
  obtain ⟨_, _, rfl, rfl, ⟨_, _, rfl, ⟨A1, c1, rfl, l1, g1⟩, ⟨A2, c2, rfl, l2, g2⟩⟩⟩ := h
  exact ⟨A1, c1, A2, c2, rfl, l1, g1, l2, g2⟩
theorem k60_openM {w : World} {base : Nat} {ok : Nat → Prop} {x : S60} {cs : List Value} (h : k60.M w base ok x cs) : ∃ v1 v2, cs = [.bool x.f0, v1, v2] ∧ (Kd.int .u32).R 97 w base ok v1 x.f1 ∧ (Kd.int .u32).R 97 w base ok v2 x.f2 := by
  obtain ⟨_, _, rfl, rfl, ⟨_, _, rfl, ⟨v1, rfl, g1⟩, ⟨v2, rfl, g2⟩⟩⟩ := h
  exact ⟨v1, v2, rfl, g1, g2⟩
theorem k60_mk (w : World) (x : S60) {A1 : Option Addr} {c1 : Nat} (l1 : x.f1.length ≤ c1) (g1 : (Kd.int .u32).C w A1 x.f1.length x.f1) {A2 : Option Addr} {c2 : Nat} (l2 : x.f2.length ≤ c2) (g2 : (Kd.int .u32).C w A2 x.f2.length x.f2) : k60.K w x [.bool x.f0, .slice A1 x.f1.length c1, .slice A2 x.f2.length c2] := ⟨[.bool x.f0], [.slice A1 x.f1.length c1, .slice A2 x.f2.length c2], rfl, rfl, ⟨[.slice A1 x.f1.length c1], [.slice A2 x.f2.length c2], rfl, ⟨A1, c1, rfl, l1, g1⟩, ⟨A2, c2, rfl, l2, g2⟩⟩⟩
theorem k60_mkM (w : World) (base : Nat) (ok : Nat → Prop) (x : S60) {v1 : Value} (g1 : (Kd.int .u32).R 97 w base ok v1 x.f1) {v2 : Value} (g2 : (Kd.int .u32).R 97 w base ok v2 x.f2) : k60.M w base ok x [.bool x.f0, v1, v2] := ⟨[.bool x.f0], [v1, v2], rfl, rfl, ⟨[v1], [v2], rfl, ⟨v1, rfl, g1⟩, ⟨v2, rfl, g2⟩⟩⟩
theorem k60_openF {W : World} {ok : Nat → Prop} {x : S60} {cs : List Value} (h : Kd.FK k60 W ok x cs) : ∃ A1 c1 A2 c2, cs = [.bool x.f0, .slice A1 x.f1.length c1, .slice A2 x.f2.length c2] ∧ x.f1.length ≤ c1 ∧ Kd.F (Kd.int .u32) W ok A1 x.f1.length x.f1 ∧ x.f2.length ≤ c2 ∧ Kd.F (Kd.int .u32) W ok A2 x.f2.length x.f2 := by
  obtain ⟨A1, c1, A2, c2, rfl, l1, _, l2, _⟩ := k60_open (Kd.FK_now h)
  exact ⟨A1, c1, A2, c2, rfl, l1, (fun W' hW => by obtain ⟨A1_, c1_, A2_, c2_, he, l1_, g1_, l2_, g2_⟩ := k60_open (h W' hW); injection (Option.some.inj (show some (Value.slice A1 x.f1.length c1) = some (Value.slice A1_ x.f1.length c1_) from congrArg (fun l => l[1]?) he)) with ha_ _ _; rw [ha_]; exact g1_), l2, (fun W' hW => by obtain ⟨A1_, c1_, A2_, c2_, he, l1_, g1_, l2_, g2_⟩ := k60_open (h W' hW); injection (Option.some.inj (show some (Value.slice A2 x.f2.length c2) = some (Value.slice A2_ x.f2.length c2_) from congrArg (fun l => l[2]?) he)) with ha_ _ _; rw [ha_]; exact g2_)⟩
theorem k60_mkF (W : World) (ok : Nat → Prop) (x : S60) {A1 : Option Addr} {c1 : Nat} (l1 : x.f1.length ≤ c1) (g1 : Kd.F (Kd.int .u32) W ok A1 x.f1.length x.f1) {A2 : Option Addr} {c2 : Nat} (l2 : x.f2.length ≤ c2) (g2 : Kd.F (Kd.int .u32) W ok A2 x.f2.length x.f2) : Kd.FK k60 W ok x [.bool x.f0, .slice A1 x.f1.length c1, .slice A2 x.f2.length c2] := fun W2 hW => k60_mk W2 x l1 (g1 W2 hW) l2 (g2 W2 hW)
def rd_T60 (xs : List S60) (i : Int) : S60 := xs.getD i.toNat z60
theorem at_T60 {w : World} {A : Option Addr} {n : Nat} {xs : List S60} (h : Kd.C k60 w A n xs) (i : Int) (h0 : 0 ≤ i) (h1 : i < n) : ∃ ad A1 c1 A2 c2, A = some ad ∧ w.cell? (ad.add (i.toNat * 3)) = some (.bool (rd_T60 xs i).f0) ∧ w.cell? ⟨(ad.add (i.toNat * 3)).block, (ad.add (i.toNat * 3)).off + 1, none⟩ = some (.slice A1 (rd_T60 xs i).f1.length c1) ∧ w.cell? ⟨(ad.add (i.toNat * 3)).block, (ad.add (i.toNat * 3)).off + 2, none⟩ = some (.slice A2 (rd_T60 xs i).f2.length c2) ∧ (rd_T60 xs i).f1.length ≤ c1 ∧ (Kd.int .u32).C w A1 (rd_T60 xs i).f1.length (rd_T60 xs i).f1 ∧ (rd_T60 xs i).f2.length ≤ c2 ∧ (Kd.int .u32).C w A2 (rd_T60 xs i).f2.length (rd_T60 xs i).f2 := by
  obtain ⟨ad, c, e, _, hK, hc0⟩ := Kd.C_get h z60 i h0 h1
  have hc : ∀ j u, c[j]? = some u → w.cell? (ad.add (i.toNat * 3 + j)) = some u := hc0
  obtain ⟨A1, c1, A2, c2, rfl, l1, g1, l2, g2⟩ := k60_open hK
  exact ⟨ad, A1, c1, A2, c2, e, hc 0 _ rfl, by rw [← add_field _ _ 1 (by omega)]; exact hc 1 _ rfl, by rw [← add_field _ _ 2 (by omega)]; exact hc 2 _ rfl, l1, g1, l2, g2⟩

end Go.Proofs.Ytifkbghnmhineaa.PAll

namespace Go.Proofs.Ytifkbghnmhineaa.PAll
open Go.RowKit Go.Proofs.YtifkbghnmhineaaW.PrintWords Go.Proofs.YtifkbghnmhineaaW.PrintLast Go.Proofs.YtifkbghnmhineaaW.PrintMore
set_option linter.unusedVariables false
set_option linter.unusedSimpArgs false
set_option maxHeartbeats 8000000 in
set_option maxRecDepth 100000 in

/-! ### bits_Len32 -/
def bits_Len32.f (a0 : Int) : Option (Int) := if 0 ≤ a0 then (if a0 ≤ 4294967295 then (some ((Lib.bitLen a0.toNat : Nat) : Int)) else none) else none
/-! ### bits_LeadingZeros32 -/
def bits_LeadingZeros32.f (a0 : Int) : Option (Int) := (bits_Len32.f a0).bind fun t101 => (some (wrap64 (32 - t101)))
/-! ### codewrightref04_Order -/
mutual
def codewrightref04_Order.j0 : Nat → Bool → Int → Int → List Int → Option (Int)
  | 0, _, _, _, _ => none
  | k + 1, x17, x102000, x102001, x102002 => if x17 = true then (some 0) else (codewrightref04_Order.l0 k 1 0 x102000 x102001 x102002)
def codewrightref04_Order.l0 : Nat → Int → Int → Int → Int → List Int → Option (Int)
  | 0, _, _, _, _, _ => none
  | k + 1, x3, x4, x102000, x102001, x102002 => if x4 < x102001 then (if x102000 = 0 then (none) else (if x3 > (wrap64 (Int.tdiv (256 : Int) x102000)) then (some 0) else (codewrightref04_Order.l0 k (wrap64 (x3 * x102000)) (wrap64 (x4 + 1)) x102000 x102001 x102002))) else (some x3)
end
def codewrightref04_Order.f (k : Nat) (a0_0 : Int) (a0_1 : Int) (l0_2 : List Int) : Option (Int) := if a0_0 < 2 then (codewrightref04_Order.j0 k true a0_0 a0_1 l0_2) else (if a0_1 < 1 then (codewrightref04_Order.j0 k true a0_0 a0_1 l0_2) else (codewrightref04_Order.j0 k (decide (a0_1 > 8)) a0_0 a0_1 l0_2))
/-! ### codewrightref04_digits -/
def codewrightref04_digits.l0 : Nat → Int → Int → Int → List Int → Int → Option (List Int)
  | 0, _, _, _, _, _ => none
  | k + 1, x0, x1, x2, x7, x8 => if x8 < x2 then (if x1 = 0 then (none) else (if 0 ≤ x8 then (if x8 < (x7.length : Int) then (codewrightref04_digits.l0 k (wrap64 (Int.tdiv x0 x1)) x1 x2 (x7.set (x8 : Int).toNat (Int.tmod x0 x1)) (wrap64 (x8 + 1))) else (none)) else (none))) else (some x7)
def codewrightref04_digits.f (k : Nat) (a0 : Int) (a1 : Int) (a2 : Int) : Option (List Int) := if 0 ≤ a2 then (if (a2 : Int).toNat ≤ 35184372088832 then (codewrightref04_digits.l0 k a0 a1 a2 (List.replicate (a2 : Int).toNat 0) 0) else (none)) else (none)
/-! ### codewrightref04_divides -/
mutual
def codewrightref04_divides.l0 : Nat → List Int → Int → Int → List Int → Int → Option (Bool)
  | 0, _, _, _, _, _ => none
  | k + 1, x0, x2, x7, x8, x9 => if x9 ≥ x7 then (if 0 ≤ x9 then (if x9 < (x8.length : Int) then (codewrightref04_divides.l1 k x0 x2 x7 x8 x9 (rd x8 x9) 0) else (none)) else (none)) else (codewrightref04_divides.l2 k x8 0)
def codewrightref04_divides.l1 : Nat → List Int → Int → Int → List Int → Int → Int → Int → Option (Bool)
  | 0, _, _, _, _, _, _, _ => none
  | k + 1, x0, x2, x7, x8, x9, x10, x11 => if x11 < x7 then (if 0 ≤ (wrap64 ((wrap64 (x9 - x7)) + x11)) then (if (wrap64 ((wrap64 (x9 - x7)) + x11)) < (x8.length : Int) then (if 0 ≤ x11 then (if x11 < (x0.length : Int) then (if x2 = 0 then (none) else (codewrightref04_divides.l1 k x0 x2 x7 (x8.set ((wrap64 ((wrap64 (x9 - x7)) + x11)) : Int).toNat (Int.tmod (wrap64 ((rd x8 (wrap64 ((wrap64 (x9 - x7)) + x11))) + (wrap64 ((wrap64 (x2 - x10)) * (rd x0 x11))))) x2)) x9 x10 (wrap64 (x11 + 1)))) else (none)) else (none)) else (none)) else (none)) else (if 0 ≤ x9 then (if x9 < (x8.length : Int) then (codewrightref04_divides.l0 k x0 x2 x7 (x8.set (x9 : Int).toNat 0) (wrap64 (x9 - 1))) else (none)) else (none))
def codewrightref04_divides.l2 : Nat → List Int → Int → Option (Bool)
  | 0, _, _ => none
  | k + 1, x8, x12 => if x12 < (x8.length : Int) then (if 0 ≤ x12 then (if (rd x8 x12) = 0 then (codewrightref04_divides.l2 k x8 (wrap64 (x12 + 1))) else (some false)) else (none)) else (some true)
end
def codewrightref04_divides.f (k : Nat) (l0 : List Int) (l1 : List Int) (a2 : Int) : Option (Bool) := (some (([] : List Int) : List Int)).bind fun y101 => (if y101.length + l1.length < 17592186044416 then ((some (y101 ++ l1 : List Int)).bind fun y104 => (if y104.length < 17592186044416 then ((some (y104 ++ [1] : List Int)).bind fun y107 => (codewrightref04_divides.l0 k l0 a2 (l0.length : Int) y107 (wrap64 ((y107.length : Int) - 1)))) else (none))) else (none))
/-! ### codewrightref04_irreducible -/
mutual
def codewrightref04_irreducible.l0 : Nat → List Int → Int → Int → Int → Option (Bool)
  | 0, _, _, _, _ => none
  | k + 1, x0, x1, x5, x6 => if (wrap64 (2 * x6)) ≤ (x0.length : Int) then (codewrightref04_irreducible.l1 k x0 x1 (wrap64 (x5 * x1)) x6 0) else (some true)
def codewrightref04_irreducible.l1 : Nat → List Int → Int → Int → Int → Int → Option (Bool)
  | 0, _, _, _, _, _ => none
  | k + 1, x0, x1, x5, x6, x7 => if x7 < x5 then ((codewrightref04_digits.f k x7 x1 x6).bind fun t101 => ((codewrightref04_divides.f k t101 x0 x1).bind fun t104 => (if t104 = true then (some false) else (codewrightref04_irreducible.l1 k x0 x1 x5 x6 (wrap64 (x7 + 1)))))) else (codewrightref04_irreducible.l0 k x0 x1 x5 (wrap64 (x6 + 1)))
end
def codewrightref04_irreducible.f (k : Nat) (l0 : List Int) (a1 : Int) : Option (Bool) := codewrightref04_irreducible.l0 k l0 a1 1 1
/-! ### codewrightref04_prime -/
def codewrightref04_prime.l0 : Nat → Int → Int → Option (Bool)
  | 0, _, _ => none
  | k + 1, x0, x3 => if x3 < x0 then (if x3 = 0 then (none) else (if (Int.tmod x0 x3) = 0 then (some false) else (codewrightref04_prime.l0 k x0 (wrap64 (x3 + 1))))) else (some true)
def codewrightref04_prime.f (k : Nat) (a0 : Int) : Option (Bool) := codewrightref04_prime.l0 k a0 2
/-! ### codewrightref04_Check -/
mutual
def codewrightref04_Check.j0 : Nat → Bool → Int → Int → List Int → Option (Int)
  | 0, _, _, _, _ => none
  | k + 1, x12, x102000, x102001, x102002 => if x12 = true then (some 1) else (if x102001 = 1 then (if (x102002.length : Int) = 0 then (some 0) else (some 1)) else (if (x102002.length : Int) = x102001 then (codewrightref04_Check.l0 k 0 x102000 x102001 x102002) else (some 1)))
def codewrightref04_Check.l0 : Nat → Int → Int → Int → List Int → Option (Int)
  | 0, _, _, _, _ => none
  | k + 1, x3, x102000, x102001, x102002 => if x3 < x102001 then (if 0 ≤ x3 then (if x3 < (x102002.length : Int) then (if (rd x102002 x3) < 0 then (some 1) else (if (rd x102002 x3) ≥ x102000 then (some 1) else (codewrightref04_Check.l0 k (wrap64 (x3 + 1)) x102000 x102001 x102002))) else (none)) else (none)) else ((codewrightref04_irreducible.f k x102002 x102000).bind fun t106 => (if t106 = true then (some 0) else (some 1)))
end
def codewrightref04_Check.f (k : Nat) (a0_0 : Int) (a0_1 : Int) (l0_2 : List Int) : Option (Int) := (codewrightref04_Order.f k a0_0 a0_1 l0_2).bind fun t102 => (if t102 = 0 then (codewrightref04_Check.j0 k true a0_0 a0_1 l0_2) else ((codewrightref04_prime.f k a0_0).bind fun t103 => (codewrightref04_Check.j0 k (!t103) a0_0 a0_1 l0_2)))
/-! ### codewrightref04_Is -/
def codewrightref04_Is.f (k : Nat) (a0_0 : Int) (a0_1 : Int) (l0_2 : List Int) (a1 : Int) : Option (Bool) := if a1 ≥ 0 then ((codewrightref04_Order.f k a0_0 a0_1 l0_2).bind fun t102 => (some (decide (a1 < t102)))) else (some false)
/-! ### codewrightref04_In -/
def codewrightref04_In.f (k : Nat) (a0_0 : Int) (a0_1 : Int) (l0_2 : List Int) (a1 : Int) : Option (Int) := (codewrightref04_Is.f k a0_0 a0_1 l0_2 a1).bind fun t102 => (if t102 = true then (some a1) else (some 0))
/-! ### codewrightref04_Digits -/
def codewrightref04_Digits.f (k : Nat) (a0_0 : Int) (a0_1 : Int) (l0_2 : List Int) (a1 : Int) : Option (List Int) := (codewrightref04_In.f k a0_0 a0_1 l0_2 a1).bind fun t102 => ((codewrightref04_digits.f k t102 a0_0 a0_1).bind fun t103 => (some t103))
/-! ### codewrightref04_Value -/
def codewrightref04_Value.l0 : Nat → List Int → Int → Int → Int → Int → List Int → Option (Int)
  | 0, _, _, _, _, _, _ => none
  | k + 1, x1, x5, x6, x102000, x102001, x102002 => if x6 ≥ 0 then (if 0 ≤ x6 then (if x6 < (x1.length : Int) then (codewrightref04_Value.l0 k x1 (wrap64 ((wrap64 (x5 * x102000)) + (rd x1 x6))) (wrap64 (x6 - 1)) x102000 x102001 x102002) else (none)) else (none)) else (some x5)
def codewrightref04_Value.f (k : Nat) (a0_0 : Int) (a0_1 : Int) (l0_2 : List Int) (l1 : List Int) : Option (Int) := codewrightref04_Value.l0 k l1 0 (wrap64 ((l1.length : Int) - 1)) a0_0 a0_1 l0_2
/-! ### codewrightref04_Add -/
def codewrightref04_Add.l0 : Nat → List Int → List Int → Int → Int → Int → List Int → Option (Int)
  | 0, _, _, _, _, _, _ => none
  | k + 1, x7, x8, x9, x102000, x102001, x102002 => if x9 < (x7.length : Int) then (if 0 ≤ x9 then (if x9 < (x8.length : Int) then (if x102000 = 0 then (none) else (codewrightref04_Add.l0 k (x7.set (x9 : Int).toNat (Int.tmod (wrap64 ((rd x7 x9) + (rd x8 x9))) x102000)) x8 (wrap64 (x9 + 1)) x102000 x102001 x102002)) else (none)) else (none)) else ((codewrightref04_Value.f k x102000 x102001 x102002 x7).bind fun t111 => (some t111))
def codewrightref04_Add.f (k : Nat) (a0_0 : Int) (a0_1 : Int) (l0_2 : List Int) (a1 : Int) (a2 : Int) : Option (Int) := (codewrightref04_Digits.f k a0_0 a0_1 l0_2 a1).bind fun t102 => ((codewrightref04_Digits.f k a0_0 a0_1 l0_2 a2).bind fun t105 => (codewrightref04_Add.l0 k t102 t105 0 a0_0 a0_1 l0_2))
/-! ### codewrightref04_Mul -/
mutual
def codewrightref04_Mul.l0 : Nat → List Int → List Int → List Int → Int → Int → Int → List Int → Option (Int)
  | 0, _, _, _, _, _, _, _ => none
  | k + 1, x7, x8, x9, x10, x102000, x102001, x102002 => if x10 < x102001 then (codewrightref04_Mul.l1 k x7 x8 x9 x10 0 x102000 x102001 x102002) else (codewrightref04_Mul.l2 k x9 (wrap64 ((wrap64 (2 * x102001)) - 2)) x102000 x102001 x102002)
def codewrightref04_Mul.l1 : Nat → List Int → List Int → List Int → Int → Int → Int → Int → List Int → Option (Int)
  | 0, _, _, _, _, _, _, _, _ => none
  | k + 1, x7, x8, x9, x10, x11, x102000, x102001, x102002 => if x11 < x102001 then (if 0 ≤ (wrap64 (x10 + x11)) then (if (wrap64 (x10 + x11)) < (x9.length : Int) then (if 0 ≤ x10 then (if x10 < (x7.length : Int) then (if 0 ≤ x11 then (if x11 < (x8.length : Int) then (if x102000 = 0 then (none) else (codewrightref04_Mul.l1 k x7 x8 (x9.set ((wrap64 (x10 + x11)) : Int).toNat (Int.tmod (wrap64 ((rd x9 (wrap64 (x10 + x11))) + (wrap64 ((rd x7 x10) * (rd x8 x11))))) x102000)) x10 (wrap64 (x11 + 1)) x102000 x102001 x102002)) else (none)) else (none)) else (none)) else (none)) else (none)) else (none)) else (codewrightref04_Mul.l0 k x7 x8 x9 (wrap64 (x10 + 1)) x102000 x102001 x102002)
def codewrightref04_Mul.l2 : Nat → List Int → Int → Int → Int → List Int → Option (Int)
  | 0, _, _, _, _, _ => none
  | k + 1, x9, x12, x102000, x102001, x102002 => if x12 ≥ x102001 then (codewrightref04_Mul.l3 k x9 x12 0 x102000 x102001 x102002) else (if 0 ≤ x102001 then (if x102001 ≤ (x9.length : Int) then ((codewrightref04_Value.f k x102000 x102001 x102002 (x9.take (x102001 : Int).toNat)).bind fun t119 => (some t119)) else (none)) else (none))
def codewrightref04_Mul.l3 : Nat → List Int → Int → Int → Int → Int → List Int → Option (Int)
  | 0, _, _, _, _, _, _ => none
  | k + 1, x9, x12, x13, x102000, x102001, x102002 => if x13 < x102001 then (if 0 ≤ (wrap64 ((wrap64 (x12 - x102001)) + x13)) then (if (wrap64 ((wrap64 (x12 - x102001)) + x13)) < (x9.length : Int) then (if 0 ≤ x12 then (if x12 < (x9.length : Int) then (if 0 ≤ x13 then (if x13 < (x102002.length : Int) then (if x102000 = 0 then (none) else (codewrightref04_Mul.l3 k (x9.set ((wrap64 ((wrap64 (x12 - x102001)) + x13)) : Int).toNat (Int.tmod (wrap64 ((rd x9 (wrap64 ((wrap64 (x12 - x102001)) + x13))) + (wrap64 ((wrap64 (x102000 - (rd x9 x12))) * (rd x102002 x13))))) x102000)) x12 (wrap64 (x13 + 1)) x102000 x102001 x102002)) else (none)) else (none)) else (none)) else (none)) else (none)) else (none)) else (codewrightref04_Mul.l2 k x9 (wrap64 (x12 - 1)) x102000 x102001 x102002)
end
def codewrightref04_Mul.f (k : Nat) (a0_0 : Int) (a0_1 : Int) (l0_2 : List Int) (a1 : Int) (a2 : Int) : Option (Int) := (codewrightref04_Digits.f k a0_0 a0_1 l0_2 a1).bind fun t102 => ((codewrightref04_Digits.f k a0_0 a0_1 l0_2 a2).bind fun t105 => (if 0 ≤ (wrap64 ((wrap64 (2 * a0_1)) - 1)) then (if (wrap64 ((wrap64 (2 * a0_1)) - 1) : Int).toNat ≤ 35184372088832 then (codewrightref04_Mul.l0 k t102 t105 (List.replicate (wrap64 ((wrap64 (2 * a0_1)) - 1) : Int).toNat 0) 0 a0_0 a0_1 l0_2) else (none)) else (none)))
/-! ### codewrightref24_Row -/
def codewrightref24_Row.l0 : Nat → Int → List Int → List Int → Int → Int → Int → List Int → Option (List Int)
  | 0, _, _, _, _, _, _, _ => none
  | k + 1, x1, x2, x7, x8, x102000, x102001, x102002 => if x8 < x1 then (if x8 < (x2.length : Int) then (if 0 ≤ x8 then ((codewrightref04_In.f k x102000 x102001 x102002 (rd x2 x8)).bind fun t106 => (if x8 < (x7.length : Int) then (codewrightref24_Row.l0 k x1 x2 (x7.set (x8 : Int).toNat t106) (wrap64 (x8 + 1)) x102000 x102001 x102002) else (none))) else (none)) else (some x7)) else (some x7)
def codewrightref24_Row.f (k : Nat) (a0_0 : Int) (a0_1 : Int) (l0_2 : List Int) (a1 : Int) (l2 : List Int) : Option (List Int) := if 0 ≤ a1 then (if (a1 : Int).toNat ≤ 35184372088832 then (codewrightref24_Row.l0 k a1 l2 (List.replicate (a1 : Int).toNat 0) 0 a0_0 a0_1 l0_2) else (none)) else (none)
/-! ### codewrightref24_Distance -/
def codewrightref24_Distance.l0 : Nat → List Int → List Int → Int → Int → Option (Int)
  | 0, _, _, _, _ => none
  | k + 1, x0, x1, x5, x6 => if x6 < (x0.length : Int) then (if 0 ≤ x6 then (if x6 < (x1.length : Int) then (if (rd x0 x6) = (rd x1 x6) then (codewrightref24_Distance.l0 k x0 x1 x5 (wrap64 (x6 + 1))) else (codewrightref24_Distance.l0 k x0 x1 (wrap64 (x5 + 1)) (wrap64 (x6 + 1)))) else (none)) else (none)) else (some x5)
def codewrightref24_Distance.f (k : Nat) (l0 : List Int) (l1 : List Int) : Option (Int) := codewrightref24_Distance.l0 k l0 l1 0 0
/-! ### codewrightref24_has -/
def codewrightref24_has.l0 : Nat → List (List Int) → List Int → Int → Option (Bool)
  | 0, _, _, _ => none
  | k + 1, x0, x1, x5 => if x5 < (x0.length : Int) then (if 0 ≤ x5 then ((codewrightref24_Distance.f k (rd_L1 x0 x5) x1).bind fun t102 => (if t102 = 0 then (some true) else (codewrightref24_has.l0 k x0 x1 (wrap64 (x5 + 1))))) else (none)) else (some false)
def codewrightref24_has.f (k : Nat) (l0 : List (List Int)) (l1 : List Int) : Option (Bool) := codewrightref24_has.l0 k l0 l1 0
/-! ### codewrightref24_Span -/
mutual
def codewrightref24_Span.l0 : Nat → Int → List (List Int) → Int → List (List Int) → Int → Int → Int → List Int → Option ((List (List Int)))
  | 0, _, _, _, _, _, _, _, _ => none
  | k + 1, x1, x2, x3, x9, x10, x102000, x102001, x102002 => if x10 < (x2.length : Int) then (if 0 ≤ x10 then ((codewrightref24_Row.f k x102000 x102001 x102002 x1 (rd_L1 x2 x10)).bind fun t109 => ((codewrightref24_has.f k x9 t109).bind fun t112 => (if t112 = true then (codewrightref24_Span.l0 k x1 x2 x3 x9 (wrap64 (x10 + 1)) x102000 x102001 x102002) else ((codewrightref04_Order.f k x102000 x102001 x102002).bind fun t113 => (if t113 = 0 then (none) else (if (x9.length : Int) > (wrap64 (Int.tdiv x3 t113)) then (some ([] : List (List Int))) else (codewrightref24_Span.l1 k x1 x2 x3 x9 x10 t109 ([] : List (List Int)) 0 x102000 x102001 x102002))))))) else (none)) else (some x9)
def codewrightref24_Span.l1 : Nat → Int → List (List Int) → Int → List (List Int) → Int → List Int → List (List Int) → Int → Int → Int → List Int → Option ((List (List Int)))
  | 0, _, _, _, _, _, _, _, _, _, _, _ => none
  | k + 1, x1, x2, x3, x9, x10, x11, x12, x13, x102000, x102001, x102002 => (codewrightref04_Order.f k x102000 x102001 x102002).bind fun t114 => (if x13 < t114 then (codewrightref24_Span.l2 k x1 x2 x3 x9 x10 x11 x12 x13 0 x102000 x102001 x102002) else (codewrightref24_Span.l0 k x1 x2 x3 x12 (wrap64 (x10 + 1)) x102000 x102001 x102002))
def codewrightref24_Span.l2 : Nat → Int → List (List Int) → Int → List (List Int) → Int → List Int → List (List Int) → Int → Int → Int → Int → List Int → Option ((List (List Int)))
  | 0, _, _, _, _, _, _, _, _, _, _, _, _ => none
  | k + 1, x1, x2, x3, x9, x10, x11, x12, x13, x14, x102000, x102001, x102002 => if x14 < (x9.length : Int) then (if 0 ≤ x1 then (if (x1 : Int).toNat ≤ 35184372088832 then (codewrightref24_Span.l3 k x1 x2 x3 x9 x10 x11 x12 x13 x14 (List.replicate (x1 : Int).toNat 0) 0 x102000 x102001 x102002) else (none)) else (none)) else (codewrightref24_Span.l1 k x1 x2 x3 x9 x10 x11 x12 (wrap64 (x13 + 1)) x102000 x102001 x102002)
def codewrightref24_Span.l3 : Nat → Int → List (List Int) → Int → List (List Int) → Int → List Int → List (List Int) → Int → Int → List Int → Int → Int → Int → List Int → Option ((List (List Int)))
  | 0, _, _, _, _, _, _, _, _, _, _, _, _, _, _ => none
  | k + 1, x1, x2, x3, x9, x10, x11, x12, x13, x14, x15, x16, x102000, x102001, x102002 => if x16 < x1 then (if 0 ≤ x14 then (if x14 < (x9.length : Int) then (if 0 ≤ x16 then (if x16 < ((rd_L1 x9 x14).length : Int) then (if x16 < (x11.length : Int) then ((codewrightref04_Mul.f k x102000 x102001 x102002 x13 (rd x11 x16)).bind fun t121 => ((codewrightref04_Add.f k x102000 x102001 x102002 (rd (rd_L1 x9 x14) x16) t121).bind fun t122 => (if x16 < (x15.length : Int) then (codewrightref24_Span.l3 k x1 x2 x3 x9 x10 x11 x12 x13 x14 (x15.set (x16 : Int).toNat t122) (wrap64 (x16 + 1)) x102000 x102001 x102002) else (none)))) else (none)) else (none)) else (none)) else (none)) else (none)) else (if x12.length < 5864062014805 then (codewrightref24_Span.l2 k x1 x2 x3 x9 x10 x11 (x12 ++ [x15]) x13 (wrap64 (x14 + 1)) x102000 x102001 x102002) else (none))
end
def codewrightref24_Span.f (k : Nat) (a0_0 : Int) (a0_1 : Int) (l0_2 : List Int) (a1 : Int) (l2 : List (List Int)) (a3 : Int) : Option ((List (List Int))) := if 0 ≤ a1 then (if (a1 : Int).toNat ≤ 35184372088832 then (codewrightref24_Span.l0 k a1 l2 a3 (([(List.replicate (a1 : Int).toNat 0)] : List (List Int))) 0 a0_0 a0_1 l0_2) else (none)) else (none)
/-! ### codewrightref24_All -/
def codewrightref24_All.l0 : Nat → Int → Int → List (List Int) → Int → Int → Int → List Int → Option ((List (List Int)))
  | 0, _, _, _, _, _, _, _ => none
  | k + 1, x1, x2, x7, x8, x102000, x102001, x102002 => if x8 < x1 then (if 0 ≤ x1 then (if (x1 : Int).toNat ≤ 35184372088832 then ((some (List.replicate (x1 : Int).toNat 0 : List Int)).bind fun y102 => (if 0 ≤ x8 then (if x8 < (y102.length : Int) then (if x7.length < 5864062014805 then (codewrightref24_All.l0 k x1 x2 (x7 ++ [(y102.set (x8 : Int).toNat 1)]) (wrap64 (x8 + 1)) x102000 x102001 x102002) else (none)) else (none)) else (none))) else (none)) else (none)) else ((codewrightref24_Span.f k x102000 x102001 x102002 x1 x7 x2).bind fun t109 => (some t109))
def codewrightref24_All.f (k : Nat) (a0_0 : Int) (a0_1 : Int) (l0_2 : List Int) (a1 : Int) (a2 : Int) : Option ((List (List Int))) := codewrightref24_All.l0 k a1 a2 ([] : List (List Int)) 0 a0_0 a0_1 l0_2
/-! ### codewrightref04_Dot -/
mutual
def codewrightref04_Dot.l0 : Nat → List Int → List Int → Int → Int → Int → Int → List Int → Option (Int)
  | 0, _, _, _, _, _, _, _ => none
  | k + 1, x1, x2, x7, x8, x102000, x102001, x102002 => if x8 < (x1.length : Int) then (codewrightref04_Dot.j1 k x1 x2 x7 x8 (decide (x8 < (x2.length : Int))) x102000 x102001 x102002) else (codewrightref04_Dot.j1 k x1 x2 x7 x8 false x102000 x102001 x102002)
def codewrightref04_Dot.j1 : Nat → List Int → List Int → Int → Int → Bool → Int → Int → List Int → Option (Int)
  | 0, _, _, _, _, _, _, _, _ => none
  | k + 1, x1, x2, x7, x8, x18, x102000, x102001, x102002 => if x18 = true then (if 0 ≤ x8 then (if x8 < (x1.length : Int) then (if x8 < (x2.length : Int) then ((codewrightref04_Mul.f k x102000 x102001 x102002 (rd x1 x8) (rd x2 x8)).bind fun t104 => ((codewrightref04_Add.f k x102000 x102001 x102002 x7 t104).bind fun t105 => (codewrightref04_Dot.l0 k x1 x2 t105 (wrap64 (x8 + 1)) x102000 x102001 x102002))) else (none)) else (none)) else (none)) else (some x7)
end
def codewrightref04_Dot.f (k : Nat) (a0_0 : Int) (a0_1 : Int) (l0_2 : List Int) (l1 : List Int) (l2 : List Int) : Option (Int) := codewrightref04_Dot.l0 k l1 l2 0 0 a0_0 a0_1 l0_2
/-! ### codewrightref24_Orthogonal -/
mutual
def codewrightref24_Orthogonal.l0 : Nat → List (List Int) → List (List Int) → List (List Int) → Int → Int → Int → List Int → Option ((List (List Int)))
  | 0, _, _, _, _, _, _, _ => none
  | k + 1, x1, x2, x7, x8, x102000, x102001, x102002 => if x8 < (x1.length : Int) then (codewrightref24_Orthogonal.l1 k x1 x2 x7 x8 true 0 x102000 x102001 x102002) else (some x7)
def codewrightref24_Orthogonal.l1 : Nat → List (List Int) → List (List Int) → List (List Int) → Int → Bool → Int → Int → Int → List Int → Option ((List (List Int)))
  | 0, _, _, _, _, _, _, _, _, _ => none
  | k + 1, x1, x2, x7, x8, x9, x10, x102000, x102001, x102002 => if x10 < (x2.length : Int) then (if x9 = true then (if 0 ≤ x8 then (if x8 < (x1.length : Int) then (if 0 ≤ x10 then ((codewrightref04_Dot.f k x102000 x102001 x102002 (rd_L1 x1 x8) (rd_L1 x2 x10)).bind fun t104 => (codewrightref24_Orthogonal.l1 k x1 x2 x7 x8 (t104 == 0) (wrap64 (x10 + 1)) x102000 x102001 x102002)) else (none)) else (none)) else (none)) else (codewrightref24_Orthogonal.l1 k x1 x2 x7 x8 false (wrap64 (x10 + 1)) x102000 x102001 x102002)) else (if x9 = true then (if 0 ≤ x8 then (if x8 < (x1.length : Int) then (if x7.length < 5864062014805 then (codewrightref24_Orthogonal.l0 k x1 x2 (x7 ++ [rd_L1 x1 x8]) (wrap64 (x8 + 1)) x102000 x102001 x102002) else (none)) else (none)) else (none)) else (codewrightref24_Orthogonal.l0 k x1 x2 x7 (wrap64 (x8 + 1)) x102000 x102001 x102002))
end
def codewrightref24_Orthogonal.f (k : Nat) (a0_0 : Int) (a0_1 : Int) (l0_2 : List Int) (l1 : List (List Int)) (l2 : List (List Int)) : Option ((List (List Int))) := codewrightref24_Orthogonal.l0 k l1 l2 ([] : List (List Int)) 0 a0_0 a0_1 l0_2
/-! ### codewrightlaw24_codes -/
mutual
def codewrightlaw24_codes.j0 : Nat → List (List Int) → Int → Bool → Int → Int → List Int → Option (Int × (List (List Int)) × (List (List Int)) × (List (List Int)) × Bool)
  | 0, _, _, _, _, _, _ => none
  | k + 1, x2, x6, x24, x102000, x102001, x102002 => if x24 = true then (some (0, ([] : List (List Int)), ([] : List (List Int)), ([] : List (List Int)), false)) else ((codewrightref24_Span.f k x102000 x102001 x102002 x6 x2 4096).bind fun t103 => ((codewrightref24_All.f k x102000 x102001 x102002 x6 4096).bind fun t106 => (if (t103.length : Int) = 0 then (codewrightlaw24_codes.j1 k x2 x6 t103 t106 true x102000 x102001 x102002) else (codewrightlaw24_codes.j1 k x2 x6 t103 t106 ((t106.length : Int) == 0) x102000 x102001 x102002))))
def codewrightlaw24_codes.j1 : Nat → List (List Int) → Int → List (List Int) → List (List Int) → Bool → Int → Int → List Int → Option (Int × (List (List Int)) × (List (List Int)) × (List (List Int)) × Bool)
  | 0, _, _, _, _, _, _, _, _ => none
  | k + 1, x2, x6, x7, x9, x39, x102000, x102001, x102002 => if x39 = true then (some (0, ([] : List (List Int)), ([] : List (List Int)), ([] : List (List Int)), false)) else (codewrightlaw24_codes.l0 k x2 x6 x7 x9 ([] : List (List Int)) 0 x102000 x102001 x102002)
def codewrightlaw24_codes.l0 : Nat → List (List Int) → Int → List (List Int) → List (List Int) → List (List Int) → Int → Int → Int → List Int → Option (Int × (List (List Int)) × (List (List Int)) × (List (List Int)) × Bool)
  | 0, _, _, _, _, _, _, _, _, _ => none
  | k + 1, x2, x6, x7, x9, x11, x12, x102000, x102001, x102002 => if x12 < (x2.length : Int) then (if 0 ≤ x12 then ((codewrightref24_Row.f k x102000 x102001 x102002 x6 (rd_L1 x2 x12)).bind fun t110 => (if x11.length < 5864062014805 then (codewrightlaw24_codes.l0 k x2 x6 x7 x9 (x11 ++ [t110]) (wrap64 (x12 + 1)) x102000 x102001 x102002) else (none))) else (none)) else ((codewrightref24_Orthogonal.f k x102000 x102001 x102002 x9 x11).bind fun t116 => (some (x6, x7, t116, x9, true)))
end
def codewrightlaw24_codes.f (k : Nat) (a0_0 : Int) (a0_1 : Int) (l0_2 : List Int) (a1 : Int) (l2 : List (List Int)) : Option (Int × (List (List Int)) × (List (List Int)) × (List (List Int)) × Bool) := (codewrightref04_Check.f k a0_0 a0_1 l0_2).bind fun t102 => (if t102 = 0 then (codewrightlaw24_codes.j0 k l2 (wrap64 ((Int.tmod (wrap64 (a1)) 12) + 1)) (decide ((l2.length : Int) > 12)) a0_0 a0_1 l0_2) else (codewrightlaw24_codes.j0 k l2 (wrap64 ((Int.tmod (wrap64 (a1)) 12) + 1)) true a0_0 a0_1 l0_2))
/-! ### codewrightref01_Trim -/
def codewrightref01_Trim.l0 : Nat → List Int → Int → Option (List Int)
  | 0, _, _ => none
  | k + 1, x0, x3 => if x3 > 0 then (if 0 ≤ (wrap64 (x3 - 1)) then (if (wrap64 (x3 - 1)) < (x0.length : Int) then (if (rd x0 (wrap64 (x3 - 1))) = 0 then (codewrightref01_Trim.l0 k x0 (wrap64 (x3 - 1))) else ((some (([] : List Int) : List Int)).bind fun y102 => (if 0 ≤ x3 then (if x3 ≤ (x0.length : Int) then (if y102.length + (x0.take (x3 : Int).toNat).length < 35184372088832 then (some (y102 ++ (x0.take (x3 : Int).toNat))) else (none)) else (none)) else (none)))) else (none)) else (none)) else ((some (([] : List Int) : List Int)).bind fun y109 => (if 0 ≤ x3 then (if x3 ≤ (x0.length : Int) then (if y109.length + (x0.take (x3 : Int).toNat).length < 35184372088832 then (some (y109 ++ (x0.take (x3 : Int).toNat))) else (none)) else (none)) else (none)))
def codewrightref01_Trim.f (k : Nat) (l0 : List Int) : Option (List Int) := codewrightref01_Trim.l0 k l0 (l0.length : Int)
/-! ### codewrightref01_Zero -/
def codewrightref01_Zero.f (k : Nat) (l0 : List Int) : Option (Bool) := (codewrightref01_Trim.f k l0).bind fun t101 => (some ((t101.length : Int) == 0))
/-! ### codewrightref24_nonzero -/
def codewrightref24_nonzero.l0 : Nat → List (List Int) → Int → Int → Int → Option (Int)
  | 0, _, _, _, _ => none
  | k + 1, x0, x1, x5, x6 => if x6 ≤ x1 then (if 0 ≤ x6 then (if x6 < (x0.length : Int) then ((codewrightref01_Zero.f k (rd_L3 x0 x6)).bind fun t102 => (if t102 = true then (codewrightref24_nonzero.l0 k x0 x1 x5 (wrap64 (x6 + 1))) else (codewrightref24_nonzero.l0 k x0 x1 (wrap64 (x5 + 1)) (wrap64 (x6 + 1))))) else (none)) else (none)) else (some x5)
def codewrightref24_nonzero.f (k : Nat) (l0 : List (List Int)) (a1 : Int) : Option (Int) := codewrightref24_nonzero.l0 k l0 a1 0 1
/-! ### codewrightref24_External -/
def codewrightref24_External.f (k : Nat) (l0 : List (List Int)) : Option (Int) := (codewrightref24_nonzero.f k l0 (wrap64 ((l0.length : Int) - 1))).bind fun t101 => (some t101)
/-! ### codewrightref01_Of -/
def codewrightref01_Of.f (k : Nat) (a0 : Int) : Option (List Int) := (codewrightref01_Trim.f k (([(Int.tmod a0 4294967296) % 4294967296, (IntKind.u64.wrap (Int.tdiv a0 4294967296)) % 4294967296] : List Int))).bind fun t104 => (some t104)
/-! ### codewrightref24_Weights -/
mutual
def codewrightref24_Weights.l0 : Nat → Int → List (List Int) → List Int → List Int → Int → Option ((List (List Int)))
  | 0, _, _, _, _, _ => none
  | k + 1, x0, x1, x5, x6, x7 => if x7 < (x1.length : Int) then (if 0 ≤ x7 then ((codewrightref24_Distance.f k (rd_L1 x1 x7) x6).bind fun t108 => (if 0 ≤ t108 then (if t108 < (x5.length : Int) then (codewrightref24_Weights.l0 k x0 x1 (x5.set (t108 : Int).toNat (wrap64 ((rd x5 t108) + 1))) x6 (wrap64 (x7 + 1))) else (none)) else (none))) else (none)) else (codewrightref24_Weights.l1 k x0 x5 ([] : List (List Int)) 0)
def codewrightref24_Weights.l1 : Nat → Int → List Int → List (List Int) → Int → Option ((List (List Int)))
  | 0, _, _, _, _ => none
  | k + 1, x0, x5, x8, x9 => if x9 ≤ x0 then (if 0 ≤ x9 then (if x9 < (x5.length : Int) then ((codewrightref01_Of.f k (IntKind.u64.wrap (rd x5 x9))).bind fun t112 => (if x8.length < 5864062014805 then (codewrightref24_Weights.l1 k x0 x5 (x8 ++ [t112]) (wrap64 (x9 + 1))) else (none))) else (none)) else (none)) else (some x8)
end
def codewrightref24_Weights.f (k : Nat) (a0 : Int) (l1 : List (List Int)) : Option ((List (List Int))) := if 0 ≤ (wrap64 (a0 + 1)) then (if (wrap64 (a0 + 1) : Int).toNat ≤ 35184372088832 then (if 0 ≤ a0 then (if (a0 : Int).toNat ≤ 35184372088832 then (codewrightref24_Weights.l0 k a0 l1 (List.replicate (wrap64 (a0 + 1) : Int).toNat 0) (List.replicate (a0 : Int).toNat 0) 0) else (none)) else (none)) else (none)) else (none)
/-! ### nat_short -/
def nat_short.l0 : Nat → List Int → Int → Option (List Int)
  | 0, _, _ => none
  | k + 1, x0, x3 => if x3 > 0 then (if 0 ≤ (wrap64 (x3 - 1)) then (if (wrap64 (x3 - 1)) < (x0.length : Int) then (if (rd x0 (wrap64 (x3 - 1))) = 0 then (nat_short.l0 k x0 (wrap64 (x3 - 1))) else (if 0 ≤ x3 then (if x3 ≤ (x0.length : Int) then (some (x0.take (x3 : Int).toNat)) else (none)) else (none))) else (none)) else (none)) else (if 0 ≤ x3 then (if x3 ≤ (x0.length : Int) then (some (x0.take (x3 : Int).toNat)) else (none)) else (none))
def nat_short.f (k : Nat) (l0 : List Int) : Option (List Int) := nat_short.l0 k l0 (l0.length : Int)
/-! ### nat_Trim -/
def nat_Trim.f (k : Nat) (l0 : List Int) : Option (List Int) := (nat_short.f k l0).bind fun t101 => (if ([] : List Int).length + t101.length < 35184372088832 then (some (([] : List Int) ++ t101)) else (none))
/-! ### nat_plus -/
mutual
def nat_plus.j0 : Nat → List Int → List Int → Option (List Int)
  | 0, _, _ => none
  | k + 1, x0, x1 => if 0 ≤ (wrap64 ((x0.length : Int) + 1)) then (if (wrap64 ((x0.length : Int) + 1) : Int).toNat ≤ 70368744177664 then (nat_plus.l0 k x0 x1 (List.replicate (wrap64 ((x0.length : Int) + 1) : Int).toNat 0) 0 (x0.length : Int) 0) else (none)) else (none)
def nat_plus.l0 : Nat → List Int → List Int → List Int → Int → Int → Int → Option (List Int)
  | 0, _, _, _, _, _, _ => none
  | k + 1, x0, x1, x5, x6, x21, x22 => if x22 < x21 then (if 0 ≤ x22 then (if x22 < (x0.length : Int) then (if x22 < (x1.length : Int) then (if x22 < (x5.length : Int) then (nat_plus.l0 k x0 x1 (x5.set (x22 : Int).toNat ((IntKind.u64.wrap ((IntKind.u64.wrap ((IntKind.u64.wrap (rd x0 x22)) + x6)) + (IntKind.u64.wrap (rd x1 x22)))) % 4294967296)) ((IntKind.u64.wrap ((IntKind.u64.wrap ((IntKind.u64.wrap (rd x0 x22)) + x6)) + (IntKind.u64.wrap (rd x1 x22)))) / 4294967296) x21 (wrap64 (x22 + 1))) else (none)) else (if x22 < (x5.length : Int) then (nat_plus.l0 k x0 x1 (x5.set (x22 : Int).toNat ((IntKind.u64.wrap ((IntKind.u64.wrap (rd x0 x22)) + x6)) % 4294967296)) ((IntKind.u64.wrap ((IntKind.u64.wrap (rd x0 x22)) + x6)) / 4294967296) x21 (wrap64 (x22 + 1))) else (none))) else (none)) else (none)) else (if 0 ≤ (x0.length : Int) then (if (x0.length : Int) < (x5.length : Int) then ((nat_short.f k (x5.set ((x0.length : Int) : Int).toNat ((x6) % 4294967296))).bind fun t109 => (some t109)) else (none)) else (none))
end
def nat_plus.f (k : Nat) (l0 : List Int) (l1 : List Int) : Option (List Int) := if (l0.length : Int) < (l1.length : Int) then (nat_plus.j0 k l1 l0) else (nat_plus.j0 k l0 l1)
/-! ### nat_Add -/
def nat_Add.l0 : Nat → List Int → List (List Int) → Int → Int → Option (List Int)
  | 0, _, _, _, _ => none
  | k + 1, x3, x6, x7, x8 => if x8 < x7 then (if 0 ≤ x8 then (if x8 < (x6.length : Int) then ((nat_short.f k (rd_L3 x6 x8)).bind fun t102 => ((nat_plus.f k x3 t102).bind fun t105 => (nat_Add.l0 k t105 x6 x7 (wrap64 (x8 + 1))))) else (none)) else (none)) else ((nat_Trim.f k x3).bind fun t108 => (some t108))
def nat_Add.f (k : Nat) (l0 : List (List Int)) : Option (List Int) := nat_Add.l0 k ([] : List Int) l0 (l0.length : Int) 0
/-! ### nat_Cmp -/
def nat_Cmp.l0 : Nat → List Int → List Int → Int → Option (Int)
  | 0, _, _, _ => none
  | k + 1, x0, x1, x5 => if x5 ≥ 0 then (if 0 ≤ x5 then (if x5 < (x0.length : Int) then (if x5 < (x1.length : Int) then (if (rd x0 x5) < (rd x1 x5) then (some (-1)) else (if (rd x0 x5) > (rd x1 x5) then (some 1) else (nat_Cmp.l0 k x0 x1 (wrap64 (x5 - 1))))) else (none)) else (none)) else (none)) else (some 0)
def nat_Cmp.f (k : Nat) (l0 : List Int) (l1 : List Int) : Option (Int) := (nat_short.f k l0).bind fun t101 => ((nat_short.f k l1).bind fun t104 => (if (t101.length : Int) = (t104.length : Int) then (nat_Cmp.l0 k t101 t104 (wrap64 ((t101.length : Int) - 1))) else (if (t101.length : Int) < (t104.length : Int) then (some (-1)) else (some 1))))
/-! ### nat_Sub -/
def nat_Sub.l0 : Nat → List Int → List Int → Int → Int → Int → Option (List Int × Int)
  | 0, _, _, _, _, _ => none
  | k + 1, x1, x6, x7, x17, x18 => if x18 < x17 then (if 0 ≤ x18 then (if x18 < (x6.length : Int) then (if x18 < (x1.length : Int) then (nat_Sub.l0 k x1 (x6.set (x18 : Int).toNat ((IntKind.u64.wrap ((IntKind.u64.wrap ((IntKind.u64.wrap (rd x6 x18)) - x7)) - (IntKind.u64.wrap (rd x1 x18)))) % 4294967296)) ((IntKind.u64.wrap ((IntKind.u64.wrap ((IntKind.u64.wrap (rd x6 x18)) - x7)) - (IntKind.u64.wrap (rd x1 x18)))) / 9223372036854775808) x17 (wrap64 (x18 + 1))) else (nat_Sub.l0 k x1 (x6.set (x18 : Int).toNat ((IntKind.u64.wrap ((IntKind.u64.wrap (rd x6 x18)) - x7)) % 4294967296)) ((IntKind.u64.wrap ((IntKind.u64.wrap (rd x6 x18)) - x7)) / 9223372036854775808) x17 (wrap64 (x18 + 1)))) else (none)) else (none)) else ((nat_short.f k x6).bind fun t109 => (some (t109, 0)))
def nat_Sub.f (k : Nat) (l0 : List Int) (l1 : List Int) : Option (List Int × Int) := (nat_Cmp.f k l0 l1).bind fun t101 => (if t101 < 0 then (some (([] : List Int), 6)) else ((nat_Trim.f k l0).bind fun t102 => (nat_Sub.l0 k l1 t102 0 (t102.length : Int) 0)))
/-! ### macwilliams_plus -/
def macwilliams_plus.f (k : Nat) (a0_0 : Bool) (l0_1 : List Int) (a1_0 : Bool) (l1_1 : List Int) : Option (Bool × List Int) := if (a0_0 == a1_0) = true then ((nat_Add.f k (([l0_1, l1_1] : List (List Int)))).bind fun t107 => (some (a0_0, t107))) else ((nat_Cmp.f k l0_1 l1_1).bind fun t110 => (if t110 < 0 then ((nat_Sub.f k l1_1 l0_1).bind fun bt111 => (some (a1_0, bt111.1))) else ((nat_Sub.f k l0_1 l1_1).bind fun bt115 => (some (a0_0, bt115.1)))))
/-! ### macwilliams_minus -/
def macwilliams_minus.f (k : Nat) (a0_0 : Bool) (l0_1 : List Int) (a1_0 : Bool) (l1_1 : List Int) : Option (Bool × List Int) := (macwilliams_plus.f k a0_0 l0_1 (!a1_0) l1_1).bind fun bt104 => (some (bt104.1, bt104.2))
/-! ### nat_Of -/
def nat_Of.f (k : Nat) (a0 : Int) : Option (List Int) := (nat_Trim.f k (([(a0) % 4294967296, (a0 / 4294967296) % 4294967296] : List Int))).bind fun t104 => (some t104)
/-! ### macwilliams_small -/
def macwilliams_small.f (k : Nat) (a0 : Int) : Option (Bool × List Int) := (nat_Of.f k (IntKind.u64.wrap (a0))).bind fun t102 => (some (false, t102))
/-! ### nat_times -/
mutual
def nat_times.l0 : Nat → List Int → List Int → List Int → Int → Int → Option (List Int)
  | 0, _, _, _, _, _ => none
  | k + 1, x1, x5, x18, x19, x20 => if x20 < x19 then (if 0 ≤ x20 then (if x20 < (x18.length : Int) then (nat_times.l1 k x1 x5 x20 (rd x18 x20) 0 x18 x19 x20 x1 (x1.length : Int) 0) else (none)) else (none)) else ((nat_short.f k x5).bind fun t104 => (some t104))
def nat_times.l1 : Nat → List Int → List Int → Int → Int → Int → List Int → Int → Int → List Int → Int → Int → Option (List Int)
  | 0, _, _, _, _, _, _, _, _, _, _, _ => none
  | k + 1, x1, x5, x6, x7, x8, x18, x19, x20, x25, x26, x27 => if x27 < x26 then (if 0 ≤ x27 then (if x27 < (x25.length : Int) then (if 0 ≤ (wrap64 (x6 + x27)) then (if (wrap64 (x6 + x27)) < (x5.length : Int) then (nat_times.l1 k x1 (x5.set ((wrap64 (x6 + x27)) : Int).toNat ((IntKind.u64.wrap ((IntKind.u64.wrap ((IntKind.u64.wrap ((IntKind.u64.wrap (x7)) * (IntKind.u64.wrap (rd x25 x27)))) + (IntKind.u64.wrap (rd x5 (wrap64 (x6 + x27)))))) + x8)) % 4294967296)) x6 x7 ((IntKind.u64.wrap ((IntKind.u64.wrap ((IntKind.u64.wrap ((IntKind.u64.wrap (x7)) * (IntKind.u64.wrap (rd x25 x27)))) + (IntKind.u64.wrap (rd x5 (wrap64 (x6 + x27)))))) + x8)) / 4294967296) x18 x19 x20 x25 x26 (wrap64 (x27 + 1))) else (none)) else (none)) else (none)) else (none)) else (if 0 ≤ (wrap64 (x6 + (x1.length : Int))) then (if (wrap64 (x6 + (x1.length : Int))) < (x5.length : Int) then (nat_times.l0 k x1 (x5.set ((wrap64 (x6 + (x1.length : Int))) : Int).toNat ((x8) % 4294967296)) x18 x19 (wrap64 (x20 + 1))) else (none)) else (none))
end
def nat_times.f (k : Nat) (l0 : List Int) (l1 : List Int) : Option (List Int) := if 0 ≤ (wrap64 ((l0.length : Int) + (l1.length : Int))) then (if (wrap64 ((l0.length : Int) + (l1.length : Int)) : Int).toNat ≤ 70368744177664 then (nat_times.l0 k l1 (List.replicate (wrap64 ((l0.length : Int) + (l1.length : Int)) : Int).toNat 0) l0 (l0.length : Int) 0) else (none)) else (none)
/-! ### nat_Mul -/
def nat_Mul.l0 : Nat → List Int → List (List Int) → Int → Int → Option (List Int)
  | 0, _, _, _, _ => none
  | k + 1, x3, x7, x8, x9 => if x9 < x8 then (if 0 ≤ x9 then (if x9 < (x7.length : Int) then ((nat_short.f k (rd_L3 x7 x9)).bind fun t105 => ((nat_times.f k x3 t105).bind fun t108 => (nat_Mul.l0 k t108 x7 x8 (wrap64 (x9 + 1))))) else (none)) else (none)) else ((nat_Trim.f k x3).bind fun t111 => (some t111))
def nat_Mul.f (k : Nat) (l0 : List (List Int)) : Option (List Int) := nat_Mul.l0 k (([1] : List Int)) l0 (l0.length : Int) 0
/-! ### macwilliams_times -/
def macwilliams_times.f (k : Nat) (a0_0 : Bool) (l0_1 : List Int) (a1_0 : Bool) (l1_1 : List Int) : Option (Bool × List Int) := (nat_Mul.f k (([l0_1, l1_1] : List (List Int)))).bind fun t107 => (some ((a0_0 != a1_0), t107))
/-! ### nat_digit -/
def nat_digit.l0 : Nat → List Int → Int → List Int → Int → Int → Option (List Int × Int)
  | 0, _, _, _, _, _ => none
  | k + 1, x0, x1, x6, x7, x8 => if x8 ≥ 0 then (if 0 ≤ x8 then (if x8 < (x0.length : Int) then (if (IntKind.u64.wrap (x1)) = 0 then (none) else (if x8 < (x6.length : Int) then (nat_digit.l0 k x0 x1 (x6.set (x8 : Int).toNat ((IntKind.u64.wrap (Int.tdiv (Go.bits .or .u64 (IntKind.u64.wrap (x7 * 4294967296)) (IntKind.u64.wrap (rd x0 x8))) (IntKind.u64.wrap (x1)))) % 4294967296)) (Int.tmod (Go.bits .or .u64 (IntKind.u64.wrap (x7 * 4294967296)) (IntKind.u64.wrap (rd x0 x8))) (IntKind.u64.wrap (x1))) (wrap64 (x8 - 1))) else (none))) else (none)) else (none)) else ((nat_short.f k x6).bind fun t106 => (some (t106, (x7) % 4294967296)))
def nat_digit.f (k : Nat) (l0 : List Int) (a1 : Int) : Option (List Int × Int) := if 0 ≤ (l0.length : Int) then (if ((l0.length : Int) : Int).toNat ≤ 70368744177664 then (nat_digit.l0 k l0 a1 (List.replicate ((l0.length : Int) : Int).toNat 0) 0 (wrap64 ((l0.length : Int) - 1))) else (none)) else (none)
/-! ### nat_Binomial -/
mutual
def nat_Binomial.j0 : Nat → Int → Int → Bool → Option (List Int × Int)
  | 0, _, _, _ => none
  | k + 1, x0, x1, x13 => if x13 = true then (some (([] : List Int), 6)) else (if x1 < 0 then (nat_Binomial.j1 k x0 x1 true) else (nat_Binomial.j1 k x0 x1 (decide (x1 > x0))))
def nat_Binomial.j1 : Nat → Int → Int → Bool → Option (List Int × Int)
  | 0, _, _, _ => none
  | k + 1, x0, x1, x20 => if x20 = true then (some (([] : List Int), 0)) else (nat_Binomial.l0 k x0 (([1] : List Int)) (mn x1 (wrap64 (x0 - x1))) 0)
def nat_Binomial.l0 : Nat → Int → List Int → Int → Int → Option (List Int × Int)
  | 0, _, _, _, _ => none
  | k + 1, x0, x6, x26, x27 => if x27 < x26 then ((nat_times.f k x6 (([(wrap64 (x0 - x27)) % 4294967296] : List Int))).bind fun t107 => ((nat_digit.f k t107 ((wrap64 (x27 + 1)) % 4294967296)).bind fun bt110 => (nat_Binomial.l0 k x0 bt110.1 x26 (wrap64 (x27 + 1))))) else ((nat_Trim.f k x6).bind fun t114 => (some (t114, 0)))
end
def nat_Binomial.f (k : Nat) (a0 : Int) (a1 : Int) : Option (List Int × Int) := if a0 < 0 then (nat_Binomial.j0 k a0 a1 true) else (nat_Binomial.j0 k a0 a1 (decide (a0 > 4096)))
/-! ### nat_Bits -/
def nat_Bits.f (k : Nat) (l0 : List Int) : Option (Int) := (nat_short.f k l0).bind fun t101 => (if (t101.length : Int) = 0 then (some 0) else (if 0 ≤ (wrap64 ((t101.length : Int) - 1)) then (if (wrap64 ((t101.length : Int) - 1)) < (t101.length : Int) then ((bits_Len32.f (rd t101 (wrap64 ((t101.length : Int) - 1)))).bind fun t105 => (some (wrap64 ((wrap64 (32 * (wrap64 ((t101.length : Int) - 1)))) + t105)))) else (none)) else (none)))
/-! ### nat_Pow -/
mutual
def nat_Pow.j0 : Nat → List Int → Int → Int → Bool → Option (List Int × Int)
  | 0, _, _, _, _ => none
  | k + 1, x0, x1, x6, x13 => if x13 = true then (some ((([1] : List Int)), 0)) else (if x6 = 0 then (some (([] : List Int), 0)) else (if x1 > 131072 then (some (([] : List Int), 8)) else (if (wrap64 ((wrap64 (x6 - 1)) * x1)) ≥ 131072 then (some (([] : List Int), 8)) else ((nat_short.f k x0).bind fun t108 => (nat_Pow.l0 k x1 (([1] : List Int)) t108)))))
def nat_Pow.l0 : Nat → Int → List Int → List Int → Option (List Int × Int)
  | 0, _, _, _ => none
  | k + 1, x1, x7, x8 => if (Go.bits .and .i64 x1 1) = 1 then ((nat_times.f k x7 x8).bind fun t111 => (if (x1 / 2) = 0 then (if (t111.length : Int) > 4096 then (some (([] : List Int), 8)) else ((nat_Trim.f k t111).bind fun t114 => (some (t114, 0)))) else ((nat_times.f k x8 x8).bind fun t117 => (nat_Pow.l0 k (x1 / 2) t111 t117)))) else (if (x1 / 2) = 0 then (if (x7.length : Int) > 4096 then (some (([] : List Int), 8)) else ((nat_Trim.f k x7).bind fun t120 => (some (t120, 0)))) else ((nat_times.f k x8 x8).bind fun t123 => (nat_Pow.l0 k (x1 / 2) x7 t123)))
end
def nat_Pow.f (k : Nat) (l0 : List Int) (a1 : Int) : Option (List Int × Int) := if a1 < 0 then (some (([] : List Int), 6)) else ((nat_Bits.f k l0).bind fun t101 => (if a1 = 0 then (nat_Pow.j0 k l0 a1 t101 true) else (nat_Pow.j0 k l0 a1 t101 (t101 == 1))))
/-! ### macwilliams_table -/
mutual
def macwilliams_table.l0 : Nat → Int → Int → List (S113) → Int → Int → Option ((List (List (S113))))
  | 0, _, _, _, _, _ => none
  | k + 1, x0, x1, x5, x20, x21 => if x21 < x20 then ((nat_Binomial.f k x1 x21).bind fun bt104 => ((nat_Of.f k (IntKind.u64.wrap (wrap64 (x0 - 1)))).bind fun t108 => ((nat_Pow.f k t108 x21).bind fun bt111 => ((nat_Mul.f k (([bt104.1, bt111.1] : List (List Int)))).bind fun t118 => (if 0 ≤ x21 then (if x21 < (x5.length : Int) then (macwilliams_table.l0 k x0 x1 (x5.set (x21 : Int).toNat (⟨false, t118⟩ : S113)) x20 (wrap64 (x21 + 1))) else (none)) else (none)))))) else ((macwilliams_small.f k (wrap64 (x0 - 1))).bind fun bt125 => (macwilliams_table.l1 k x1 (([x5] : List (List (S113)))) x1 0 bt125.1 bt125.2))
def macwilliams_table.l1 : Nat → Int → List (List (S113)) → Int → Int → Bool → List Int → Option ((List (List (S113))))
  | 0, _, _, _, _, _, _ => none
  | k + 1, x1, x11, x53, x54, x130000, x130001 => if x54 < x53 then (if 0 ≤ (wrap64 ((x11.length : Int) - 1)) then (if (wrap64 ((x11.length : Int) - 1)) < (x11.length : Int) then (if 0 < ((rd_L6 x11 (wrap64 ((x11.length : Int) - 1))).length : Int) then (macwilliams_table.l2 k x1 x11 (rd_L6 x11 (wrap64 ((x11.length : Int) - 1))) (([(⟨(rd_T113 (rd_L6 x11 (wrap64 ((x11.length : Int) - 1))) 0).f0, (rd_T113 (rd_L6 x11 (wrap64 ((x11.length : Int) - 1))) 0).f1⟩ : S113)] : List (S113))) 1 x53 x54 x130000 x130001) else (none)) else (none)) else (none)) else (some x11)
def macwilliams_table.l2 : Nat → Int → List (List (S113)) → List (S113) → List (S113) → Int → Int → Int → Bool → List Int → Option ((List (List (S113))))
  | 0, _, _, _, _, _, _, _, _, _ => none
  | k + 1, x1, x11, x13, x14, x15, x53, x54, x130000, x130001 => if x15 ≤ x1 then (if 0 ≤ x15 then (if x15 < (x13.length : Int) then (if 0 ≤ (wrap64 (x15 - 1)) then (if (wrap64 (x15 - 1)) < (x13.length : Int) then ((macwilliams_minus.f k ((rd_T113 x13 x15).f0) ((rd_T113 x13 x15).f1) ((rd_T113 x13 (wrap64 (x15 - 1))).f0) ((rd_T113 x13 (wrap64 (x15 - 1))).f1)).bind fun bt137 => (if (wrap64 (x15 - 1)) < (x14.length : Int) then ((macwilliams_times.f k x130000 x130001 ((rd_T113 x14 (wrap64 (x15 - 1))).f0) ((rd_T113 x14 (wrap64 (x15 - 1))).f1)).bind fun bt142 => ((macwilliams_minus.f k bt137.1 bt137.2 bt142.1 bt142.2).bind fun bt146 => (if x14.length < 4398046511104 then (macwilliams_table.l2 k x1 x11 x13 (x14 ++ [(⟨bt146.1, bt146.2⟩ : S113)]) (wrap64 (x15 + 1)) x53 x54 x130000 x130001) else (none)))) else (none))) else (none)) else (none)) else (none)) else (none)) else (if x11.length < 5864062014805 then (macwilliams_table.l1 k x1 (x11 ++ [x14]) x53 (wrap64 (x54 + 1)) x130000 x130001) else (none))
end
def macwilliams_table.f (k : Nat) (a0 : Int) (a1 : Int) : Option ((List (List (S113)))) := if 0 ≤ (wrap64 (a1 + 1)) then (if (wrap64 (a1 + 1) : Int).toNat ≤ 8796093022208 then ((some (List.replicate (wrap64 (a1 + 1) : Int).toNat z113 : List (S113))).bind fun y101 => (macwilliams_table.l0 k a0 a1 y101 (y101.length : Int) 0)) else (none)) else (none)
/-! ### macwilliams_sums -/
mutual
def macwilliams_sums.l0 : Nat → List (S113) → List (List (S113)) → List (S113) → Int → Int → Option ((List (S113)))
  | 0, _, _, _, _, _ => none
  | k + 1, x1, x5, x6, x19, x20 => if x20 < x19 then (macwilliams_sums.l1 k x1 x5 x6 x20 x19 x20 x1 (x1.length : Int) 0) else (some x6)
def macwilliams_sums.l1 : Nat → List (S113) → List (List (S113)) → List (S113) → Int → Int → Int → List (S113) → Int → Int → Option ((List (S113)))
  | 0, _, _, _, _, _, _, _, _, _ => none
  | k + 1, x1, x5, x6, x7, x19, x20, x23, x24, x25 => if x25 < x24 then (if 0 ≤ x25 then (if x25 < (x23.length : Int) then (if (((rd_T113 x23 x25).f1).length : Int) > 0 then (if 0 ≤ x7 then (if x7 < (x6.length : Int) then (if x25 < (x5.length : Int) then (if x7 < ((rd_L6 x5 x25).length : Int) then ((macwilliams_times.f k ((rd_T113 x23 x25).f0) ((rd_T113 x23 x25).f1) ((rd_T113 (rd_L6 x5 x25) x7).f0) ((rd_T113 (rd_L6 x5 x25) x7).f1)).bind fun bt112 => ((macwilliams_plus.f k ((rd_T113 x6 x7).f0) ((rd_T113 x6 x7).f1) bt112.1 bt112.2).bind fun bt116 => (macwilliams_sums.l1 k x1 x5 (x6.set (x7 : Int).toNat (⟨bt116.1, bt116.2⟩ : S113)) x7 x19 x20 x23 x24 (wrap64 (x25 + 1))))) else (none)) else (none)) else (none)) else (none)) else (macwilliams_sums.l1 k x1 x5 x6 x7 x19 x20 x23 x24 (wrap64 (x25 + 1)))) else (none)) else (none)) else (macwilliams_sums.l0 k x1 x5 x6 x19 (wrap64 (x20 + 1)))
end
def macwilliams_sums.f (k : Nat) (a0 : Int) (l1 : List (S113)) : Option ((List (S113))) := (macwilliams_table.f k a0 (wrap64 ((l1.length : Int) - 1))).bind fun t101 => (if 0 ≤ (l1.length : Int) then (if ((l1.length : Int) : Int).toNat ≤ 8796093022208 then ((some (List.replicate ((l1.length : Int) : Int).toNat z113 : List (S113))).bind fun y104 => (macwilliams_sums.l0 k l1 t101 y104 (y104.length : Int) 0)) else (none)) else (none))
/-! ### macwilliams_shape -/
def macwilliams_shape.f (a0 : Int) : Option (Int) := if a0 < 1 then (some 3) else (if a0 > 65 then (some 3) else (some 0))
/-! ### macwilliams_wrong -/
def macwilliams_wrong.f (a0 : Int) (a1 : Int) : Option (Int) := if a0 < 2 then (some 6) else (if a0 > 256 then (some 6) else ((macwilliams_shape.f a1).bind fun t101 => (some t101)))
/-! ### nat_long -/
def nat_long.f (_ : List Int) (_ : List Int) : Option (List Int × List Int) := none
/-! ### nat_DivMod -/
def nat_DivMod.f (k : Nat) (l0 : List Int) (l1 : List Int) : Option (List Int × List Int × Int) := (nat_short.f k l0).bind fun t101 => ((nat_short.f k l1).bind fun t104 => (if (t104.length : Int) = 0 then (some (([] : List Int), ([] : List Int), 7)) else ((nat_Cmp.f k t101 t104).bind fun t107 => (if t107 < 0 then ((nat_Trim.f k t101).bind fun t108 => (some (([] : List Int), t108, 0))) else (if (t104.length : Int) = 1 then (if 0 < (t104.length : Int) then ((nat_digit.f k t101 (rd t104 0)).bind fun bt112 => ((nat_Of.f k (IntKind.u64.wrap (bt112.2))).bind fun t116 => (some (bt112.1, t116, 0)))) else (none)) else ((nat_long.f t101 t104).bind fun bt119 => ((nat_Trim.f k bt119.1).bind fun t125 => ((nat_Trim.f k bt119.2).bind fun t128 => (some (t125, t128, 0))))))))))
/-! ### macwilliams_Dual -/
mutual
def macwilliams_Dual.l0 : Nat → Int → List Int → List (S113) → List (List Int) → Int → Int → Option ((List (List Int)) × Int)
  | 0, _, _, _, _, _, _ => none
  | k + 1, x0, x7, x8, x29, x30, x31 => if x31 < x30 then (if 0 ≤ x31 then (if x31 < (x29.length : Int) then ((nat_Trim.f k (rd_L3 x29 x31)).bind fun t106 => (if x8.length < 4398046511104 then (macwilliams_Dual.l0 k x0 x7 (x8 ++ [(⟨false, t106⟩ : S113)]) x29 x30 (wrap64 (x31 + 1))) else (none))) else (none)) else (none)) else ((macwilliams_sums.f k x0 x8).bind fun t112 => (macwilliams_Dual.l1 k x7 ([] : List (List Int)) t112 (t112.length : Int) 0))
def macwilliams_Dual.l1 : Nat → List Int → List (List Int) → List (S113) → Int → Int → Option ((List (List Int)) × Int)
  | 0, _, _, _, _, _ => none
  | k + 1, x7, x11, x44, x45, x46 => if x46 < x45 then (if 0 ≤ x46 then (if x46 < (x44.length : Int) then ((nat_DivMod.f k ((rd_T113 x44 x46).f1) x7).bind fun bt117 => (if (bt117.2.1.length : Int) > 0 then (some (([] : List (List Int)), 5)) else (if (rd_T113 x44 x46).f0 = true then (if (((rd_T113 x44 x46).f1).length : Int) > 0 then (some (([] : List (List Int)), 5)) else (if x11.length < 5864062014805 then (macwilliams_Dual.l1 k x7 (x11 ++ [bt117.1]) x44 x45 (wrap64 (x46 + 1))) else (none))) else (if x11.length < 5864062014805 then (macwilliams_Dual.l1 k x7 (x11 ++ [bt117.1]) x44 x45 (wrap64 (x46 + 1))) else (none))))) else (none)) else (none)) else (some (x11, 0))
end
def macwilliams_Dual.f (k : Nat) (a0 : Int) (l1 : List (List Int)) : Option ((List (List Int)) × Int) := (macwilliams_wrong.f a0 (l1.length : Int)).bind fun t101 => (if t101 = 0 then ((nat_Add.f k l1).bind fun t102 => (if (t102.length : Int) = 0 then (some (([] : List (List Int)), 7)) else (macwilliams_Dual.l0 k a0 t102 ([] : List (S113)) l1 (l1.length : Int) 0))) else (some (([] : List (List Int)), t101)))
/-! ### macwilliams_some -/
def macwilliams_some.l0 : Nat → List (List Int) → Int → Int → Int → Option (Int)
  | 0, _, _, _, _ => none
  | k + 1, x0, x1, x5, x6 => if x6 ≤ x1 then (if 0 ≤ x6 then (if x6 < (x0.length : Int) then ((nat_Bits.f k (rd_L3 x0 x6)).bind fun t102 => (if t102 > 0 then (macwilliams_some.l0 k x0 x1 (wrap64 (x5 + 1)) (wrap64 (x6 + 1))) else (macwilliams_some.l0 k x0 x1 x5 (wrap64 (x6 + 1))))) else (none)) else (none)) else (some x5)
def macwilliams_some.f (k : Nat) (l0 : List (List Int)) (a1 : Int) : Option (Int) := macwilliams_some.l0 k l0 a1 0 1
/-! ### macwilliams_External -/
def macwilliams_External.f (k : Nat) (a0 : Int) (l1 : List (List Int)) : Option (Int × Int) := (macwilliams_Dual.f k a0 l1).bind fun bt101 => (if bt101.2 = 0 then ((macwilliams_some.f k bt101.1 (wrap64 ((bt101.1.length : Int) - 1))).bind fun t105 => (some (t105, 0))) else (some (0, bt101.2)))
/-! ### codewrightlaw24_MacwilliamsDelsarte -/
def codewrightlaw24_MacwilliamsDelsarte.l0 : Nat → Int → List (List Int) → List (List Int) → Int → Int → List Int → Int → Int → Option (Bool)
  | 0, _, _, _, _, _, _, _, _ => none
  | k + 1, x9, x10, x11, x14, x15, x16, x17, x18 => if x18 < (x10.length : Int) then (if 0 ≤ x18 then ((codewrightref24_Distance.f k (rd_L1 x10 x18) x16).bind fun t123 => (codewrightlaw24_MacwilliamsDelsarte.l0 k x9 x10 x11 x14 x15 x16 (mn x17 t123) (wrap64 (x18 + 1)))) else (none)) else (if x15 = 0 then ((codewrightref24_Weights.f k x9 x11).bind fun t124 => ((codewrightref24_External.f k t124).bind fun t127 => (if x14 = t127 then (some (decide (x17 ≤ x14))) else (some false)))) else (some false))
def codewrightlaw24_MacwilliamsDelsarte.f (k : Nat) (a0_0 : Int) (a0_1 : Int) (l0_2 : List Int) (a1 : Int) (l2 : List (List Int)) (l3 : List Int) : Option (Bool) := (codewrightlaw24_codes.f k a0_0 a0_1 l0_2 a1 l2).bind fun bt102 => (if bt102.2.2.2.2 = true then ((codewrightref04_Order.f k a0_0 a0_1 l0_2).bind fun t113 => ((codewrightref24_Weights.f k bt102.1 bt102.2.1).bind fun t114 => ((macwilliams_External.f k t113 t114).bind fun bt117 => ((codewrightref24_Row.f k a0_0 a0_1 l0_2 bt102.1 l3).bind fun t119 => (codewrightlaw24_MacwilliamsDelsarte.l0 k bt102.1 bt102.2.1 bt102.2.2.1 bt117.1 bt117.2 t119 bt102.1 0))))) else (some true))
/-! ### codewrightlaw24_long -/
def codewrightlaw24_long.l0 : Nat → Int → List (List Int) → Int → Option (Bool)
  | 0, _, _, _ => none
  | k + 1, x0, x1, x5 => if x5 < (x1.length : Int) then (if 0 ≤ x5 then (if ((rd_L3 x1 x5).length : Int) > x0 then (some true) else (codewrightlaw24_long.l0 k x0 x1 (wrap64 (x5 + 1)))) else (none)) else (some false)
def codewrightlaw24_long.f (k : Nat) (a0 : Int) (l1 : List (List Int)) : Option (Bool) := codewrightlaw24_long.l0 k a0 l1 0
/-! ### codewrightref01_limb -/
def codewrightref01_limb.f (l0 : List Int) (a1 : Int) : Option (Int) := if a1 < (l0.length : Int) then (if 0 ≤ a1 then (some (IntKind.u64.wrap (rd l0 a1))) else (none)) else (some 0)
/-! ### codewrightref01_Add -/
mutual
def codewrightref01_Add.l0 : Nat → List Int → List Int → List Int → Int → Int → Option (List Int)
  | 0, _, _, _, _, _ => none
  | k + 1, x0, x1, x5, x6, x7 => if x7 < (x0.length : Int) then (codewrightref01_Add.j1 k x0 x1 x5 x6 x7 true) else (if x7 < (x1.length : Int) then (codewrightref01_Add.j1 k x0 x1 x5 x6 x7 true) else (codewrightref01_Add.j1 k x0 x1 x5 x6 x7 (decide (x6 > 0))))
def codewrightref01_Add.j1 : Nat → List Int → List Int → List Int → Int → Int → Bool → Option (List Int)
  | 0, _, _, _, _, _, _ => none
  | k + 1, x0, x1, x5, x6, x7, x22 => if x22 = true then ((codewrightref01_limb.f x0 x7).bind fun t101 => ((codewrightref01_limb.f x1 x7).bind fun t102 => (if x5.length < 35184372088832 then (codewrightref01_Add.l0 k x0 x1 (x5 ++ [(Int.tmod (IntKind.u64.wrap ((IntKind.u64.wrap (t101 + t102)) + x6)) 4294967296) % 4294967296]) (IntKind.u64.wrap (Int.tdiv (IntKind.u64.wrap ((IntKind.u64.wrap (t101 + t102)) + x6)) 4294967296)) (wrap64 (x7 + 1))) else (none)))) else ((codewrightref01_Trim.f k x5).bind fun t106 => (some t106))
end
def codewrightref01_Add.f (k : Nat) (l0 : List Int) (l1 : List Int) : Option (List Int) := codewrightref01_Add.l0 k l0 l1 ([] : List Int) 0 0
/-! ### codewrightref01_Bits -/
def codewrightref01_Bits.l0 : Nat → Int → Int → Option (Int)
  | 0, _, _ => none
  | k + 1, x3, x4 => if x4 > 0 then (codewrightref01_Bits.l0 k (wrap64 (x3 + 1)) ((Int.tdiv x4 2) % 4294967296)) else (some x3)
def codewrightref01_Bits.f (k : Nat) (l0 : List Int) : Option (Int) := (codewrightref01_Trim.f k l0).bind fun t101 => (if (t101.length : Int) = 0 then (some 0) else (if 0 ≤ (wrap64 ((t101.length : Int) - 1)) then (if (wrap64 ((t101.length : Int) - 1)) < (t101.length : Int) then (codewrightref01_Bits.l0 k (wrap64 (32 * (wrap64 ((t101.length : Int) - 1)))) (rd t101 (wrap64 ((t101.length : Int) - 1)))) else (none)) else (none)))
/-! ### codewrightref01_Cmp -/
def codewrightref01_Cmp.l0 : Nat → List Int → List Int → Int → Option (Int)
  | 0, _, _, _ => none
  | k + 1, x0, x1, x5 => if x5 ≥ 0 then ((codewrightref01_limb.f x0 x5).bind fun t101 => ((codewrightref01_limb.f x1 x5).bind fun t102 => (if t101 < t102 then (some (-1)) else ((codewrightref01_limb.f x0 x5).bind fun t103 => ((codewrightref01_limb.f x1 x5).bind fun t104 => (if t103 > t104 then (some 1) else (codewrightref01_Cmp.l0 k x0 x1 (wrap64 (x5 - 1))))))))) else (some 0)
def codewrightref01_Cmp.f (k : Nat) (l0 : List Int) (l1 : List Int) : Option (Int) := codewrightref01_Cmp.l0 k l0 l1 (wrap64 ((mx (l0.length : Int) (l1.length : Int)) - 1))
/-! ### codewrightref01_Sub -/
def codewrightref01_Sub.l0 : Nat → List Int → List Int → List Int → Int → Int → Option (List Int)
  | 0, _, _, _, _, _ => none
  | k + 1, x0, x1, x5, x6, x7 => if x7 < (x0.length : Int) then ((codewrightref01_limb.f x0 x7).bind fun t101 => ((codewrightref01_limb.f x1 x7).bind fun t102 => (if x5.length < 35184372088832 then (codewrightref01_Sub.l0 k x0 x1 (x5 ++ [(Int.tmod (IntKind.u64.wrap ((IntKind.u64.wrap ((IntKind.u64.wrap (t101 + 4294967296)) - t102)) - x6)) 4294967296) % 4294967296]) (IntKind.u64.wrap (1 - (IntKind.u64.wrap (Int.tdiv (IntKind.u64.wrap ((IntKind.u64.wrap ((IntKind.u64.wrap (t101 + 4294967296)) - t102)) - x6)) 4294967296)))) (wrap64 (x7 + 1))) else (none)))) else ((codewrightref01_Trim.f k x5).bind fun t106 => (some t106))
def codewrightref01_Sub.f (k : Nat) (l0 : List Int) (l1 : List Int) : Option (List Int) := codewrightref01_Sub.l0 k l0 l1 ([] : List Int) 0 0
/-! ### codewrightref01_shift -/
def codewrightref01_shift.l0 : Nat → List Int → Int → List Int → Int → Int → Option (List Int)
  | 0, _, _, _, _, _ => none
  | k + 1, x0, x1, x5, x6, x7 => if x7 < (x0.length : Int) then (if 0 ≤ x7 then (if 0 ≤ (Int.tmod x1 32) then (if x5.length < 35184372088832 then (codewrightref01_shift.l0 k x0 x1 (x5 ++ [(Int.tmod (IntKind.u64.wrap ((shl .u64 (IntKind.u64.wrap (rd x0 x7)) (Int.tmod x1 32)) + x6)) 4294967296) % 4294967296]) (IntKind.u64.wrap (Int.tdiv (IntKind.u64.wrap ((shl .u64 (IntKind.u64.wrap (rd x0 x7)) (Int.tmod x1 32)) + x6)) 4294967296)) (wrap64 (x7 + 1))) else (none)) else (none)) else (none)) else (if x5.length < 35184372088832 then ((codewrightref01_Trim.f k (x5 ++ [(x6) % 4294967296])).bind fun t111 => (some t111)) else (none))
def codewrightref01_shift.f (k : Nat) (l0 : List Int) (a1 : Int) : Option (List Int) := if 0 ≤ (wrap64 (Int.tdiv a1 32)) then (if (wrap64 (Int.tdiv a1 32) : Int).toNat ≤ 70368744177664 then (codewrightref01_shift.l0 k l0 a1 (List.replicate (wrap64 (Int.tdiv a1 32) : Int).toNat 0) 0 0) else (none)) else (none)
/-! ### codewrightref01_DivMod -/
def codewrightref01_DivMod.l0 : Nat → List Int → List Int → List Int → Int → Option (List Int × List Int)
  | 0, _, _, _, _ => none
  | k + 1, x1, x4, x5, x7 => if x7 ≥ 0 then ((codewrightref01_shift.f k x1 x7).bind fun t109 => ((codewrightref01_Cmp.f k x5 t109).bind fun t112 => (if t112 ≥ 0 then ((codewrightref01_Sub.f k x5 t109).bind fun t113 => ((codewrightref01_shift.f k (([1] : List Int)) x7).bind fun t119 => ((codewrightref01_Add.f k x4 t119).bind fun t122 => (codewrightref01_DivMod.l0 k x1 t122 t113 (wrap64 (x7 - 1)))))) else (codewrightref01_DivMod.l0 k x1 x4 x5 (wrap64 (x7 - 1)))))) else ((codewrightref01_Trim.f k x4).bind fun t106 => (some (t106, x5)))
def codewrightref01_DivMod.f (k : Nat) (l0 : List Int) (l1 : List Int) : Option (List Int × List Int) := (codewrightref01_Trim.f k l0).bind fun t101 => ((codewrightref01_Bits.f k l0).bind fun t104 => ((codewrightref01_Bits.f k l1).bind fun t105 => (codewrightref01_DivMod.l0 k l1 ([] : List Int) t101 (wrap64 (t104 - t105)))))
/-! ### codewrightref01_Gcd -/
def codewrightref01_Gcd.l0 : Nat → List Int → List Int → Option (List Int)
  | 0, _, _ => none
  | k + 1, x0, x1 => (codewrightref01_Zero.f k x1).bind fun t101 => (if t101 = true then ((codewrightref01_Trim.f k x0).bind fun t102 => (some t102)) else ((codewrightref01_DivMod.f k x0 x1).bind fun bt105 => (codewrightref01_Gcd.l0 k x1 bt105.2)))
def codewrightref01_Gcd.f (k : Nat) (l0 : List Int) (l1 : List Int) : Option (List Int) := codewrightref01_Gcd.l0 k l0 l1
/-! ### codewrightref02_Make -/
def codewrightref02_Make.j0 : Nat → Bool → List Int → List Int → Bool → Option (Bool × List Int × List Int)
  | 0, _, _, _, _ => none
  | k + 1, x0, x1, x2, x17 => if x17 = true then (some (false, (([] : List Int)), (([1] : List Int)))) else ((codewrightref01_Gcd.f k x1 x2).bind fun t110 => ((codewrightref01_DivMod.f k x1 t110).bind fun bt113 => ((codewrightref01_DivMod.f k x2 t110).bind fun bt119 => (some (x0, bt113.1, bt119.1)))))
def codewrightref02_Make.f (k : Nat) (a0 : Bool) (l1 : List Int) (l2 : List Int) : Option (Bool × List Int × List Int) := (codewrightref01_Zero.f k l1).bind fun t102 => (if t102 = true then (codewrightref02_Make.j0 k a0 l1 l2 true) else ((codewrightref01_Zero.f k l2).bind fun t103 => (codewrightref02_Make.j0 k a0 l1 l2 t103)))
/-! ### codewrightref01_Same -/
def codewrightref01_Same.l0 : Nat → List Int → List Int → Int → Option (Bool)
  | 0, _, _, _ => none
  | k + 1, x0, x1, x5 => if x5 < (x0.length : Int) then (if 0 ≤ x5 then (if x5 < (x1.length : Int) then (if (rd x0 x5) = (rd x1 x5) then (codewrightref01_Same.l0 k x0 x1 (wrap64 (x5 + 1))) else (some false)) else (none)) else (none)) else (some true)
def codewrightref01_Same.f (k : Nat) (l0 : List Int) (l1 : List Int) : Option (Bool) := if (l0.length : Int) = (l1.length : Int) then (codewrightref01_Same.l0 k l0 l1 0) else (some false)
/-! ### codewrightref02_Trim -/
def codewrightref02_Trim.f (k : Nat) (a0_0 : Bool) (l0_1 : List Int) (l0_2 : List Int) : Option (Bool × List Int × List Int) := (codewrightref02_Make.f k a0_0 l0_1 l0_2).bind fun bt103 => (some (bt103.1, bt103.2.1, bt103.2.2))
/-! ### codewrightref02_Whole -/
def codewrightref02_Whole.f (k : Nat) (a0_0 : Bool) (l0_1 : List Int) (l0_2 : List Int) : Option (List Int × Bool) := (codewrightref02_Trim.f k a0_0 l0_1 l0_2).bind fun bt102 => (if bt102.1 = true then (some (([] : List Int), false)) else ((codewrightref01_Same.f k bt102.2.2 (([1] : List Int))).bind fun t112 => (if t112 = true then (some (bt102.2.1, true)) else (some (([] : List Int), false)))))
/-! ### codewrightref24_Order -/
def codewrightref24_Order.f (a0 : Int) : Option (Int) := if a0 < 2 then (some 6) else (if a0 > 256 then (some 6) else (some 0))
/-! ### codewrightref24_Shape -/
def codewrightref24_Shape.f (a0 : Int) : Option (Int) := if a0 < 1 then (some 3) else (if a0 > 65 then (some 3) else (some 0))
/-! ### codewrightref24_Total -/
def codewrightref24_Total.l0 : Nat → List (List Int) → List Int → Int → Option (List Int)
  | 0, _, _, _ => none
  | k + 1, x0, x3, x4 => if x4 < (x0.length : Int) then (if 0 ≤ x4 then ((codewrightref01_Add.f k x3 (rd_L3 x0 x4)).bind fun t105 => (codewrightref24_Total.l0 k x0 t105 (wrap64 (x4 + 1)))) else (none)) else (some x3)
def codewrightref24_Total.f (k : Nat) (l0 : List (List Int)) : Option (List Int) := codewrightref24_Total.l0 k l0 (([] : List Int)) 0
/-! ### codewrightref01_Mul -/
mutual
def codewrightref01_Mul.l0 : Nat → List Int → List Int → List Int → Int → Option (List Int)
  | 0, _, _, _, _ => none
  | k + 1, x0, x1, x5, x6 => if x6 < (x0.length : Int) then (codewrightref01_Mul.l1 k x0 x1 x5 x6 0 0) else ((codewrightref01_Trim.f k x5).bind fun t104 => (some t104))
def codewrightref01_Mul.l1 : Nat → List Int → List Int → List Int → Int → Int → Int → Option (List Int)
  | 0, _, _, _, _, _, _ => none
  | k + 1, x0, x1, x5, x6, x7, x8 => if x8 < (x1.length : Int) then (if 0 ≤ x6 then (if x6 < (x0.length : Int) then (if 0 ≤ x8 then (if 0 ≤ (wrap64 (x6 + x8)) then (if (wrap64 (x6 + x8)) < (x5.length : Int) then (codewrightref01_Mul.l1 k x0 x1 (x5.set ((wrap64 (x6 + x8)) : Int).toNat ((Int.tmod (IntKind.u64.wrap ((IntKind.u64.wrap ((IntKind.u64.wrap ((IntKind.u64.wrap (rd x0 x6)) * (IntKind.u64.wrap (rd x1 x8)))) + (IntKind.u64.wrap (rd x5 (wrap64 (x6 + x8)))))) + x7)) 4294967296) % 4294967296)) x6 (IntKind.u64.wrap (Int.tdiv (IntKind.u64.wrap ((IntKind.u64.wrap ((IntKind.u64.wrap ((IntKind.u64.wrap (rd x0 x6)) * (IntKind.u64.wrap (rd x1 x8)))) + (IntKind.u64.wrap (rd x5 (wrap64 (x6 + x8)))))) + x7)) 4294967296)) (wrap64 (x8 + 1))) else (none)) else (none)) else (none)) else (none)) else (none)) else (if 0 ≤ (wrap64 (x6 + (x1.length : Int))) then (if (wrap64 (x6 + (x1.length : Int))) < (x5.length : Int) then (codewrightref01_Mul.l0 k x0 x1 (x5.set ((wrap64 (x6 + (x1.length : Int))) : Int).toNat ((x7) % 4294967296)) (wrap64 (x6 + 1))) else (none)) else (none))
end
def codewrightref01_Mul.f (k : Nat) (l0 : List Int) (l1 : List Int) : Option (List Int) := if 0 ≤ (wrap64 ((l0.length : Int) + (l1.length : Int))) then (if (wrap64 ((l0.length : Int) + (l1.length : Int)) : Int).toNat ≤ 70368744177664 then (codewrightref01_Mul.l0 k l0 l1 (List.replicate (wrap64 ((l0.length : Int) + (l1.length : Int)) : Int).toNat 0) 0) else (none)) else (none)
/-! ### codewrightref02_Add -/
def codewrightref02_Add.f (k : Nat) (a0_0 : Bool) (l0_1 : List Int) (l0_2 : List Int) (a1_0 : Bool) (l1_1 : List Int) (l1_2 : List Int) : Option (Bool × List Int × List Int) := (codewrightref02_Trim.f k a0_0 l0_1 l0_2).bind fun bt104 => ((codewrightref02_Trim.f k a1_0 l1_1 l1_2).bind fun bt111 => ((codewrightref01_Mul.f k bt104.2.1 bt111.2.2).bind fun t118 => ((codewrightref01_Mul.f k bt111.2.1 bt104.2.2).bind fun t121 => ((codewrightref01_Mul.f k bt104.2.2 bt111.2.2).bind fun t124 => (if (bt104.1 == bt111.1) = true then ((codewrightref01_Add.f k t118 t121).bind fun t127 => ((codewrightref02_Make.f k bt104.1 t127 t124).bind fun bt130 => (some (bt130.1, bt130.2.1, bt130.2.2)))) else ((codewrightref01_Cmp.f k t118 t121).bind fun t137 => (if t137 ≥ 0 then ((codewrightref01_Sub.f k t118 t121).bind fun t138 => ((codewrightref02_Make.f k bt104.1 t138 t124).bind fun bt141 => (some (bt141.1, bt141.2.1, bt141.2.2)))) else ((codewrightref01_Sub.f k t121 t118).bind fun t148 => ((codewrightref02_Make.f k bt111.1 t148 t124).bind fun bt151 => (some (bt151.1, bt151.2.1, bt151.2.2)))))))))))
/-! ### codewrightref02_abs -/
def codewrightref02_abs.f (k : Nat) (a0 : Int) : Option (List Int) := if a0 < 0 then ((codewrightref01_Of.f k (IntKind.u64.wrap (wrap64 (-(wrap64 (a0 + 1)))))).bind fun t101 => ((codewrightref01_Add.f k t101 (([1] : List Int))).bind fun t107 => (some t107))) else ((codewrightref01_Of.f k (IntKind.u64.wrap (a0))).bind fun t110 => (some t110))
/-! ### codewrightref02_Of -/
def codewrightref02_Of.f (k : Nat) (a0 : Int) (a1 : Int) : Option (Bool × List Int × List Int) := (codewrightref02_abs.f k a0).bind fun t102 => ((codewrightref02_abs.f k a1).bind fun t105 => ((codewrightref02_Make.f k ((decide (a0 < 0)) != (decide (a1 < 0))) t102 t105).bind fun bt108 => (some (bt108.1, bt108.2.1, bt108.2.2))))
/-! ### codewrightref02_Int -/
def codewrightref02_Int.f (k : Nat) (a0 : Int) : Option (Bool × List Int × List Int) := (codewrightref02_Of.f k a0 1).bind fun bt102 => (some (bt102.1, bt102.2.1, bt102.2.2))
/-! ### codewrightref02_Mul -/
def codewrightref02_Mul.f (k : Nat) (a0_0 : Bool) (l0_1 : List Int) (l0_2 : List Int) (a1_0 : Bool) (l1_1 : List Int) (l1_2 : List Int) : Option (Bool × List Int × List Int) := (codewrightref02_Trim.f k a0_0 l0_1 l0_2).bind fun bt104 => ((codewrightref02_Trim.f k a1_0 l1_1 l1_2).bind fun bt111 => ((codewrightref01_Mul.f k bt104.2.1 bt111.2.1).bind fun t118 => ((codewrightref01_Mul.f k bt104.2.2 bt111.2.2).bind fun t121 => ((codewrightref02_Make.f k (bt104.1 != bt111.1) t118 t121).bind fun bt124 => (some (bt124.1, bt124.2.1, bt124.2.2))))))
/-! ### codewrightref01_small -/
def codewrightref01_small.l0 : Nat → List Int → Int → List Int → Int → Int → Option (List Int)
  | 0, _, _, _, _, _ => none
  | k + 1, x0, x2, x7, x8, x9 => if x9 ≥ 0 then (if 0 ≤ x9 then (if x9 < (x0.length : Int) then (if (IntKind.u64.wrap (x2)) = 0 then (none) else (if x9 < (x7.length : Int) then (codewrightref01_small.l0 k x0 x2 (x7.set (x9 : Int).toNat ((IntKind.u64.wrap (Int.tdiv (IntKind.u64.wrap ((IntKind.u64.wrap (x8 * 4294967296)) + (IntKind.u64.wrap (rd x0 x9)))) (IntKind.u64.wrap (x2)))) % 4294967296)) (Int.tmod (IntKind.u64.wrap ((IntKind.u64.wrap (x8 * 4294967296)) + (IntKind.u64.wrap (rd x0 x9)))) (IntKind.u64.wrap (x2))) (wrap64 (x9 - 1))) else (none))) else (none)) else (none)) else ((codewrightref01_Trim.f k x7).bind fun t112 => (some t112))
def codewrightref01_small.f (k : Nat) (l0 : List Int) (a1 : Int) (a2 : Int) : Option (List Int) := (codewrightref01_Of.f k (IntKind.u64.wrap (a1))).bind fun t101 => ((codewrightref01_Mul.f k l0 t101).bind fun t104 => (if 0 ≤ (t104.length : Int) then (if ((t104.length : Int) : Int).toNat ≤ 70368744177664 then (codewrightref01_small.l0 k t104 a2 (List.replicate ((t104.length : Int) : Int).toNat 0) 0 (wrap64 ((t104.length : Int) - 1))) else (none)) else (none)))
/-! ### codewrightref01_Choose -/
mutual
def codewrightref01_Choose.j0 : Nat → Int → Int → Bool → Option (List Int)
  | 0, _, _, _ => none
  | k + 1, x0, x1, x13 => if x13 = true then (some (([] : List Int))) else (codewrightref01_Choose.l0 k x0 x1 (([1] : List Int)) 0)
def codewrightref01_Choose.l0 : Nat → Int → Int → List Int → Int → Option (List Int)
  | 0, _, _, _, _ => none
  | k + 1, x0, x1, x5, x6 => if x6 < x1 then ((codewrightref01_small.f k x5 (wrap64 (x0 - x6)) (wrap64 (x6 + 1))).bind fun t107 => (codewrightref01_Choose.l0 k x0 x1 t107 (wrap64 (x6 + 1)))) else (some x5)
end
def codewrightref01_Choose.f (k : Nat) (a0 : Int) (a1 : Int) : Option (List Int) := if a1 < 0 then (codewrightref01_Choose.j0 k a0 a1 true) else (codewrightref01_Choose.j0 k a0 a1 (decide (a1 > a0)))
/-! ### codewrightref01_Pow -/
def codewrightref01_Pow.l0 : Nat → List Int → Int → List Int → Int → Option (List Int × Int)
  | 0, _, _, _, _ => none
  | k + 1, x0, x1, x6, x7 => if x7 > 0 then ((codewrightref01_Mul.f k x6 x6).bind fun t111 => (if x7 = 0 then (none) else (if (Int.tmod (wrap64 (Int.tdiv x1 x7)) 2) = 1 then ((codewrightref01_Mul.f k t111 x0).bind fun t114 => (if (t114.length : Int) > 4096 then (some (([] : List Int), 8)) else (codewrightref01_Pow.l0 k x0 x1 t114 (wrap64 (Int.tdiv x7 2))))) else (if (t111.length : Int) > 4096 then (some (([] : List Int), 8)) else (codewrightref01_Pow.l0 k x0 x1 t111 (wrap64 (Int.tdiv x7 2))))))) else (some (x6, 0))
def codewrightref01_Pow.f (k : Nat) (l0 : List Int) (a1 : Int) : Option (List Int × Int) := if a1 < 0 then (some (([] : List Int), 6)) else ((codewrightref01_Trim.f k l0).bind fun t101 => (if a1 = 0 then (some ((([1] : List Int)), 0)) else ((codewrightref01_Bits.f k t101).bind fun t107 => (if t107 ≤ 1 then (some (t101, 0)) else (if a1 > 131072 then (some (([] : List Int), 8)) else (codewrightref01_Pow.l0 k t101 a1 (([1] : List Int)) 262144))))))
/-! ### codewrightref02_Nat -/
def codewrightref02_Nat.f (k : Nat) (l0 : List Int) : Option (Bool × List Int × List Int) := (codewrightref02_Make.f k false l0 (([1] : List Int))).bind fun bt105 => (some (bt105.1, bt105.2.1, bt105.2.2))
/-! ### codewrightref02_Neg -/
def codewrightref02_Neg.f (k : Nat) (a0_0 : Bool) (l0_1 : List Int) (l0_2 : List Int) : Option (Bool × List Int × List Int) := (codewrightref02_Trim.f k a0_0 l0_1 l0_2).bind fun bt103 => ((codewrightref02_Make.f k (!bt103.1) bt103.2.1 bt103.2.2).bind fun bt110 => (some (bt110.1, bt110.2.1, bt110.2.2)))
/-! ### codewrightref24_Krawtchouk -/
def codewrightref24_Krawtchouk.l0 : Nat → Int → Int → Int → Int → Int → Bool → List Int → List Int → Option (Bool × List Int × List Int)
  | 0, _, _, _, _, _, _, _, _ => none
  | k + 1, x0, x1, x2, x3, x10, x110000, x110001, x110002 => if x10 ≤ x2 then ((codewrightref01_Of.f k (IntKind.u64.wrap (wrap64 (x0 - 1)))).bind fun t110 => ((codewrightref01_Pow.f k t110 (wrap64 (x2 - x10))).bind fun bt113 => ((codewrightref01_Choose.f k x3 x10).bind fun t117 => ((codewrightref01_Choose.f k (wrap64 (x1 - x3)) (wrap64 (x2 - x10))).bind fun t120 => ((codewrightref01_Mul.f k t117 t120).bind fun t123 => ((codewrightref01_Mul.f k bt113.1 t123).bind fun t126 => ((codewrightref02_Nat.f k t126).bind fun bt129 => (if (Int.tmod x10 2) = 1 then ((codewrightref02_Neg.f k bt129.1 bt129.2.1 bt129.2.2).bind fun bt137 => ((codewrightref02_Add.f k x110000 x110001 x110002 bt137.1 bt137.2.1 bt137.2.2).bind fun bt144 => (codewrightref24_Krawtchouk.l0 k x0 x1 x2 x3 (wrap64 (x10 + 1)) bt144.1 bt144.2.1 bt144.2.2))) else ((codewrightref02_Add.f k x110000 x110001 x110002 bt129.1 bt129.2.1 bt129.2.2).bind fun bt151 => (codewrightref24_Krawtchouk.l0 k x0 x1 x2 x3 (wrap64 (x10 + 1)) bt151.1 bt151.2.1 bt151.2.2)))))))))) else (some (x110000, x110001, x110002))
def codewrightref24_Krawtchouk.f (k : Nat) (a0 : Int) (a1 : Int) (a2 : Int) (a3 : Int) : Option (Bool × List Int × List Int) := (codewrightref02_Int.f k 0).bind fun bt102 => (codewrightref24_Krawtchouk.l0 k a0 a1 a2 a3 0 bt102.1 bt102.2.1 bt102.2.2)
/-! ### codewrightref24_Transform -/
mutual
def codewrightref24_Transform.l0 : Nat → Int → List (S60) → List (S60) → Int → Option ((List (S60)))
  | 0, _, _, _, _ => none
  | k + 1, x0, x1, x5, x6 => if x6 < (x1.length : Int) then ((codewrightref02_Int.f k 0).bind fun bt101 => (codewrightref24_Transform.l1 k x0 x1 x5 x6 0 bt101.1 bt101.2.1 bt101.2.2)) else (some x5)
def codewrightref24_Transform.l1 : Nat → Int → List (S60) → List (S60) → Int → Int → Bool → List Int → List Int → Option ((List (S60)))
  | 0, _, _, _, _, _, _, _, _ => none
  | k + 1, x0, x1, x5, x6, x8, x109000, x109001, x109002 => if x8 < (x1.length : Int) then (if 0 ≤ x8 then ((codewrightref24_Krawtchouk.f k x0 (wrap64 ((x1.length : Int) - 1)) x6 x8).bind fun bt110 => ((codewrightref02_Mul.f k ((rd_T60 x1 x8).f0) ((rd_T60 x1 x8).f1) ((rd_T60 x1 x8).f2) bt110.1 bt110.2.1 bt110.2.2).bind fun bt117 => ((codewrightref02_Add.f k x109000 x109001 x109002 bt117.1 bt117.2.1 bt117.2.2).bind fun bt124 => (codewrightref24_Transform.l1 k x0 x1 x5 x6 (wrap64 (x8 + 1)) bt124.1 bt124.2.1 bt124.2.2)))) else (none)) else (if x5.length < 2513169434916 then (codewrightref24_Transform.l0 k x0 x1 (x5 ++ [(⟨x109000, x109001, x109002⟩ : S60)]) (wrap64 (x6 + 1))) else (none))
end
def codewrightref24_Transform.f (k : Nat) (a0 : Int) (l1 : List (S60)) : Option ((List (S60))) := codewrightref24_Transform.l0 k a0 l1 ([] : List (S60)) 0
/-! ### codewrightref24_Dual -/
mutual
def codewrightref24_Dual.l0 : Nat → Int → List (List Int) → List Int → List (S60) → Int → Option ((List (List Int)) × Int)
  | 0, _, _, _, _, _ => none
  | k + 1, x0, x1, x6, x7, x8 => if x8 < (x1.length : Int) then (if 0 ≤ x8 then ((codewrightref02_Make.f k false (rd_L3 x1 x8) x6).bind fun bt108 => (if x7.length < 2513169434916 then (codewrightref24_Dual.l0 k x0 x1 x6 (x7 ++ [(⟨bt108.1, bt108.2.1, bt108.2.2⟩ : S60)]) (wrap64 (x8 + 1))) else (none))) else (none)) else ((codewrightref24_Transform.f k x0 x7).bind fun t118 => (codewrightref24_Dual.l1 k t118 ([] : List (List Int)) 0))
def codewrightref24_Dual.l1 : Nat → List (S60) → List (List Int) → Int → Option ((List (List Int)) × Int)
  | 0, _, _, _ => none
  | k + 1, x9, x10, x11 => if x11 < (x9.length : Int) then (if 0 ≤ x11 then ((codewrightref02_Whole.f k ((rd_T60 x9 x11).f0) ((rd_T60 x9 x11).f1) ((rd_T60 x9 x11).f2)).bind fun bt122 => (if bt122.2 = true then (if x10.length < 5864062014805 then (codewrightref24_Dual.l1 k x9 (x10 ++ [bt122.1]) (wrap64 (x11 + 1))) else (none)) else (some (([] : List (List Int)), 5)))) else (none)) else (some (x10, 0))
end
def codewrightref24_Dual.f (k : Nat) (a0 : Int) (l1 : List (List Int)) : Option ((List (List Int)) × Int) := (codewrightref24_Order.f a0).bind fun t101 => (if t101 = 0 then ((codewrightref24_Shape.f (l1.length : Int)).bind fun t102 => (if t102 = 0 then ((codewrightref24_Total.f k l1).bind fun t103 => ((codewrightref01_Zero.f k t103).bind fun t106 => (if t106 = true then (some (([] : List (List Int)), 7)) else (codewrightref24_Dual.l0 k a0 l1 t103 ([] : List (S60)) 0)))) else (some (([] : List (List Int)), 3)))) else (some (([] : List (List Int)), 6)))
/-! ### codewrightlaw24_MacwilliamsExternals -/
def codewrightlaw24_MacwilliamsExternals.j0 : Nat → Int → List (List Int) → Bool → Option (Bool)
  | 0, _, _, _ => none
  | k + 1, x0, x1, x18 => if x18 = true then (some true) else ((macwilliams_External.f k x0 x1).bind fun bt102 => ((codewrightref24_Dual.f k x0 x1).bind fun bt104 => (if bt104.2 = 0 then (if bt102.2 = 0 then ((codewrightref24_External.f k bt104.1).bind fun t108 => (some (bt102.1 == t108))) else (some false)) else (if bt102.2 = bt104.2 then (some (bt102.1 == 0)) else (some false)))))
def codewrightlaw24_MacwilliamsExternals.f (k : Nat) (a0 : Int) (l1 : List (List Int)) : Option (Bool) := (codewrightlaw24_long.f k 8 l1).bind fun t101 => (if t101 = true then (some true) else (if (l1.length : Int) > 20 then (codewrightlaw24_MacwilliamsExternals.j0 k a0 l1 (decide ((l1.length : Int) ≤ 65))) else (codewrightlaw24_MacwilliamsExternals.j0 k a0 l1 false)))
/-! ### codewrightref02_Same -/
def codewrightref02_Same.f (k : Nat) (a0_0 : Bool) (l0_1 : List Int) (l0_2 : List Int) (a1_0 : Bool) (l1_1 : List Int) (l1_2 : List Int) : Option (Bool) := if (a0_0 == a1_0) = true then ((codewrightref01_Same.f k l0_1 l1_1).bind fun t103 => (if t103 = true then ((codewrightref01_Same.f k l0_2 l1_2).bind fun t104 => (some t104)) else (some false))) else (some false)
/-! ### codewrightref02_Is -/
def codewrightref02_Is.f (k : Nat) (a0_0 : Bool) (l0_1 : List Int) (l0_2 : List Int) : Option (Bool) := (codewrightref02_Trim.f k a0_0 l0_1 l0_2).bind fun bt102 => ((codewrightref02_Same.f k a0_0 l0_1 l0_2 bt102.1 bt102.2.1 bt102.2.2).bind fun t109 => (some t109))
/-! ### nat_Gcd -/
def nat_Gcd.l0 : Nat → List Int → List Int → Option (List Int)
  | 0, _, _ => none
  | k + 1, x0, x1 => if (x1.length : Int) > 0 then ((nat_DivMod.f k x0 x1).bind fun bt107 => (nat_Gcd.l0 k x1 bt107.2.1)) else ((nat_Trim.f k x0).bind fun t114 => (some t114))
def nat_Gcd.f (k : Nat) (l0 : List Int) (l1 : List Int) : Option (List Int) := (nat_short.f k l0).bind fun t101 => ((nat_short.f k l1).bind fun t104 => (nat_Gcd.l0 k t101 t104))
/-! ### rational_one -/
def rational_one.f  : Option (List Int) := some (([1] : List Int))
/-! ### rational_canonical -/
def rational_canonical.j0 : Nat → Bool → List Int → List Int → Bool → Option (Bool × List Int × List Int)
  | 0, _, _, _, _ => none
  | k + 1, x0, x1, x2, x15 => if x15 = true then ((rational_one.f).bind fun t104 => (some (false, ([] : List Int), t104))) else ((nat_Gcd.f k x1 x2).bind fun t107 => ((nat_DivMod.f k x1 t107).bind fun bt110 => ((nat_DivMod.f k x2 t107).bind fun bt117 => (some (x0, bt110.1, bt117.1)))))
def rational_canonical.f (k : Nat) (a0 : Bool) (l1 : List Int) (l2 : List Int) : Option (Bool × List Int × List Int) := (nat_Bits.f k l1).bind fun t102 => (if t102 = 0 then (rational_canonical.j0 k a0 l1 l2 true) else ((nat_Bits.f k l2).bind fun t103 => (rational_canonical.j0 k a0 l1 l2 (t103 == 0))))
/-! ### rational_Trim -/
def rational_Trim.f (k : Nat) (a0_0 : Bool) (l0_1 : List Int) (l0_2 : List Int) : Option (Bool × List Int × List Int) := (rational_canonical.f k a0_0 l0_1 l0_2).bind fun bt103 => (some (bt103.1, bt103.2.1, bt103.2.2))
/-! ### macwilliams_ratio -/
def macwilliams_ratio.f (k : Nat) (a0_0 : Bool) (l0_1 : List Int) (l1 : List Int) : Option (Bool × List Int × List Int) := (rational_Trim.f k a0_0 l0_1 l1).bind fun bt103 => (some (bt103.1, bt103.2.1, bt103.2.2))
/-! ### macwilliams_Krawtchouk -/
def macwilliams_Krawtchouk.j0 : Nat → Int → Int → Int → Int → Bool → Option (Bool × List Int × List Int × Int)
  | 0, _, _, _, _, _ => none
  | k + 1, x0, x1, x2, x3, x41 => if x41 = true then (some (false, ([] : List Int), ([] : List Int), 6)) else ((macwilliams_table.f k x0 x1).bind fun t102 => (if 0 ≤ x3 then (if x3 < (t102.length : Int) then (if 0 ≤ x2 then (if x2 < ((rd_L6 t102 x3).length : Int) then ((macwilliams_ratio.f k ((rd_T113 (rd_L6 t102 x3) x2).f0) ((rd_T113 (rd_L6 t102 x3) x2).f1) (([1] : List Int))).bind fun bt110 => (some (bt110.1, bt110.2.1, bt110.2.2, 0))) else (none)) else (none)) else (none)) else (none)))
def macwilliams_Krawtchouk.f (k : Nat) (a0 : Int) (a1 : Int) (a2 : Int) (a3 : Int) : Option (Bool × List Int × List Int × Int) := if a0 < 2 then (macwilliams_Krawtchouk.j0 k a0 a1 a2 a3 true) else (if a0 > 256 then (macwilliams_Krawtchouk.j0 k a0 a1 a2 a3 true) else (if a1 < 0 then (macwilliams_Krawtchouk.j0 k a0 a1 a2 a3 true) else (if a1 > 64 then (macwilliams_Krawtchouk.j0 k a0 a1 a2 a3 true) else (if a2 < 0 then (macwilliams_Krawtchouk.j0 k a0 a1 a2 a3 true) else (if a2 > a1 then (macwilliams_Krawtchouk.j0 k a0 a1 a2 a3 true) else (if a3 < 0 then (macwilliams_Krawtchouk.j0 k a0 a1 a2 a3 true) else (macwilliams_Krawtchouk.j0 k a0 a1 a2 a3 (decide (a3 > a1)))))))))
/-! ### codewrightlaw24_k -/
def codewrightlaw24_k.f (k : Nat) (a0 : Int) (a1 : Int) (a2 : Int) (a3 : Int) : Option (Bool × List Int × List Int × Bool) := (macwilliams_Krawtchouk.f k a0 a1 a2 a3).bind fun bt102 => (if bt102.2.2.2 = 0 then ((codewrightref02_Is.f k bt102.1 bt102.2.1 bt102.2.2.1).bind fun t111 => (some (bt102.1, bt102.2.1, bt102.2.2.1, t111))) else (some (bt102.1, bt102.2.1, bt102.2.2.1, false)))
/-! ### codewrightref02_Inv -/
def codewrightref02_Inv.f (k : Nat) (a0_0 : Bool) (l0_1 : List Int) (l0_2 : List Int) : Option (Bool × List Int × List Int) := (codewrightref02_Trim.f k a0_0 l0_1 l0_2).bind fun bt103 => (some (bt103.1, bt103.2.2, bt103.2.1))
/-! ### codewrightref02_Pow -/
mutual
def codewrightref02_Pow.j0 : Nat → Int → Bool → List Int → List Int → Option (Bool × List Int × List Int × Int)
  | 0, _, _, _, _ => none
  | k + 1, x1, x102000, x102001, x102002 => if x1 < 0 then (codewrightref02_Pow.j1 k (wrap64 (-(mx x1 (-4611686018427387904)))) ((Int.tmod x1 2) != 0) x102000 x102001 x102002) else (codewrightref02_Pow.j1 k x1 ((Int.tmod x1 2) != 0) x102000 x102001 x102002)
def codewrightref02_Pow.j1 : Nat → Int → Bool → Bool → List Int → List Int → Option (Bool × List Int × List Int × Int)
  | 0, _, _, _, _, _ => none
  | k + 1, x1, x6, x102000, x102001, x102002 => (codewrightref01_Pow.f k x102001 x1).bind fun bt117 => ((codewrightref01_Pow.f k x102002 x1).bind fun bt121 => (if bt117.2 = 0 then (if bt121.2 = 0 then (if x102000 = true then ((codewrightref02_Make.f k x6 bt117.1 bt121.1).bind fun bt125 => (some (bt125.1, bt125.2.1, bt125.2.2, 0))) else ((codewrightref02_Make.f k false bt117.1 bt121.1).bind fun bt132 => (some (bt132.1, bt132.2.1, bt132.2.2, 0)))) else (some (false, ([] : List Int), ([] : List Int), 8))) else (some (false, ([] : List Int), ([] : List Int), 8))))
end
def codewrightref02_Pow.f (k : Nat) (a0_0 : Bool) (l0_1 : List Int) (l0_2 : List Int) (a1 : Int) : Option (Bool × List Int × List Int × Int) := (codewrightref02_Trim.f k a0_0 l0_1 l0_2).bind fun bt103 => (if a1 < 0 then (if (bt103.2.1.length : Int) = 0 then (some (false, ([] : List Int), ([] : List Int), 7)) else ((codewrightref02_Inv.f k bt103.1 bt103.2.1 bt103.2.2).bind fun bt110 => (codewrightref02_Pow.j0 k a1 bt110.1 bt110.2.1 bt110.2.2))) else (codewrightref02_Pow.j0 k a1 bt103.1 bt103.2.1 bt103.2.2))
/-! ### codewrightlaw24_MacwilliamsGenerating -/
mutual
def codewrightlaw24_MacwilliamsGenerating.j0 : Nat → Int → Int → Int → Int → Bool → Option (Bool)
  | 0, _, _, _, _, _ => none
  | k + 1, x0, x1, x2, x3, x28 => if x28 = true then (some true) else ((codewrightref02_Int.f k 0).bind fun bt101 => ((codewrightref02_Int.f k 1).bind fun bt109 => (codewrightlaw24_MacwilliamsGenerating.l0 k x0 x1 x2 x3 0 bt101.1 bt101.2.1 bt101.2.2 bt109.1 bt109.2.1 bt109.2.2)))
def codewrightlaw24_MacwilliamsGenerating.l0 : Nat → Int → Int → Int → Int → Int → Bool → List Int → List Int → Bool → List Int → List Int → Option (Bool)
  | 0, _, _, _, _, _, _, _, _, _, _, _ => none
  | k + 1, x0, x1, x2, x3, x11, x109000, x109001, x109002, x117000, x117001, x117002 => if x11 ≤ (wrap64 (x1)) then ((codewrightlaw24_k.f k (wrap64 (x0)) (wrap64 (x1)) x11 (wrap64 (x2))).bind fun bt117 => (if bt117.2.2.2 = true then ((codewrightref02_Mul.f k bt117.1 bt117.2.1 bt117.2.2.1 x117000 x117001 x117002).bind fun bt126 => ((codewrightref02_Add.f k x109000 x109001 x109002 bt126.1 bt126.2.1 bt126.2.2).bind fun bt133 => ((codewrightref02_Int.f k (wrap64 (x3))).bind fun bt140 => ((codewrightref02_Mul.f k x117000 x117001 x117002 bt140.1 bt140.2.1 bt140.2.2).bind fun bt147 => (codewrightlaw24_MacwilliamsGenerating.l0 k x0 x1 x2 x3 (wrap64 (x11 + 1)) bt133.1 bt133.2.1 bt133.2.2 bt147.1 bt147.2.1 bt147.2.2))))) else (some false))) else ((codewrightref02_Int.f k (wrap64 (1 + (wrap64 ((wrap64 ((wrap64 (x0)) - 1)) * (wrap64 (x3))))))).bind fun bt154 => ((codewrightref02_Pow.f k bt154.1 bt154.2.1 bt154.2.2 ((x1 - x2) % 256)).bind fun bt161 => ((codewrightref02_Int.f k (wrap64 (1 - (wrap64 (x3))))).bind fun bt170 => ((codewrightref02_Pow.f k bt170.1 bt170.2.1 bt170.2.2 (wrap64 (x2))).bind fun bt177 => ((codewrightref02_Mul.f k bt161.1 bt161.2.1 bt161.2.2.1 bt177.1 bt177.2.1 bt177.2.2.1).bind fun bt186 => ((codewrightref02_Same.f k x109000 x109001 x109002 bt186.1 bt186.2.1 bt186.2.2).bind fun t193 => (some t193)))))))
end
def codewrightlaw24_MacwilliamsGenerating.f (k : Nat) (a0 : Int) (a1 : Int) (a2 : Int) (a3 : Int) : Option (Bool) := if a0 < 2 then (codewrightlaw24_MacwilliamsGenerating.j0 k a0 a1 a2 a3 true) else (if a1 > 32 then (codewrightlaw24_MacwilliamsGenerating.j0 k a0 a1 a2 a3 true) else (codewrightlaw24_MacwilliamsGenerating.j0 k a0 a1 a2 a3 (decide (a2 > a1))))
/-! ### codewrightref24_SameList -/
def codewrightref24_SameList.l0 : Nat → List (List Int) → List (List Int) → Int → Option (Bool)
  | 0, _, _, _ => none
  | k + 1, x0, x1, x5 => if x5 < (x0.length : Int) then (if 0 ≤ x5 then (if x5 < (x1.length : Int) then ((codewrightref01_Same.f k (rd_L3 x0 x5) (rd_L3 x1 x5)).bind fun t103 => (if t103 = true then (codewrightref24_SameList.l0 k x0 x1 (wrap64 (x5 + 1))) else (some false))) else (none)) else (none)) else (some true)
def codewrightref24_SameList.f (k : Nat) (l0 : List (List Int)) (l1 : List (List Int)) : Option (Bool) := if (l0.length : Int) = (l1.length : Int) then (codewrightref24_SameList.l0 k l0 l1 0) else (some false)
/-! ### codewrightlaw24_MacwilliamsIdentity -/
def codewrightlaw24_MacwilliamsIdentity.f (k : Nat) (a0_0 : Int) (a0_1 : Int) (l0_2 : List Int) (a1 : Int) (l2 : List (List Int)) : Option (Bool) := (codewrightlaw24_codes.f k a0_0 a0_1 l0_2 a1 l2).bind fun bt102 => (if bt102.2.2.2.2 = true then ((codewrightref04_Order.f k a0_0 a0_1 l0_2).bind fun t113 => ((codewrightref24_Weights.f k bt102.1 bt102.2.1).bind fun t114 => ((macwilliams_Dual.f k t113 t114).bind fun bt117 => (if bt117.2 = 0 then ((codewrightref24_Weights.f k bt102.1 bt102.2.2.1).bind fun t121 => ((codewrightref24_SameList.f k bt117.1 t121).bind fun t124 => (some t124))) else (some false))))) else (some true))
/-! ### codewrightlaw24_large -/
def codewrightlaw24_large.l0 : Nat → Int → List (S60) → Int → Option (Bool)
  | 0, _, _, _ => none
  | k + 1, x0, x1, x5 => if x5 < (x1.length : Int) then (if 0 ≤ x5 then (if (wrap64 ((((rd_T60 x1 x5).f1).length : Int) + (((rd_T60 x1 x5).f2).length : Int))) > x0 then (some true) else (codewrightlaw24_large.l0 k x0 x1 (wrap64 (x5 + 1)))) else (none)) else (some false)
def codewrightlaw24_large.f (k : Nat) (a0 : Int) (l1 : List (S60)) : Option (Bool) := codewrightlaw24_large.l0 k a0 l1 0
/-! ### codewrightlaw24_pow -/
def codewrightlaw24_pow.f (k : Nat) (a0 : Int) (a1 : Int) : Option (Bool × List Int × List Int) := (codewrightref01_Of.f k (IntKind.u64.wrap (a0))).bind fun t102 => ((codewrightref01_Pow.f k t102 a1).bind fun bt105 => ((codewrightref02_Nat.f k bt105.1).bind fun bt109 => (some (bt109.1, bt109.2.1, bt109.2.2))))
/-! ### macwilliams_Transform -/
mutual
def macwilliams_Transform.l0 : Nat → Int → List Int → List (S60) → List (S60) → Int → Int → Option ((List (S60)) × Int)
  | 0, _, _, _, _, _, _ => none
  | k + 1, x0, x7, x8, x31, x32, x33 => if x33 < x32 then (if 0 ≤ x33 then (if x33 < (x31.length : Int) then ((rational_Trim.f k ((rd_T60 x31 x33).f0) ((rd_T60 x31 x33).f1) ((rd_T60 x31 x33).f2)).bind fun bt107 => (if x8.length < 2513169434916 then ((nat_Gcd.f k bt107.2.2 x7).bind fun t117 => ((nat_DivMod.f k bt107.2.2 t117).bind fun bt120 => ((nat_Mul.f k (([x7, bt120.1] : List (List Int)))).bind fun t130 => (macwilliams_Transform.l0 k x0 t130 (x8 ++ [(⟨bt107.1, bt107.2.1, bt107.2.2⟩ : S60)]) x31 x32 (wrap64 (x33 + 1)))))) else (none))) else (none)) else (none)) else (macwilliams_Transform.l1 k x0 x7 ([] : List (S113)) x8 (x8.length : Int) 0)
def macwilliams_Transform.l1 : Nat → Int → List Int → List (S113) → List (S60) → Int → Int → Option ((List (S60)) × Int)
  | 0, _, _, _, _, _, _ => none
  | k + 1, x0, x7, x14, x59, x60, x61 => if x61 < x60 then (if 0 ≤ x61 then (if x61 < (x59.length : Int) then ((nat_DivMod.f k x7 ((rd_T60 x59 x61).f2)).bind fun bt135 => ((nat_Mul.f k (([(rd_T60 x59 x61).f1, bt135.1] : List (List Int)))).bind fun t145 => (if x14.length < 4398046511104 then (macwilliams_Transform.l1 k x0 x7 (x14 ++ [(⟨(rd_T60 x59 x61).f0, t145⟩ : S113)]) x59 x60 (wrap64 (x61 + 1))) else (none)))) else (none)) else (none)) else ((macwilliams_sums.f k x0 x14).bind fun t151 => (macwilliams_Transform.l2 k x7 ([] : List (S60)) t151 (t151.length : Int) 0))
def macwilliams_Transform.l2 : Nat → List Int → List (S60) → List (S113) → Int → Int → Option ((List (S60)) × Int)
  | 0, _, _, _, _, _ => none
  | k + 1, x7, x20, x87, x88, x89 => if x89 < x88 then (if 0 ≤ x89 then (if x89 < (x87.length : Int) then ((macwilliams_ratio.f k ((rd_T113 x87 x89).f0) ((rd_T113 x87 x89).f1) x7).bind fun bt156 => (if x20.length < 2513169434916 then (macwilliams_Transform.l2 k x7 (x20 ++ [(⟨bt156.1, bt156.2.1, bt156.2.2⟩ : S60)]) x87 x88 (wrap64 (x89 + 1))) else (none))) else (none)) else (none)) else (some (x20, 0))
end
def macwilliams_Transform.f (k : Nat) (a0 : Int) (l1 : List (S60)) : Option ((List (S60)) × Int) := (macwilliams_wrong.f a0 (l1.length : Int)).bind fun t101 => (if t101 = 0 then (macwilliams_Transform.l0 k a0 (([1] : List Int)) ([] : List (S60)) l1 (l1.length : Int) 0) else (some (([] : List (S60)), t101)))
/-! ### codewrightlaw24_MacwilliamsInverts -/
mutual
def codewrightlaw24_MacwilliamsInverts.j0 : Nat → Int → List (S60) → Bool → Option (Bool)
  | 0, _, _, _ => none
  | k + 1, x0, x1, x23 => if x23 = true then (some true) else ((macwilliams_Transform.f k (wrap64 (x0)) x1).bind fun bt102 => ((macwilliams_Transform.f k (wrap64 (x0)) bt102.1).bind fun bt106 => (if bt102.2 = 0 then (if bt106.2 = 0 then (codewrightlaw24_MacwilliamsInverts.j1 k x0 x1 bt106.1 ((bt106.1.length : Int) != (x1.length : Int))) else (codewrightlaw24_MacwilliamsInverts.j1 k x0 x1 bt106.1 true)) else (codewrightlaw24_MacwilliamsInverts.j1 k x0 x1 bt106.1 true))))
def codewrightlaw24_MacwilliamsInverts.j1 : Nat → Int → List (S60) → List (S60) → Bool → Option (Bool)
  | 0, _, _, _, _ => none
  | k + 1, x0, x1, x7, x50 => if x50 = true then (some false) else (codewrightlaw24_MacwilliamsInverts.l0 k x0 x1 x7 0)
def codewrightlaw24_MacwilliamsInverts.l0 : Nat → Int → List (S60) → List (S60) → Int → Option (Bool)
  | 0, _, _, _, _ => none
  | k + 1, x0, x1, x7, x9 => if x9 < (x1.length : Int) then (if 0 ≤ x9 then (if x9 < (x7.length : Int) then ((codewrightlaw24_pow.f k (wrap64 (x0)) (wrap64 ((x1.length : Int) - 1))).bind fun bt112 => ((codewrightref02_Mul.f k ((rd_T60 x1 x9).f0) ((rd_T60 x1 x9).f1) ((rd_T60 x1 x9).f2) bt112.1 bt112.2.1 bt112.2.2).bind fun bt119 => ((codewrightref02_Same.f k ((rd_T60 x7 x9).f0) ((rd_T60 x7 x9).f1) ((rd_T60 x7 x9).f2) bt119.1 bt119.2.1 bt119.2.2).bind fun t126 => (if t126 = true then (codewrightlaw24_MacwilliamsInverts.l0 k x0 x1 x7 (wrap64 (x9 + 1))) else (some false))))) else (none)) else (none)) else (some true)
end
def codewrightlaw24_MacwilliamsInverts.f (k : Nat) (a0 : Int) (l1 : List (S60)) : Option (Bool) := (codewrightlaw24_large.f k 4 l1).bind fun t101 => (if t101 = true then (some true) else (if a0 < 2 then (codewrightlaw24_MacwilliamsInverts.j0 k a0 l1 true) else (if (l1.length : Int) < 1 then (codewrightlaw24_MacwilliamsInverts.j0 k a0 l1 true) else (codewrightlaw24_MacwilliamsInverts.j0 k a0 l1 (decide ((l1.length : Int) > 16))))))
/-! ### codewrightref02_Nil -/
def codewrightref02_Nil.f (a0_0 : Bool) (l0_1 : List Int) (l0_2 : List Int) : Option (Bool) := if a0_0 = true then (some false) else (if (l0_1.length : Int) = 0 then (some ((l0_2.length : Int) == 0)) else (some false))
/-! ### codewrightlaw24_MacwilliamsKrawtchouk -/
def codewrightlaw24_MacwilliamsKrawtchouk.j0 : Nat → Int → Int → Int → Int → Int → Bool → Bool → List Int → List Int → Option (Bool)
  | 0, _, _, _, _, _, _, _, _, _ => none
  | k + 1, x0, x1, x2, x3, x10, x47, x110000, x110001, x110002 => if x47 = true then (if x10 = 6 then ((codewrightref02_Nil.f x110000 x110001 x110002).bind fun t111 => (some t111)) else (some false)) else (if x10 = 0 then ((codewrightref24_Krawtchouk.f k x0 x1 x2 x3).bind fun bt112 => ((codewrightref02_Same.f k x110000 x110001 x110002 bt112.1 bt112.2.1 bt112.2.2).bind fun t119 => (some t119))) else (some false))
def codewrightlaw24_MacwilliamsKrawtchouk.f (k : Nat) (a0 : Int) (a1 : Int) (a2 : Int) (a3 : Int) : Option (Bool) := (macwilliams_Krawtchouk.f k a0 a1 a2 a3).bind fun bt101 => ((codewrightref24_Order.f a0).bind fun t110 => (if t110 = 0 then (if a1 < 0 then (codewrightlaw24_MacwilliamsKrawtchouk.j0 k a0 a1 a2 a3 bt101.2.2.2 true bt101.1 bt101.2.1 bt101.2.2.1) else (if a1 > 64 then (codewrightlaw24_MacwilliamsKrawtchouk.j0 k a0 a1 a2 a3 bt101.2.2.2 true bt101.1 bt101.2.1 bt101.2.2.1) else (if a2 < 0 then (codewrightlaw24_MacwilliamsKrawtchouk.j0 k a0 a1 a2 a3 bt101.2.2.2 true bt101.1 bt101.2.1 bt101.2.2.1) else (if a2 > a1 then (codewrightlaw24_MacwilliamsKrawtchouk.j0 k a0 a1 a2 a3 bt101.2.2.2 true bt101.1 bt101.2.1 bt101.2.2.1) else (if a3 < 0 then (codewrightlaw24_MacwilliamsKrawtchouk.j0 k a0 a1 a2 a3 bt101.2.2.2 true bt101.1 bt101.2.1 bt101.2.2.1) else (codewrightlaw24_MacwilliamsKrawtchouk.j0 k a0 a1 a2 a3 bt101.2.2.2 (decide (a3 > a1)) bt101.1 bt101.2.1 bt101.2.2.1)))))) else (codewrightlaw24_MacwilliamsKrawtchouk.j0 k a0 a1 a2 a3 bt101.2.2.2 true bt101.1 bt101.2.1 bt101.2.2.1)))
/-! ### codewrightref24_Moment -/
def codewrightref24_Moment.l0 : Nat → List (List Int) → Int → List Int → Int → Option (List Int)
  | 0, _, _, _, _ => none
  | k + 1, x0, x1, x5, x6 => if x6 < (x0.length : Int) then ((codewrightref01_Choose.f k (wrap64 ((wrap64 ((x0.length : Int) - 1)) - x6)) x1).bind fun t104 => (if 0 ≤ x6 then ((codewrightref01_Mul.f k t104 (rd_L3 x0 x6)).bind fun t108 => ((codewrightref01_Add.f k x5 t108).bind fun t111 => (codewrightref24_Moment.l0 k x0 x1 t111 (wrap64 (x6 + 1))))) else (none))) else (some x5)
def codewrightref24_Moment.f (k : Nat) (l0 : List (List Int)) (a1 : Int) : Option (List Int) := codewrightref24_Moment.l0 k l0 a1 (([] : List Int)) 0
/-! ### codewrightref24_Power -/
def codewrightref24_Power.l0 : Nat → List (List Int) → Int → List Int → Int → Option (List Int)
  | 0, _, _, _, _ => none
  | k + 1, x0, x1, x5, x6 => if x6 < (x0.length : Int) then ((codewrightref01_Of.f k (IntKind.u64.wrap (x6))).bind fun t104 => ((codewrightref01_Pow.f k t104 x1).bind fun bt107 => (if 0 ≤ x6 then ((codewrightref01_Mul.f k bt107.1 (rd_L3 x0 x6)).bind fun t112 => ((codewrightref01_Add.f k x5 t112).bind fun t115 => (codewrightref24_Power.l0 k x0 x1 t115 (wrap64 (x6 + 1))))) else (none)))) else (some x5)
def codewrightref24_Power.f (k : Nat) (l0 : List (List Int)) (a1 : Int) : Option (List Int) := codewrightref24_Power.l0 k l0 a1 (([] : List Int)) 0
/-! ### macwilliams_Moment -/
mutual
def macwilliams_Moment.j0 : Nat → List (List Int) → Int → Int → Bool → Option (List Int × Int)
  | 0, _, _, _, _ => none
  | k + 1, x0, x1, x7, x28 => if x28 = true then (some (([] : List Int), 6)) else (macwilliams_Moment.l0 k x1 x7 ([] : List Int) x0 (x0.length : Int) 0)
def macwilliams_Moment.l0 : Nat → Int → Int → List Int → List (List Int) → Int → Int → Option (List Int × Int)
  | 0, _, _, _, _, _, _ => none
  | k + 1, x1, x7, x8, x29, x30, x31 => if x31 < x30 then (if 0 ≤ x31 then (if x31 < (x29.length : Int) then ((nat_Binomial.f k (wrap64 (x7 - x31)) x1).bind fun bt103 => ((nat_Mul.f k (([bt103.1, rd_L3 x29 x31] : List (List Int)))).bind fun t110 => ((nat_Add.f k (([x8, t110] : List (List Int)))).bind fun t116 => (macwilliams_Moment.l0 k x1 x7 t116 x29 x30 (wrap64 (x31 + 1)))))) else (none)) else (none)) else (some (x8, 0))
end
def macwilliams_Moment.f (k : Nat) (l0 : List (List Int)) (a1 : Int) : Option (List Int × Int) := (macwilliams_shape.f (l0.length : Int)).bind fun t101 => (if t101 = 0 then (if a1 < 0 then (macwilliams_Moment.j0 k l0 a1 (wrap64 ((l0.length : Int) - 1)) true) else (macwilliams_Moment.j0 k l0 a1 (wrap64 ((l0.length : Int) - 1)) (decide (a1 > (wrap64 ((l0.length : Int) - 1)))))) else (some (([] : List Int), t101)))
/-! ### macwilliams_Power -/
mutual
def macwilliams_Power.j0 : Nat → List (List Int) → Int → Bool → Option (List Int × Int)
  | 0, _, _, _ => none
  | k + 1, x0, x1, x23 => if x23 = true then (some (([] : List Int), 6)) else (macwilliams_Power.l0 k x1 ([] : List Int) x0 (x0.length : Int) 0)
def macwilliams_Power.l0 : Nat → Int → List Int → List (List Int) → Int → Int → Option (List Int × Int)
  | 0, _, _, _, _, _ => none
  | k + 1, x1, x7, x24, x25, x26 => if x26 < x25 then (if 0 ≤ x26 then (if x26 < (x24.length : Int) then ((nat_Of.f k (IntKind.u64.wrap (x26))).bind fun t103 => ((nat_Pow.f k t103 x1).bind fun bt106 => ((nat_Mul.f k (([bt106.1, rd_L3 x24 x26] : List (List Int)))).bind fun t113 => ((nat_Add.f k (([x7, t113] : List (List Int)))).bind fun t119 => (macwilliams_Power.l0 k x1 t119 x24 x25 (wrap64 (x26 + 1))))))) else (none)) else (none)) else (some (x7, 0))
end
def macwilliams_Power.f (k : Nat) (l0 : List (List Int)) (a1 : Int) : Option (List Int × Int) := (macwilliams_shape.f (l0.length : Int)).bind fun t101 => (if t101 = 0 then (if a1 < 0 then (macwilliams_Power.j0 k l0 a1 true) else (macwilliams_Power.j0 k l0 a1 (decide (a1 > 64)))) else (some (([] : List Int), t101)))
/-! ### codewrightlaw24_MacwilliamsMoments -/
mutual
def codewrightlaw24_MacwilliamsMoments.j0 : Nat → List (List Int) → Int → List Int → Int → List Int → Int → Bool → Option (Bool)
  | 0, _, _, _, _, _, _, _ => none
  | k + 1, x0, x1, x5, x6, x7, x8, x48 => if x48 = true then (if x6 = 6 then (if x8 = 6 then (if (x5.length : Int) = 0 then (some ((x7.length : Int) == 0)) else (some false)) else (some false)) else (some false)) else (if x6 = 0 then ((codewrightref24_Power.f k x0 x1).bind fun t111 => ((codewrightref01_Same.f k x5 t111).bind fun t114 => (codewrightlaw24_MacwilliamsMoments.j1 k x0 x1 x7 x8 (!t114)))) else (codewrightlaw24_MacwilliamsMoments.j1 k x0 x1 x7 x8 true))
def codewrightlaw24_MacwilliamsMoments.j1 : Nat → List (List Int) → Int → List Int → Int → Bool → Option (Bool)
  | 0, _, _, _, _, _ => none
  | k + 1, x0, x1, x7, x8, x74 => if x74 = true then (some false) else (if x1 ≥ (x0.length : Int) then (if x8 = 6 then (some ((x7.length : Int) == 0)) else (some false)) else (if x8 = 0 then ((codewrightref24_Moment.f k x0 x1).bind fun t115 => ((codewrightref01_Same.f k x7 t115).bind fun t118 => (some t118))) else (some false)))
end
def codewrightlaw24_MacwilliamsMoments.f (k : Nat) (l0 : List (List Int)) (a1 : Int) : Option (Bool) := (codewrightlaw24_long.f k 20 l0).bind fun t101 => (if t101 = true then (some true) else ((macwilliams_Power.f k l0 a1).bind fun bt102 => ((macwilliams_Moment.f k l0 a1).bind fun bt106 => ((codewrightref24_Shape.f (l0.length : Int)).bind fun t110 => (if t110 = 0 then (if a1 < 0 then (codewrightlaw24_MacwilliamsMoments.j0 k l0 a1 bt102.1 bt102.2 bt106.1 bt106.2 true) else (codewrightlaw24_MacwilliamsMoments.j0 k l0 a1 bt102.1 bt102.2 bt106.1 bt106.2 (decide (a1 > 64)))) else (if bt102.2 = 3 then (if bt106.2 = 3 then (if (bt102.1.length : Int) = 0 then (some ((bt106.1.length : Int) == 0)) else (some false)) else (some false)) else (some false)))))))
/-! ### codewrightlaw24_choose -/
def codewrightlaw24_choose.f (k : Nat) (a0 : Int) (a1 : Int) : Option (Bool × List Int × List Int) := (codewrightref01_Choose.f k a0 a1).bind fun t102 => ((codewrightref02_Nat.f k t102).bind fun bt105 => (some (bt105.1, bt105.2.1, bt105.2.2)))
/-! ### codewrightref02_Sign -/
def codewrightref02_Sign.f (k : Nat) (a0_0 : Bool) (l0_1 : List Int) (l0_2 : List Int) : Option (Int) := (codewrightref02_Trim.f k a0_0 l0_1 l0_2).bind fun bt102 => (if (bt102.2.1.length : Int) = 0 then (some 0) else (if bt102.1 = true then (some (-1)) else (some 1)))
/-! ### codewrightlaw24_MacwilliamsOrthogonal -/
mutual
def codewrightlaw24_MacwilliamsOrthogonal.j0 : Nat → Int → Int → Int → Int → Bool → Option (Bool)
  | 0, _, _, _, _, _ => none
  | k + 1, x0, x1, x2, x3, x30 => if x30 = true then (some true) else ((codewrightref02_Int.f k 0).bind fun bt101 => (codewrightlaw24_MacwilliamsOrthogonal.l0 k x0 x1 x2 x3 0 bt101.1 bt101.2.1 bt101.2.2))
def codewrightlaw24_MacwilliamsOrthogonal.l0 : Nat → Int → Int → Int → Int → Int → Bool → List Int → List Int → Option (Bool)
  | 0, _, _, _, _, _, _, _, _ => none
  | k + 1, x0, x1, x2, x3, x10, x109000, x109001, x109002 => if x10 ≤ (wrap64 (x1)) then ((codewrightlaw24_k.f k (wrap64 (x0)) (wrap64 (x1)) (wrap64 (x2)) x10).bind fun bt109 => ((codewrightlaw24_k.f k (wrap64 (x0)) (wrap64 (x1)) (wrap64 (x3)) x10).bind fun bt118 => (if bt109.2.2.2 = true then (codewrightlaw24_MacwilliamsOrthogonal.j2 k x0 x1 x2 x3 x10 (!bt118.2.2.2) x109000 x109001 x109002 bt109.1 bt109.2.1 bt109.2.2.1 bt118.1 bt118.2.1 bt118.2.2.1) else (codewrightlaw24_MacwilliamsOrthogonal.j2 k x0 x1 x2 x3 x10 true x109000 x109001 x109002 bt109.1 bt109.2.1 bt109.2.2.1 bt118.1 bt118.2.1 bt118.2.2.1)))) else (if x2 = x3 then ((codewrightlaw24_pow.f k (wrap64 (x0)) (wrap64 (x1))).bind fun bt170 => ((codewrightlaw24_pow.f k (wrap64 ((wrap64 (x0)) - 1)) (wrap64 (x2))).bind fun bt177 => ((codewrightlaw24_choose.f k (wrap64 (x1)) (wrap64 (x2))).bind fun bt184 => ((codewrightref02_Mul.f k bt177.1 bt177.2.1 bt177.2.2 bt184.1 bt184.2.1 bt184.2.2).bind fun bt191 => ((codewrightref02_Mul.f k bt170.1 bt170.2.1 bt170.2.2 bt191.1 bt191.2.1 bt191.2.2).bind fun bt198 => ((codewrightref02_Same.f k x109000 x109001 x109002 bt198.1 bt198.2.1 bt198.2.2).bind fun t205 => (some t205))))))) else ((codewrightref02_Sign.f k x109000 x109001 x109002).bind fun t169 => (some (t169 == 0))))
def codewrightlaw24_MacwilliamsOrthogonal.j2 : Nat → Int → Int → Int → Int → Int → Bool → Bool → List Int → List Int → Bool → List Int → List Int → Bool → List Int → List Int → Option (Bool)
  | 0, _, _, _, _, _, _, _, _, _, _, _, _, _, _, _ => none
  | k + 1, x0, x1, x2, x3, x10, x65, x109000, x109001, x109002, x118000, x118001, x118002, x127000, x127001, x127002 => if x65 = true then (some false) else ((codewrightlaw24_choose.f k (wrap64 (x1)) x10).bind fun bt127 => ((codewrightlaw24_pow.f k (wrap64 ((wrap64 (x0)) - 1)) x10).bind fun bt134 => ((codewrightref02_Mul.f k bt127.1 bt127.2.1 bt127.2.2 bt134.1 bt134.2.1 bt134.2.2).bind fun bt141 => ((codewrightref02_Mul.f k x118000 x118001 x118002 x127000 x127001 x127002).bind fun bt148 => ((codewrightref02_Mul.f k bt141.1 bt141.2.1 bt141.2.2 bt148.1 bt148.2.1 bt148.2.2).bind fun bt155 => ((codewrightref02_Add.f k x109000 x109001 x109002 bt155.1 bt155.2.1 bt155.2.2).bind fun bt162 => (codewrightlaw24_MacwilliamsOrthogonal.l0 k x0 x1 x2 x3 (wrap64 (x10 + 1)) bt162.1 bt162.2.1 bt162.2.2)))))))
end
def codewrightlaw24_MacwilliamsOrthogonal.f (k : Nat) (a0 : Int) (a1 : Int) (a2 : Int) (a3 : Int) : Option (Bool) := if a0 < 2 then (codewrightlaw24_MacwilliamsOrthogonal.j0 k a0 a1 a2 a3 true) else (if a1 > 16 then (codewrightlaw24_MacwilliamsOrthogonal.j0 k a0 a1 a2 a3 true) else (if a2 > a1 then (codewrightlaw24_MacwilliamsOrthogonal.j0 k a0 a1 a2 a3 true) else (codewrightlaw24_MacwilliamsOrthogonal.j0 k a0 a1 a2 a3 (decide (a3 > a1)))))
/-! ### codewrightlaw24_MacwilliamsPless -/
def codewrightlaw24_MacwilliamsPless.f (k : Nat) (a0_0 : Int) (a0_1 : Int) (l0_2 : List Int) (a1 : Int) (l2 : List (List Int)) (a3 : Int) : Option (Bool) := (codewrightlaw24_codes.f k a0_0 a0_1 l0_2 a1 l2).bind fun bt102 => (if bt102.2.2.2.2 = true then (if (wrap64 (bt102.1 + 1)) = 0 then (none) else ((codewrightref24_Weights.f k bt102.1 bt102.2.1).bind fun t113 => ((macwilliams_Moment.f k t113 (Int.tmod (wrap64 (a3)) (wrap64 (bt102.1 + 1)))).bind fun bt116 => ((codewrightref24_Weights.f k bt102.1 bt102.2.2.1).bind fun t120 => ((macwilliams_Moment.f k t120 (wrap64 (bt102.1 - (Int.tmod (wrap64 (a3)) (wrap64 (bt102.1 + 1)))))).bind fun bt123 => ((codewrightref04_Order.f k a0_0 a0_1 l0_2).bind fun t127 => ((codewrightref01_Of.f k (IntKind.u64.wrap (t127))).bind fun t128 => ((codewrightref01_Pow.f k t128 (Int.tmod (wrap64 (a3)) (wrap64 (bt102.1 + 1)))).bind fun bt131 => (if bt116.2 = 0 then (if bt123.2 = 0 then ((codewrightref01_Mul.f k bt131.1 bt116.1).bind fun t135 => ((codewrightref01_Of.f k (IntKind.u64.wrap ((bt102.2.1.length : Int)))).bind fun t138 => ((codewrightref01_Mul.f k t138 bt123.1).bind fun t141 => ((codewrightref01_Same.f k t135 t141).bind fun t144 => (if t144 = true then ((codewrightref01_Zero.f k bt123.1).bind fun t145 => (some (!t145))) else (some false)))))) else (some false)) else (some false)))))))))) else (some true))
/-! ### codewrightlaw24_MacwilliamsReciprocal -/
mutual
def codewrightlaw24_MacwilliamsReciprocal.j0 : Nat → Int → Int → Int → Int → Bool → Option (Bool)
  | 0, _, _, _, _, _ => none
  | k + 1, x0, x1, x2, x3, x30 => if x30 = true then (some true) else ((codewrightlaw24_k.f k (wrap64 (x0)) (wrap64 (x1)) (wrap64 (x3)) (wrap64 (x2))).bind fun bt101 => ((codewrightlaw24_k.f k (wrap64 (x0)) (wrap64 (x1)) (wrap64 (x2)) (wrap64 (x3))).bind fun bt110 => ((codewrightlaw24_k.f k 2 1 1 1).bind fun bt119 => (if bt101.2.2.2 = true then (if bt110.2.2.2 = true then (if bt119.2.2.2 = true then ((codewrightref02_Int.f k (-1)).bind fun bt128 => ((codewrightref02_Same.f k bt119.1 bt119.2.1 bt119.2.2.1 bt128.1 bt128.2.1 bt128.2.2).bind fun t135 => (codewrightlaw24_MacwilliamsReciprocal.j1 k x0 x1 x2 x3 (!t135) bt101.1 bt101.2.1 bt101.2.2.1 bt110.1 bt110.2.1 bt110.2.2.1))) else (codewrightlaw24_MacwilliamsReciprocal.j1 k x0 x1 x2 x3 true bt101.1 bt101.2.1 bt101.2.2.1 bt110.1 bt110.2.1 bt110.2.2.1)) else (codewrightlaw24_MacwilliamsReciprocal.j1 k x0 x1 x2 x3 true bt101.1 bt101.2.1 bt101.2.2.1 bt110.1 bt110.2.1 bt110.2.2.1)) else (codewrightlaw24_MacwilliamsReciprocal.j1 k x0 x1 x2 x3 true bt101.1 bt101.2.1 bt101.2.2.1 bt110.1 bt110.2.1 bt110.2.2.1)))))
def codewrightlaw24_MacwilliamsReciprocal.j1 : Nat → Int → Int → Int → Int → Bool → Bool → List Int → List Int → Bool → List Int → List Int → Option (Bool)
  | 0, _, _, _, _, _, _, _, _, _, _, _ => none
  | k + 1, x0, x1, x2, x3, x74, x110000, x110001, x110002, x119000, x119001, x119002 => if x74 = true then (some false) else ((codewrightlaw24_pow.f k (wrap64 ((wrap64 (x0)) - 1)) (wrap64 (x2))).bind fun bt136 => ((codewrightlaw24_choose.f k (wrap64 (x1)) (wrap64 (x2))).bind fun bt143 => ((codewrightref02_Mul.f k bt136.1 bt136.2.1 bt136.2.2 bt143.1 bt143.2.1 bt143.2.2).bind fun bt150 => ((codewrightref02_Mul.f k x110000 x110001 x110002 bt150.1 bt150.2.1 bt150.2.2).bind fun bt157 => ((codewrightlaw24_pow.f k (wrap64 ((wrap64 (x0)) - 1)) (wrap64 (x3))).bind fun bt164 => ((codewrightlaw24_choose.f k (wrap64 (x1)) (wrap64 (x3))).bind fun bt171 => ((codewrightref02_Mul.f k bt164.1 bt164.2.1 bt164.2.2 bt171.1 bt171.2.1 bt171.2.2).bind fun bt178 => ((codewrightref02_Mul.f k x119000 x119001 x119002 bt178.1 bt178.2.1 bt178.2.2).bind fun bt185 => ((codewrightref02_Same.f k bt157.1 bt157.2.1 bt157.2.2 bt185.1 bt185.2.1 bt185.2.2).bind fun t192 => (some t192))))))))))
end
def codewrightlaw24_MacwilliamsReciprocal.f (k : Nat) (a0 : Int) (a1 : Int) (a2 : Int) (a3 : Int) : Option (Bool) := if a0 < 2 then (codewrightlaw24_MacwilliamsReciprocal.j0 k a0 a1 a2 a3 true) else (if a1 > 32 then (codewrightlaw24_MacwilliamsReciprocal.j0 k a0 a1 a2 a3 true) else (if a2 > a1 then (codewrightlaw24_MacwilliamsReciprocal.j0 k a0 a1 a2 a3 true) else (codewrightlaw24_MacwilliamsReciprocal.j0 k a0 a1 a2 a3 (decide (a3 > a1)))))
/-! ### codewrightref02_Sub -/
def codewrightref02_Sub.f (k : Nat) (a0_0 : Bool) (l0_1 : List Int) (l0_2 : List Int) (a1_0 : Bool) (l1_1 : List Int) (l1_2 : List Int) : Option (Bool × List Int × List Int) := (codewrightref02_Neg.f k a1_0 l1_1 l1_2).bind fun bt104 => ((codewrightref02_Add.f k a0_0 l0_1 l0_2 bt104.1 bt104.2.1 bt104.2.2).bind fun bt111 => (some (bt111.1, bt111.2.1, bt111.2.2)))
/-! ### codewrightlaw24_MacwilliamsRecurrence -/
mutual
def codewrightlaw24_MacwilliamsRecurrence.j0 : Nat → Int → Int → Int → Int → Bool → Option (Bool)
  | 0, _, _, _, _, _ => none
  | k + 1, x0, x1, x2, x3, x37 => if x37 = true then (some true) else ((codewrightlaw24_k.f k (wrap64 (x0)) (wrap64 (x1)) (wrap64 ((wrap64 (x2)) + 1)) (wrap64 (x3))).bind fun bt101 => ((codewrightlaw24_k.f k (wrap64 (x0)) (wrap64 (x1)) (wrap64 (x2)) (wrap64 (x3))).bind fun bt110 => ((codewrightlaw24_k.f k (wrap64 (x0)) (wrap64 (x1)) (wrap64 ((wrap64 (x2)) - 1)) (wrap64 (x3))).bind fun bt119 => ((macwilliams_Krawtchouk.f k (wrap64 (x0)) (wrap64 (x1)) 0 (wrap64 (x3))).bind fun bt128 => (if bt101.2.2.2 = true then (if bt110.2.2.2 = true then (if bt119.2.2.2 = true then (if bt128.2.2.2 = 0 then ((codewrightref02_Int.f k 1).bind fun bt137 => ((codewrightref02_Same.f k bt128.1 bt128.2.1 bt128.2.2.1 bt137.1 bt137.2.1 bt137.2.2).bind fun t144 => (codewrightlaw24_MacwilliamsRecurrence.j1 k x0 x1 x2 x3 (!t144) bt101.1 bt101.2.1 bt101.2.2.1 bt110.1 bt110.2.1 bt110.2.2.1 bt119.1 bt119.2.1 bt119.2.2.1))) else (codewrightlaw24_MacwilliamsRecurrence.j1 k x0 x1 x2 x3 true bt101.1 bt101.2.1 bt101.2.2.1 bt110.1 bt110.2.1 bt110.2.2.1 bt119.1 bt119.2.1 bt119.2.2.1)) else (codewrightlaw24_MacwilliamsRecurrence.j1 k x0 x1 x2 x3 true bt101.1 bt101.2.1 bt101.2.2.1 bt110.1 bt110.2.1 bt110.2.2.1 bt119.1 bt119.2.1 bt119.2.2.1)) else (codewrightlaw24_MacwilliamsRecurrence.j1 k x0 x1 x2 x3 true bt101.1 bt101.2.1 bt101.2.2.1 bt110.1 bt110.2.1 bt110.2.2.1 bt119.1 bt119.2.1 bt119.2.2.1)) else (codewrightlaw24_MacwilliamsRecurrence.j1 k x0 x1 x2 x3 true bt101.1 bt101.2.1 bt101.2.2.1 bt110.1 bt110.2.1 bt110.2.2.1 bt119.1 bt119.2.1 bt119.2.2.1))))))
def codewrightlaw24_MacwilliamsRecurrence.j1 : Nat → Int → Int → Int → Int → Bool → Bool → List Int → List Int → Bool → List Int → List Int → Bool → List Int → List Int → Option (Bool)
  | 0, _, _, _, _, _, _, _, _, _, _, _, _, _, _ => none
  | k + 1, x0, x1, x2, x3, x105, x110000, x110001, x110002, x119000, x119001, x119002, x128000, x128001, x128002 => if x105 = true then (some false) else ((codewrightref02_Int.f k (wrap64 ((wrap64 (x2)) + 1))).bind fun bt145 => ((codewrightref02_Mul.f k bt145.1 bt145.2.1 bt145.2.2 x110000 x110001 x110002).bind fun bt152 => ((codewrightref02_Int.f k (wrap64 ((wrap64 ((wrap64 ((wrap64 ((wrap64 (x1)) - (wrap64 (x2)))) * (wrap64 ((wrap64 (x0)) - 1)))) + (wrap64 (x2)))) - (wrap64 ((wrap64 (x0)) * (wrap64 (x3))))))).bind fun bt159 => ((codewrightref02_Mul.f k bt159.1 bt159.2.1 bt159.2.2 x119000 x119001 x119002).bind fun bt166 => ((codewrightref02_Int.f k (wrap64 ((wrap64 ((wrap64 (x0)) - 1)) * (wrap64 ((wrap64 ((wrap64 (x1)) - (wrap64 (x2)))) + 1))))).bind fun bt173 => ((codewrightref02_Mul.f k bt173.1 bt173.2.1 bt173.2.2 x128000 x128001 x128002).bind fun bt180 => ((codewrightref02_Sub.f k bt166.1 bt166.2.1 bt166.2.2 bt180.1 bt180.2.1 bt180.2.2).bind fun bt187 => ((codewrightref02_Same.f k bt152.1 bt152.2.1 bt152.2.2 bt187.1 bt187.2.1 bt187.2.2).bind fun t194 => (some t194)))))))))
end
def codewrightlaw24_MacwilliamsRecurrence.f (k : Nat) (a0 : Int) (a1 : Int) (a2 : Int) (a3 : Int) : Option (Bool) := if a0 < 2 then (codewrightlaw24_MacwilliamsRecurrence.j0 k a0 a1 a2 a3 true) else (if a1 > 48 then (codewrightlaw24_MacwilliamsRecurrence.j0 k a0 a1 a2 a3 true) else (if a2 < 1 then (codewrightlaw24_MacwilliamsRecurrence.j0 k a0 a1 a2 a3 true) else (if a2 ≥ a1 then (codewrightlaw24_MacwilliamsRecurrence.j0 k a0 a1 a2 a3 true) else (codewrightlaw24_MacwilliamsRecurrence.j0 k a0 a1 a2 a3 (decide (a3 > a1))))))
/-! ### codewrightref24_Least -/
def codewrightref24_Least.l0 : Nat → List (List Int) → Int → Option (Int)
  | 0, _, _ => none
  | k + 1, x0, x3 => if x3 < (x0.length : Int) then (if 0 ≤ x3 then ((codewrightref01_Zero.f k (rd_L3 x0 x3)).bind fun t102 => (if t102 = true then (codewrightref24_Least.l0 k x0 (wrap64 (x3 + 1))) else (some x3))) else (none)) else (some 0)
def codewrightref24_Least.f (k : Nat) (l0 : List (List Int)) : Option (Int) := codewrightref24_Least.l0 k l0 1
/-! ### codewrightref24_Strength -/
def codewrightref24_Strength.l0 : Nat → Int → List (List Int) → Int → Int → Option (Int)
  | 0, _, _, _, _ => none
  | k + 1, x0, x1, x5, x6 => if x6 < x0 then ((codewrightref24_nonzero.f k x1 (wrap64 ((wrap64 ((x1.length : Int) - 1)) - x6))).bind fun t101 => (if t101 ≤ (wrap64 (x0 - x6)) then (codewrightref24_Strength.l0 k x0 x1 x6 (wrap64 (x6 + 1))) else (codewrightref24_Strength.l0 k x0 x1 x5 (wrap64 (x6 + 1))))) else (some x5)
def codewrightref24_Strength.f (k : Nat) (a0 : Int) (l1 : List (List Int)) : Option (Int) := codewrightref24_Strength.l0 k a0 l1 0 1
/-! ### macwilliams_Strength -/
mutual
def macwilliams_Strength.j1 : Nat → List (List Int) → Int → Int → Option (Int × Int)
  | 0, _, _, _ => none
  | k + 1, x6, x8, x9 => if x9 > x8 then (some (0, 11)) else (macwilliams_Strength.l1 k x6 x8 x9 (wrap64 (x9 - 1)))
def macwilliams_Strength.l1 : Nat → List (List Int) → Int → Int → Int → Option (Int × Int)
  | 0, _, _, _, _ => none
  | k + 1, x6, x8, x9, x10 => if x10 ≥ 1 then ((macwilliams_some.f k x6 (wrap64 (x8 - x10))).bind fun t107 => (if t107 ≤ (wrap64 (x9 - x10)) then (some (x10, 0)) else (macwilliams_Strength.l1 k x6 x8 x9 (wrap64 (x10 - 1))))) else (some (0, 0))
def macwilliams_Strength.l0 : Nat → List (List Int) → List (List Int) → Int → Int → Option (Int × Int)
  | 0, _, _, _, _ => none
  | k + 1, x1, x6, x8, x9 => if x9 ≤ x8 then (if 0 ≤ x9 then (if x9 < (x1.length : Int) then ((nat_Bits.f k (rd_L3 x1 x9)).bind fun t106 => (if t106 = 0 then (macwilliams_Strength.l0 k x1 x6 x8 (wrap64 (x9 + 1))) else (macwilliams_Strength.j1 k x6 x8 x9))) else (none)) else (none)) else (macwilliams_Strength.j1 k x6 x8 x9)
end
def macwilliams_Strength.f (k : Nat) (a0 : Int) (l1 : List (List Int)) : Option (Int × Int) := (macwilliams_Dual.f k a0 l1).bind fun bt101 => (if bt101.2 = 0 then (macwilliams_Strength.l0 k l1 bt101.1 (wrap64 ((l1.length : Int) - 1)) 1) else (some (0, bt101.2)))
/-! ### codewrightlaw24_MacwilliamsStrengths -/
def codewrightlaw24_MacwilliamsStrengths.j0 : Nat → Int → List (List Int) → Bool → Option (Bool)
  | 0, _, _, _ => none
  | k + 1, x0, x1, x19 => if x19 = true then (some true) else ((macwilliams_Strength.f k x0 x1).bind fun bt102 => ((codewrightref24_Dual.f k x0 x1).bind fun bt104 => (if bt104.2 = 0 then ((codewrightref24_Least.f k x1).bind fun t108 => (if t108 = 0 then (if bt102.2 = 11 then (some (bt102.1 == 0)) else (some false)) else (if bt102.2 = 0 then ((codewrightref24_Strength.f k t108 bt104.1).bind fun t109 => (some (bt102.1 == t109))) else (some false)))) else (if bt102.2 = bt104.2 then (some (bt102.1 == 0)) else (some false)))))
def codewrightlaw24_MacwilliamsStrengths.f (k : Nat) (a0 : Int) (l1 : List (List Int)) : Option (Bool) := (codewrightlaw24_long.f k 8 l1).bind fun t101 => (if t101 = true then (some true) else (if (l1.length : Int) > 20 then (codewrightlaw24_MacwilliamsStrengths.j0 k a0 l1 (decide ((l1.length : Int) ≤ 65))) else (codewrightlaw24_MacwilliamsStrengths.j0 k a0 l1 false)))
/-! ### codewrightref02_SameList -/
def codewrightref02_SameList.l0 : Nat → List (S60) → List (S60) → Int → Option (Bool)
  | 0, _, _, _ => none
  | k + 1, x0, x1, x5 => if x5 < (x0.length : Int) then (if 0 ≤ x5 then (if x5 < (x1.length : Int) then ((codewrightref02_Same.f k ((rd_T60 x0 x5).f0) ((rd_T60 x0 x5).f1) ((rd_T60 x0 x5).f2) ((rd_T60 x1 x5).f0) ((rd_T60 x1 x5).f1) ((rd_T60 x1 x5).f2)).bind fun t103 => (if t103 = true then (codewrightref02_SameList.l0 k x0 x1 (wrap64 (x5 + 1))) else (some false))) else (none)) else (none)) else (some true)
def codewrightref02_SameList.f (k : Nat) (l0 : List (S60)) (l1 : List (S60)) : Option (Bool) := if (l0.length : Int) = (l1.length : Int) then (codewrightref02_SameList.l0 k l0 l1 0) else (some false)
/-! ### codewrightlaw24_MacwilliamsTransforms -/
def codewrightlaw24_MacwilliamsTransforms.j0 : Nat → Int → List (S60) → Bool → Option (Bool)
  | 0, _, _, _ => none
  | k + 1, x0, x1, x16 => if x16 = true then (some true) else ((macwilliams_Transform.f k x0 x1).bind fun bt102 => ((codewrightref24_Order.f x0).bind fun t106 => (if t106 = 0 then ((codewrightref24_Shape.f (x1.length : Int)).bind fun t107 => (if t107 = 0 then (if bt102.2 = 0 then ((codewrightref24_Transform.f k x0 x1).bind fun t108 => ((codewrightref02_SameList.f k bt102.1 t108).bind fun t111 => (some t111))) else (some false)) else (if bt102.2 = 3 then (some ((bt102.1.length : Int) == 0)) else (some false)))) else (if bt102.2 = 6 then (some ((bt102.1.length : Int) == 0)) else (some false)))))
def codewrightlaw24_MacwilliamsTransforms.f (k : Nat) (a0 : Int) (l1 : List (S60)) : Option (Bool) := (codewrightlaw24_large.f k 4 l1).bind fun t101 => (if t101 = true then (some true) else (if (l1.length : Int) > 20 then (codewrightlaw24_MacwilliamsTransforms.j0 k a0 l1 (decide ((l1.length : Int) ≤ 65))) else (codewrightlaw24_MacwilliamsTransforms.j0 k a0 l1 false)))
/-! ### codewrightlaw24_crowded -/
def codewrightlaw24_crowded.l0 : Nat → List (List Int) → Int → Option (Bool)
  | 0, _, _ => none
  | k + 1, x0, x3 => if x3 < (x0.length : Int) then (if 0 ≤ x3 then (if ((rd_L1 x0 x3).length : Int) > 100 then (some true) else (codewrightlaw24_crowded.l0 k x0 (wrap64 (x3 + 1)))) else (none)) else (some (decide ((x0.length : Int) > 300)))
def codewrightlaw24_crowded.f (k : Nat) (l0 : List (List Int)) : Option (Bool) := codewrightlaw24_crowded.l0 k l0 0
/-! ### codewrightref24_Block -/
def codewrightref24_Block.l0 : Nat → Int → List Int → Int → Option (Bool)
  | 0, _, _, _ => none
  | k + 1, x0, x1, x5 => if x5 < (x1.length : Int) then (if 0 ≤ x5 then (if (rd x1 x5) < 0 then (some false) else (if (rd x1 x5) ≥ x0 then (some false) else (if x5 > 0 then (if 0 ≤ (wrap64 (x5 - 1)) then (if (wrap64 (x5 - 1)) < (x1.length : Int) then (if (rd x1 x5) ≤ (rd x1 (wrap64 (x5 - 1))) then (some false) else (codewrightref24_Block.l0 k x0 x1 (wrap64 (x5 + 1)))) else (none)) else (none)) else (codewrightref24_Block.l0 k x0 x1 (wrap64 (x5 + 1)))))) else (none)) else (some true)
def codewrightref24_Block.f (k : Nat) (a0 : Int) (l1 : List Int) : Option (Bool) := codewrightref24_Block.l0 k a0 l1 0
/-! ### codewrightref24_Inside -/
mutual
def codewrightref24_Inside.l0 : Nat → List Int → List Int → Int → Option (Bool)
  | 0, _, _, _ => none
  | k + 1, x0, x1, x5 => if x5 < (x0.length : Int) then (codewrightref24_Inside.l1 k x0 x1 x5 false 0) else (some true)
def codewrightref24_Inside.l1 : Nat → List Int → List Int → Int → Bool → Int → Option (Bool)
  | 0, _, _, _, _, _ => none
  | k + 1, x0, x1, x5, x6, x7 => if x7 < (x1.length : Int) then (if x6 = true then (codewrightref24_Inside.l1 k x0 x1 x5 true (wrap64 (x7 + 1))) else (if 0 ≤ x7 then (if 0 ≤ x5 then (if x5 < (x0.length : Int) then (codewrightref24_Inside.l1 k x0 x1 x5 ((rd x1 x7) == (rd x0 x5)) (wrap64 (x7 + 1))) else (none)) else (none)) else (none))) else (if x6 = true then (codewrightref24_Inside.l0 k x0 x1 (wrap64 (x5 + 1))) else (some false))
end
def codewrightref24_Inside.f (k : Nat) (l0 : List Int) (l1 : List Int) : Option (Bool) := codewrightref24_Inside.l0 k l0 l1 0
/-! ### codewrightref24_Many -/
def codewrightref24_Many.f (k : Nat) (a0 : Int) (a1 : Int) : Option (Bool) := (codewrightref01_Choose.f k a0 a1).bind fun t101 => ((codewrightref01_Of.f k 65536).bind fun t104 => ((codewrightref01_Cmp.f k t101 t104).bind fun t107 => (some (decide (t107 > 0)))))
/-! ### codewrightref24_sets -/
mutual
def codewrightref24_sets.l0 : Nat → Int → Int → List (List Int) → Int → Option ((List (List Int)))
  | 0, _, _, _, _ => none
  | k + 1, x1, x2, x7, x8 => if (wrap64 (x8 + x2)) ≤ x1 then ((codewrightref24_sets.f k (wrap64 (x8 + 1)) x1 (wrap64 (x2 - 1))).bind fun t107 => (codewrightref24_sets.l1 k x1 x2 x7 x8 t107 0)) else (some x7)
def codewrightref24_sets.l1 : Nat → Int → Int → List (List Int) → Int → List (List Int) → Int → Option ((List (List Int)))
  | 0, _, _, _, _, _, _ => none
  | k + 1, x1, x2, x7, x8, x9, x10 => if x10 < (x9.length : Int) then ((some (([x8] : List Int) : List Int)).bind fun y110 => (if 0 ≤ x10 then (if y110.length + (rd_L1 x9 x10).length < 17592186044416 then (if x7.length < 5864062014805 then (codewrightref24_sets.l1 k x1 x2 (x7 ++ [(y110 ++ (rd_L1 x9 x10))]) x8 x9 (wrap64 (x10 + 1))) else (none)) else (none)) else (none))) else (codewrightref24_sets.l0 k x1 x2 x7 (wrap64 (x8 + 1)))
def codewrightref24_sets.f : Nat → Int → Int → Int → Option ((List (List Int)))
  | 0, _, _, _ => none
  | k + 1, a0, a1, a2 => if a2 = 0 then (some (([(([] : List Int))] : List (List Int)))) else (codewrightref24_sets.l0 k a1 a2 ([] : List (List Int)) a0)
end
/-! ### codewrightref24_Design -/
mutual
def codewrightref24_Design.j0 : Nat → Int → List (List Int) → Int → Bool → Option (Int × Int)
  | 0, _, _, _, _ => none
  | k + 1, x0, x1, x2, x19 => if x19 = true then (some (0, 6)) else (codewrightref24_Design.l0 k x0 x1 x2 0)
def codewrightref24_Design.l0 : Nat → Int → List (List Int) → Int → Int → Option (Int × Int)
  | 0, _, _, _, _ => none
  | k + 1, x0, x1, x2, x8 => if x8 < (x1.length : Int) then (if 0 ≤ x8 then ((codewrightref24_Block.f k x0 (rd_L1 x1 x8)).bind fun t102 => (if t102 = true then (codewrightref24_Design.l0 k x0 x1 x2 (wrap64 (x8 + 1))) else (some (0, 5)))) else (none)) else (if x2 < 0 then (codewrightref24_Design.j2 k x0 x1 x2 true) else (codewrightref24_Design.j2 k x0 x1 x2 (decide (x2 > x0))))
def codewrightref24_Design.j2 : Nat → Int → List (List Int) → Int → Bool → Option (Int × Int)
  | 0, _, _, _, _ => none
  | k + 1, x0, x1, x2, x39 => if x39 = true then (some (0, 6)) else ((codewrightref24_Many.f k x0 x2).bind fun t103 => (if t103 = true then (some (0, 8)) else ((codewrightref24_sets.f k 0 x0 x2).bind fun t104 => (codewrightref24_Design.l1 k x1 t104 (-1) 0))))
def codewrightref24_Design.l1 : Nat → List (List Int) → List (List Int) → Int → Int → Option (Int × Int)
  | 0, _, _, _, _ => none
  | k + 1, x1, x9, x10, x11 => if x11 < (x9.length : Int) then (codewrightref24_Design.l2 k x1 x9 x10 x11 0 0) else (some (x10, 0))
def codewrightref24_Design.l2 : Nat → List (List Int) → List (List Int) → Int → Int → Int → Int → Option (Int × Int)
  | 0, _, _, _, _, _, _ => none
  | k + 1, x1, x9, x10, x11, x12, x13 => if x13 < (x1.length : Int) then (if 0 ≤ x11 then (if x11 < (x9.length : Int) then (if 0 ≤ x13 then ((codewrightref24_Inside.f k (rd_L1 x9 x11) (rd_L1 x1 x13)).bind fun t109 => (if t109 = true then (codewrightref24_Design.l2 k x1 x9 x10 x11 (wrap64 (x12 + 1)) (wrap64 (x13 + 1))) else (codewrightref24_Design.l2 k x1 x9 x10 x11 x12 (wrap64 (x13 + 1))))) else (none)) else (none)) else (none)) else (if x10 ≥ 0 then (if x10 = x12 then (codewrightref24_Design.l1 k x1 x9 x12 (wrap64 (x11 + 1))) else (some (0, 11))) else (codewrightref24_Design.l1 k x1 x9 x12 (wrap64 (x11 + 1))))
end
def codewrightref24_Design.f (k : Nat) (a0 : Int) (l1 : List (List Int)) (a2 : Int) : Option (Int × Int) := if a0 < 0 then (codewrightref24_Design.j0 k a0 l1 a2 true) else (codewrightref24_Design.j0 k a0 l1 a2 (decide (a0 > 64)))
/-! ### codewrightref24_Supports -/
mutual
def codewrightref24_Supports.l0 : Nat → List (List Int) → Int → List (List Int) → Int → Option ((List (List Int)))
  | 0, _, _, _, _ => none
  | k + 1, x0, x1, x5, x6 => if x6 < (x0.length : Int) then (codewrightref24_Supports.l1 k x0 x1 x5 x6 ([] : List Int) 0) else (some x5)
def codewrightref24_Supports.l1 : Nat → List (List Int) → Int → List (List Int) → Int → List Int → Int → Option ((List (List Int)))
  | 0, _, _, _, _, _, _ => none
  | k + 1, x0, x1, x5, x6, x7, x8 => if 0 ≤ x6 then (if x6 < (x0.length : Int) then (if x8 < ((rd_L1 x0 x6).length : Int) then (if 0 ≤ x8 then (if (rd (rd_L1 x0 x6) x8) = 0 then (codewrightref24_Supports.l1 k x0 x1 x5 x6 x7 (wrap64 (x8 + 1))) else (if x7.length < 17592186044416 then (codewrightref24_Supports.l1 k x0 x1 x5 x6 (x7 ++ [x8]) (wrap64 (x8 + 1))) else (none))) else (none)) else (codewrightref24_Supports.l2 k x0 x1 x5 x6 x7 false 0)) else (none)) else (none)
def codewrightref24_Supports.l2 : Nat → List (List Int) → Int → List (List Int) → Int → List Int → Bool → Int → Option ((List (List Int)))
  | 0, _, _, _, _, _, _, _ => none
  | k + 1, x0, x1, x5, x6, x7, x9, x10 => if x10 < (x5.length : Int) then (if x9 = true then (codewrightref24_Supports.l2 k x0 x1 x5 x6 x7 true (wrap64 (x10 + 1))) else (if 0 ≤ x10 then (if ((rd_L1 x5 x10).length : Int) = (x7.length : Int) then ((codewrightref24_Inside.f k x7 (rd_L1 x5 x10)).bind fun t109 => (codewrightref24_Supports.l2 k x0 x1 x5 x6 x7 t109 (wrap64 (x10 + 1)))) else (codewrightref24_Supports.l2 k x0 x1 x5 x6 x7 false (wrap64 (x10 + 1)))) else (none))) else (if (x7.length : Int) = x1 then (if x9 = true then (codewrightref24_Supports.l0 k x0 x1 x5 (wrap64 (x6 + 1))) else (if x5.length < 5864062014805 then (codewrightref24_Supports.l0 k x0 x1 (x5 ++ [x7]) (wrap64 (x6 + 1))) else (none))) else (codewrightref24_Supports.l0 k x0 x1 x5 (wrap64 (x6 + 1))))
end
def codewrightref24_Supports.f (k : Nat) (l0 : List (List Int)) (a1 : Int) : Option ((List (List Int))) := codewrightref24_Supports.l0 k l0 a1 ([] : List (List Int)) 0
/-! ### nat_shift -/
def nat_shift.l0 : Nat → List Int → Int → List Int → Int → List Int → Int → Int → Option (List Int)
  | 0, _, _, _, _, _, _, _ => none
  | k + 1, x0, x1, x5, x6, x14, x15, x16 => if x16 < x15 then (if 0 ≤ x16 then (if x16 < (x14.length : Int) then (if 0 ≤ x1 then (if x16 < (x5.length : Int) then (nat_shift.l0 k x0 x1 (x5.set (x16 : Int).toNat ((Go.bits .or .u64 (shl .u64 (IntKind.u64.wrap (rd x14 x16)) x1) x6) % 4294967296)) ((Go.bits .or .u64 (shl .u64 (IntKind.u64.wrap (rd x14 x16)) x1) x6) / 4294967296) x14 x15 (wrap64 (x16 + 1))) else (none)) else (none)) else (none)) else (none)) else (if 0 ≤ (x0.length : Int) then (if (x0.length : Int) < (x5.length : Int) then (some (x5.set ((x0.length : Int) : Int).toNat ((x6) % 4294967296))) else (none)) else (none))
def nat_shift.f (k : Nat) (l0 : List Int) (a1 : Int) : Option (List Int) := if 0 ≤ (wrap64 ((l0.length : Int) + 1)) then (if (wrap64 ((l0.length : Int) + 1) : Int).toNat ≤ 70368744177664 then (nat_shift.l0 k l0 a1 (List.replicate (wrap64 ((l0.length : Int) + 1) : Int).toNat 0) 0 l0 (l0.length : Int) 0) else (none)) else (none)
/-! ### nat_step -/
mutual
def nat_step.j1 : Nat → List Int → List Int → Int → Int → Option (Int × List Int)
  | 0, _, _, _, _ => none
  | k + 1, x0, x1, x5, x7 => nat_step.l1 k x0 x1 x5 x7 0 0 (x1.length : Int) 0
def nat_step.l1 : Nat → List Int → List Int → Int → Int → Int → Int → Int → Int → Option (Int × List Int)
  | 0, _, _, _, _, _, _, _, _ => none
  | k + 1, x0, x1, x5, x7, x9, x10, x85, x86 => if x86 < x85 then (if 0 ≤ x86 then (if x86 < (x1.length : Int) then (if x86 < (x0.length : Int) then (nat_step.l1 k (x0.set (x86 : Int).toNat ((IntKind.u64.wrap ((IntKind.u64.wrap ((IntKind.u64.wrap (rd x0 x86)) - ((IntKind.u64.wrap ((IntKind.u64.wrap (x7 * (IntKind.u64.wrap (rd x1 x86)))) + x10)) % 4294967296))) - x9)) % 4294967296)) x1 x5 x7 ((IntKind.u64.wrap ((IntKind.u64.wrap ((IntKind.u64.wrap (rd x0 x86)) - ((IntKind.u64.wrap ((IntKind.u64.wrap (x7 * (IntKind.u64.wrap (rd x1 x86)))) + x10)) % 4294967296))) - x9)) / 9223372036854775808) ((IntKind.u64.wrap ((IntKind.u64.wrap (x7 * (IntKind.u64.wrap (rd x1 x86)))) + x10)) / 4294967296) x85 (wrap64 (x86 + 1))) else (none)) else (none)) else (none)) else (if 0 ≤ x5 then (if x5 < (x0.length : Int) then ((some (x0.set (x5 : Int).toNat ((IntKind.u64.wrap ((IntKind.u64.wrap ((IntKind.u64.wrap (rd x0 x5)) - x10)) - x9)) % 4294967296) : List Int)).bind fun y113 => (if ((IntKind.u64.wrap ((IntKind.u64.wrap ((IntKind.u64.wrap (rd x0 x5)) - x10)) - x9)) / 9223372036854775808) = 0 then (some ((x7) % 4294967296, y113)) else (nat_step.l2 k y113 x1 x5 x7 0 (x1.length : Int) 0))) else (none)) else (none))
def nat_step.l2 : Nat → List Int → List Int → Int → Int → Int → Int → Int → Option (Int × List Int)
  | 0, _, _, _, _, _, _, _ => none
  | k + 1, x0, x1, x5, x7, x10, x139, x140 => if x140 < x139 then (if 0 ≤ x140 then (if x140 < (x0.length : Int) then (if x140 < (x1.length : Int) then (nat_step.l2 k (x0.set (x140 : Int).toNat ((IntKind.u64.wrap ((IntKind.u64.wrap ((IntKind.u64.wrap (rd x0 x140)) + (IntKind.u64.wrap (rd x1 x140)))) + x10)) % 4294967296)) x1 x5 x7 ((IntKind.u64.wrap ((IntKind.u64.wrap ((IntKind.u64.wrap (rd x0 x140)) + (IntKind.u64.wrap (rd x1 x140)))) + x10)) / 4294967296) x139 (wrap64 (x140 + 1))) else (none)) else (none)) else (none)) else (if 0 ≤ x5 then (if x5 < (x0.length : Int) then (some ((IntKind.u64.wrap (x7 - 1)) % 4294967296, (x0.set (x5 : Int).toNat (((rd x0 x5) + ((x10) % 4294967296)) % 4294967296)))) else (none)) else (none))
def nat_step.l0 : Nat → List Int → List Int → Int → Int → Int → Option (Int × List Int)
  | 0, _, _, _, _, _ => none
  | k + 1, x0, x1, x5, x7, x8 => if x8 < 4294967296 then (if x7 ≥ 4294967296 then (if 0 ≤ (wrap64 (x5 - 1)) then (if (wrap64 (x5 - 1)) < (x1.length : Int) then (nat_step.l0 k x0 x1 x5 (IntKind.u64.wrap (x7 - 1)) (IntKind.u64.wrap (x8 + (IntKind.u64.wrap (rd x1 (wrap64 (x5 - 1))))))) else (none)) else (none)) else (if 0 ≤ (wrap64 (x5 - 2)) then (if (wrap64 (x5 - 2)) < (x1.length : Int) then (if (wrap64 (x5 - 2)) < (x0.length : Int) then (if (IntKind.u64.wrap (x7 * (IntKind.u64.wrap (rd x1 (wrap64 (x5 - 2)))))) > (Go.bits .or .u64 (IntKind.u64.wrap (x8 * 4294967296)) (IntKind.u64.wrap (rd x0 (wrap64 (x5 - 2))))) then (if 0 ≤ (wrap64 (x5 - 1)) then (if (wrap64 (x5 - 1)) < (x1.length : Int) then (nat_step.l0 k x0 x1 x5 (IntKind.u64.wrap (x7 - 1)) (IntKind.u64.wrap (x8 + (IntKind.u64.wrap (rd x1 (wrap64 (x5 - 1))))))) else (none)) else (none)) else (nat_step.j1 k x0 x1 x5 x7)) else (none)) else (none)) else (none))) else (nat_step.j1 k x0 x1 x5 x7)
end
def nat_step.f (k : Nat) (l0 : List Int) (l1 : List Int) : Option (Int × List Int) := if 0 ≤ (l1.length : Int) then (if (l1.length : Int) < (l0.length : Int) then (if 0 ≤ (wrap64 ((l1.length : Int) - 1)) then (if (wrap64 ((l1.length : Int) - 1)) < (l0.length : Int) then (if (wrap64 ((l1.length : Int) - 1)) < (l1.length : Int) then (if (IntKind.u64.wrap (rd l1 (wrap64 ((l1.length : Int) - 1)))) = 0 then (none) else (nat_step.l0 k l0 l1 (l1.length : Int) (IntKind.u64.wrap (Int.tdiv (Go.bits .or .u64 (IntKind.u64.wrap ((IntKind.u64.wrap (rd l0 (l1.length : Int))) * 4294967296)) (IntKind.u64.wrap (rd l0 (wrap64 ((l1.length : Int) - 1))))) (IntKind.u64.wrap (rd l1 (wrap64 ((l1.length : Int) - 1)))))) (Int.tmod (Go.bits .or .u64 (IntKind.u64.wrap ((IntKind.u64.wrap (rd l0 (l1.length : Int))) * 4294967296)) (IntKind.u64.wrap (rd l0 (wrap64 ((l1.length : Int) - 1))))) (IntKind.u64.wrap (rd l1 (wrap64 ((l1.length : Int) - 1))))))) else (none)) else (none)) else (none)) else (none)) else (none)
end Go.Proofs.Ytifkbghnmhineaa.PAll

namespace Go.Proofs.Ytifkbghnmhineaa.PAll
open Go.RowKit Go.Proofs.YtifkbghnmhineaaW.PrintWords Go.Proofs.YtifkbghnmhineaaW.PrintLast Go.Proofs.YtifkbghnmhineaaW.PrintMore
attribute [local go_sem] max2_int min2_int max_two min_two max_three min_three max_four min_four   -- for this text's walks alone
set_option linter.unusedVariables false
set_option linter.unusedSimpArgs false

/-! ### macwilliams_shape: function 71 -/
set_option maxHeartbeats 8000000 in
set_option maxRecDepth 100000 in
theorem macwilliams_shape.calls (a0 : Int) (r : Int) (w : World) (h : macwilliams_shape.f a0 = some r) :
    Calls Try.prog 71 #[.int .i64 a0] w fun e w' => e = .returned (.int .i64 r) ∧ Drawn0 w w' := by
  have H : (if a0 < 1 then (some 3) else (if a0 > 65 then (some 3) else (some 0))) = some r := h
  clear h
  by_cases c2 : a0 < 1
  · rw [if_pos c2] at H
    have c2b0 : decide (a0 < 1) = true := decide_eq_true c2
    clear c2
    obtain rfl := Option.some.inj H
    go_enter Try.func71, Try.ntmps71
    go_wp2
    go_ret
    exact ⟨by first | rfl | (simp; done) | (simp [*]; done), by repeat (first | exact Drawn0.refl _ | apply Drawn0.step)⟩
  · rw [if_neg c2] at H
    have c2b0 : decide (a0 < 1) = false := decide_eq_false c2
    clear c2
    by_cases c3 : a0 > 65
    · rw [if_pos c3] at H
      have c3b0 : decide (65 < a0) = true := decide_eq_true c3
      clear c3
      obtain rfl := Option.some.inj H
      go_enter Try.func71, Try.ntmps71
      go_wp2
      go_ret
      exact ⟨by first | rfl | (simp; done) | (simp [*]; done), by repeat (first | exact Drawn0.refl _ | apply Drawn0.step)⟩
    · rw [if_neg c3] at H
      have c3b0 : decide (65 < a0) = false := decide_eq_false c3
      clear c3
      obtain rfl := Option.some.inj H
      go_enter Try.func71, Try.ntmps71
      go_wp2
      go_ret
      exact ⟨by first | rfl | (simp; done) | (simp [*]; done), by repeat (first | exact Drawn0.refl _ | apply Drawn0.step)⟩

end Go.Proofs.Ytifkbghnmhineaa.PAll

namespace Go.Proofs.Ytifkbghnmhineaa.PAll
open Go.RowKit Go.Proofs.YtifkbghnmhineaaW.PrintWords Go.Proofs.YtifkbghnmhineaaW.PrintLast Go.Proofs.YtifkbghnmhineaaW.PrintMore
attribute [local go_sem] max2_int min2_int max_two min_two max_three min_three max_four min_four   -- for this text's walks alone
set_option linter.unusedVariables false
set_option linter.unusedSimpArgs false

/-! ### nat_short: function 118 -/
set_option maxHeartbeats 8000000 in
set_option maxRecDepth 100000 in
theorem nat_short.calls (k : Nat) (P0_ : Nat → Prop) (A0 : Option Addr) (c0 : Nat) (l0 : List Int) (r : List Int) (w : World) (hs0 : Kd.V (Kd.int .u32) 97 w w.heap.size (fun k_ => P0_ k_) (.slice A0 l0.length c0) l0) (h : nat_short.f k l0 = some r) :
    Calls Try.prog 118 #[.slice A0 l0.length c0] w fun e w' => ∃ v0_ : Value, e = .returned (v0_) ∧ Kd.V (Kd.int .u32) 97 w' w.heap.size (fun k_ => (P0_ k_ ∨ w.heap.size ≤ k_)) v0_ r ∧ Below w.heap.size w w' := by
  have HO0 := Aside0.mk (show Kd.V (Kd.int .u32) 97 w w.heap.size (fun k_ => (P0_ k_ ∨ w.heap.size ≤ k_)) (.slice A0 l0.length c0) l0 from Kd.V_mono hs0 (fun k_ hk => .inl hk))
  have HB := Aside0.mk (Below.refl w.heap.size w)
  have H : (nat_short.l0 k l0 (l0.length : Int)) = some r := h
  clear h
  have H' := Aside0.mk H
  clear H
  go_enter Try.func118, Try.ntmps118
  go_wp2
  go_loopg [3] k (fun kq v3 w' => ∃ (x3_1 : Int), v3 = .int .i64 x3_1 ∧ Aside0 (nat_short.l0 kq l0 x3_1 = some r) ∧ Aside0 (kq ≤ k) ∧ Aside0 (Kd.V (Kd.int .u32) 97 w' w.heap.size (fun k_ => (P0_ k_ ∨ w.heap.size ≤ k_)) (.slice A0 l0.length c0) l0) ∧ Aside0 (Below w.heap.size w w'))
  case atStart => exact ⟨((l0.length : Int)), (by first | rfl | (simp; done) | (simp [*]; done)), H', ⟨Nat.le_refl _⟩, ⟨by (with_reducible repeat (first | apply Kd.V_alloc | apply Kd.V_drewN | apply Kd.V_drew)); exact HO0.out⟩, ⟨by repeat (first | (with_reducible first | exact HB.out | apply below_alloc | apply pw_below_drewN | apply below_drew1) | exact HB.out)⟩⟩
  case round =>
    clear H'
    try clear c1
    obtain ⟨x3_1, rfl, HA, HK1, HO_0, HB⟩ := hrel
    cases gk with
    | zero => exact absurd HA.out (by simp [nat_short.l0])
    | succ k1 =>
      have H := HA.out
      clear HA
      simp only [nat_short.l0] at H
      by_cases c2 : x3_1 > 0
      · rw [if_pos c2] at H
        have c2b0 : decide (0 < x3_1) = true := decide_eq_true c2
        clear c2
        obtain ⟨ji3, hji3⟩ : ∃ j_ : Int, (wrap64 (x3_1 - 1)) = j_ := ⟨_, rfl⟩
        replace H : (if 0 ≤ (ji3) then (if (ji3) < (l0.length : Int) then (if (rd l0 (ji3)) = 0 then (nat_short.l0 k1 l0 ji3) else (if 0 ≤ x3_1 then (if x3_1 ≤ (l0.length : Int) then (some (l0.take (x3_1 : Int).toNat)) else (none)) else (none))) else (none)) else (none)) = some r := by first | (rw [hji3] at H; exact H) | (simp only [hji3] at H ⊢; exact H)
        have hji3w : (IntKind.i64.wrap (x3_1 - 1)) = ji3 := (i64_w _).trans hji3
        by_cases c4 : 0 ≤ (ji3)
        · rw [if_pos c4] at H
          have c4b0 : decide (0 ≤ (ji3)) = true := decide_eq_true c4
          clear c4
          by_cases c5 : (ji3) < (l0.length : Int)
          · rw [if_pos c5] at H
            have c5b0 : decide ((ji3) < (l0.length : Int)) = true := decide_eq_true c5
            clear c5
            by_cases c6 : (rd l0 (ji3)) = 0
            · rw [if_pos c6] at H
              have c6b0 : ((rd l0 (ji3)) == 0) = true := beq_iff_eq.mpr c6
              have c6b1 : ((rd l0 (ji3)) != 0) = false := bne_eq_false_iff_eq.mpr c6
              clear c6
              have H' := Aside0.mk H
              clear H
              have p101 : 0 ≤ ((ji3) : Int) := of_decide_eq_true (by first | (with_reducible assumption) | assumption)
              have q101 : (ji3) < (l0.length : Int) := of_decide_eq_true (by first | (with_reducible assumption) | assumption)
              obtain ⟨ad101, e101, hx101_0⟩ := Kd.at_int (Kd.V_reads' HO_0.out).2.2 (ji3) p101 q101
              cases e101
              replace p101 := eq_true p101
              replace q101 := eq_true q101
              go_wp2
              go_roundg k1
              case measure => have := HK1.out; omega
              case rel => exact ⟨(ji3), (by first | rfl | (simp; done) | (simp only [← hji3] <;> (first | rfl | simp)) | (simp [*]; done)), H', ⟨by have := HK1.out; omega⟩, ⟨by (with_reducible repeat (first | apply Kd.V_alloc | apply Kd.V_drewN | apply Kd.V_drew)); exact HO_0.out⟩, ⟨by repeat (first | (with_reducible first | exact HB.out | apply below_alloc | apply pw_below_drewN | apply below_drew1) | exact HB.out)⟩⟩
            · rw [if_neg c6] at H
              have c6b0 : ((rd l0 (ji3)) == 0) = false := beq_eq_false_iff_ne.mpr c6
              have c6b1 : ((rd l0 (ji3)) != 0) = true := bne_iff_ne.mpr c6
              by_cases c7 : 0 ≤ x3_1
              · rw [if_pos c7] at H
                have c7b0 := eq_true c7
                have c7b1 : decide (0 ≤ x3_1) = true := decide_eq_true c7
                clear c7
                by_cases c8 : x3_1 ≤ (l0.length : Int)
                · rw [if_pos c8] at H
                  have c8b0 := eq_true c8
                  have c8b1 : decide (x3_1 ≤ (l0.length : Int)) = true := decide_eq_true c8
                  clear c8
                  obtain ⟨y102, hy102⟩ : ∃ y_ : List Int, y_ = (l0.take (x3_1 : Int).toNat) := ⟨_, rfl⟩
                  replace H : (some y102) = some r := by first | (rw [hy102]; with_reducible exact H) | (have H2_ := (Option.bind_some _ _).symm.trans H; rw [hy102]; with_reducible exact H2_) | (have H2_ := (Option.bind_some _ _).symm.trans H; with_reducible exact H2_) | with_reducible exact H | (rw [hy102]; exact H) | exact H
                  have Ny102 := Aside0.mk hy102
                  clear hy102
                  obtain rfl := Option.some.inj H
                  have p101 : 0 ≤ ((ji3) : Int) := of_decide_eq_true (by first | (with_reducible assumption) | assumption)
                  have q101 : (ji3) < (l0.length : Int) := of_decide_eq_true (by first | (with_reducible assumption) | assumption)
                  obtain ⟨ad101, e101, hx101_0⟩ := Kd.at_int (Kd.V_reads' HO_0.out).2.2 (ji3) p101 q101
                  cases e101
                  replace p101 := eq_true p101
                  replace q101 := eq_true q101
                  have q9 : (x3_1 : Int) ≤ ((l0.length : Int) : Int) := of_decide_eq_true (by first | (with_reducible assumption) | assumption)
                  obtain ⟨i09, hi09, _, hsz9, _⟩ := info_parts info97
                  have hroom9 : l0.length ≤ c0 := (Kd.V_reads' HO_0.out).2.1
                  have hC9 : Kd.F (Kd.int .u32) _ _ (some ad101) l0.length l0 := (Kd.V_at (base := w.heap.size) HO_0.out).2.2
                  have hcut9 := Mw.cut_to_max (P := Try.prog) 29 97 .i64 Try.underlying29 hi09 (some ad101) l0.length c0 x3_1 (of_decide_eq_true (by first | (with_reducible assumption) | assumption)) q9 hroom9
                  have hr9 := Kd.F_take (m := (x3_1 : Int).toNat) hC9 (by omega)
                  have hy9 : y102.length = (x3_1 : Int).toNat := (by rw [Ny102.out, List.length_take]; omega)
                  rw [← Ny102.out] at hr9
                  rw [← hy9] at hcut9
                  have HO106 := Aside0.mk (show Kd.V (Kd.int .u32) 97 _ w.heap.size _ (.slice (some ad101) y102.length y102.length) y102 from Kd.V_mk (by omega) hr9)
                  have HC106 := Aside0.mk (show y102.length ≤ y102.length from by omega)
                  clear hr9 hC9 hroom9 hi09 hsz9
                  have KY9 := Aside0.mk hy9
                  clear hy9
                  replace q9 := eq_true q9
                  go_wp2
                  go_ret
                  exact ⟨_, by first | rfl | (simp [errW_none, errW_some] <;> rfl) | (simp only [← hji3]; first | rfl | (simp [errW_none, errW_some] <;> rfl)) | (simp [*, errW_none, errW_some] <;> rfl), by (with_reducible repeat (first | apply Kd.V_alloc | apply Kd.V_drewN | apply Kd.V_drew)); exact HO106.out, by repeat (first | (with_reducible first | exact HB.out | apply below_alloc | apply pw_below_drewN | apply below_drew1) | exact HB.out)⟩
                · rw [if_neg c8] at H
                  exact absurd H (by simp)
              · rw [if_neg c7] at H
                exact absurd H (by simp)
          · rw [if_neg c5] at H
            exact absurd H (by simp)
        · rw [if_neg c4] at H
          exact absurd H (by simp)
      · rw [if_neg c2] at H
        have c2b0 : decide (0 < x3_1) = false := decide_eq_false c2
        clear c2
        by_cases c10 : 0 ≤ x3_1
        · rw [if_pos c10] at H
          have c10b0 := eq_true c10
          have c10b1 : decide (0 ≤ x3_1) = true := decide_eq_true c10
          clear c10
          by_cases c11 : x3_1 ≤ (l0.length : Int)
          · rw [if_pos c11] at H
            have c11b0 := eq_true c11
            have c11b1 : decide (x3_1 ≤ (l0.length : Int)) = true := decide_eq_true c11
            clear c11
            obtain ⟨y107, hy107⟩ : ∃ y_ : List Int, y_ = (l0.take (x3_1 : Int).toNat) := ⟨_, rfl⟩
            replace H : (some y107) = some r := by first | (rw [hy107]; with_reducible exact H) | (have H2_ := (Option.bind_some _ _).symm.trans H; rw [hy107]; with_reducible exact H2_) | (have H2_ := (Option.bind_some _ _).symm.trans H; with_reducible exact H2_) | with_reducible exact H | (rw [hy107]; exact H) | exact H
            have Ny107 := Aside0.mk hy107
            clear hy107
            obtain rfl := Option.some.inj H
            have q12 : (x3_1 : Int) ≤ ((l0.length : Int) : Int) := of_decide_eq_true (by first | (with_reducible assumption) | assumption)
            obtain ⟨i012, hi012, _, hsz12, _⟩ := info_parts info97
            have hroom12 : l0.length ≤ c0 := (Kd.V_reads' HO_0.out).2.1
            have hC12 : Kd.F (Kd.int .u32) _ _ A0 l0.length l0 := (Kd.V_at (base := w.heap.size) HO_0.out).2.2
            have hcut12 := Mw.cut_to_max (P := Try.prog) 29 97 .i64 Try.underlying29 hi012 A0 l0.length c0 x3_1 (of_decide_eq_true (by first | (with_reducible assumption) | assumption)) q12 hroom12
            have hr12 := Kd.F_take (m := (x3_1 : Int).toNat) hC12 (by omega)
            have hy12 : y107.length = (x3_1 : Int).toNat := (by rw [Ny107.out, List.length_take]; omega)
            rw [← Ny107.out] at hr12
            rw [← hy12] at hcut12
            have HO111 := Aside0.mk (show Kd.V (Kd.int .u32) 97 _ w.heap.size _ (.slice A0 y107.length y107.length) y107 from Kd.V_mk (by omega) hr12)
            have HC111 := Aside0.mk (show y107.length ≤ y107.length from by omega)
            clear hr12 hC12 hroom12 hi012 hsz12
            have KY12 := Aside0.mk hy12
            clear hy12
            replace q12 := eq_true q12
            go_wp2
            go_ret
            exact ⟨_, by first | rfl | (simp [errW_none, errW_some] <;> rfl) | (simp [*, errW_none, errW_some] <;> rfl), by (with_reducible repeat (first | apply Kd.V_alloc | apply Kd.V_drewN | apply Kd.V_drew)); exact HO111.out, by repeat (first | (with_reducible first | exact HB.out | apply below_alloc | apply pw_below_drewN | apply below_drew1) | exact HB.out)⟩
          · rw [if_neg c11] at H
            exact absurd H (by simp)
        · rw [if_neg c10] at H
          exact absurd H (by simp)

end Go.Proofs.Ytifkbghnmhineaa.PAll

namespace Go.Proofs.Ytifkbghnmhineaa.PAll
open Go.RowKit Go.Proofs.YtifkbghnmhineaaW.PrintWords Go.Proofs.YtifkbghnmhineaaW.PrintLast Go.Proofs.YtifkbghnmhineaaW.PrintMore
attribute [local go_sem] max2_int min2_int max_two min_two max_three min_three max_four min_four   -- for this text's walks alone
set_option linter.unusedVariables false
set_option linter.unusedSimpArgs false

/-! ### nat_Trim: function 103 -/
set_option maxHeartbeats 8000000 in
set_option maxRecDepth 100000 in
theorem nat_Trim.calls (k : Nat) (A0 : Option Addr) (c0 : Nat) (l0 : List Int) (r : List Int) (w : World) (hr0 : Kd.C (Kd.int .u32) w A0 l0.length l0) (hc0 : l0.length ≤ c0) (h : nat_Trim.f k l0 = some r) :
    Calls Try.prog 103 #[.slice A0 l0.length c0] w fun e w' => ∃ v0_ : Value, e = .returned (v0_) ∧ Kd.R (Kd.int .u32) 97 w' w.heap.size (fun _ => True) v0_ r ∧ Below w.heap.size w w' := by
  have HR0 := Aside0.mk hr0
  have HC0 := Aside0.mk hc0
  clear hr0 hc0
  have HB := Aside0.mk (Below.refl w.heap.size w)
  have H : ((nat_short.f k l0).bind fun t101 => (if ([] : List Int).length + t101.length < 35184372088832 then (some (([] : List Int) ++ t101)) else (none))) = some r := h
  clear h
  replace H := Option.bind_eq_some_iff.mp H
  obtain ⟨t101, A20, H⟩ := H
  replace H : (if ([] : List Int).length + t101.length < 35184372088832 then (some (([] : List Int) ++ t101)) else (none)) = some r := H
  have A2 := Aside0.mk A20
  clear A20
  by_cases c3 : ([] : List Int).length + t101.length < 35184372088832
  · rw [if_pos c3] at H
    have LMc3 := Aside0.mk c3
    clear c3
    obtain ⟨y104, hy104⟩ : ∃ y_ : List Int, y_ = (([] : List Int) ++ t101) := ⟨_, rfl⟩
    replace H : (some y104) = some r := by first | (rw [hy104]; with_reducible exact H) | (have H2_ := (Option.bind_some _ _).symm.trans H; rw [hy104]; with_reducible exact H2_) | (have H2_ := (Option.bind_some _ _).symm.trans H; with_reducible exact H2_) | with_reducible exact H | (rw [hy104]; exact H) | exact H
    have Ny104 := Aside0.mk hy104
    clear hy104
    obtain rfl := Option.some.inj H
    go_enter Try.func103, Try.ntmps103
    go_wp2_with (first | ((with_reducible refine gate_callee (f := 118) rfl ?_); refine goesL_ (some 4) rfl rfl Try.func118 (by kernel_rfl) rfl #[.slice A0 l0.length c0] rfl (by (try simp only [List.map_toArray, List.map_cons, List.map_nil]); first | done | rfl | (simp only [List.length_drop, List.length_take]; rfl)) ?_; (with_reducible refine (nat_short.calls k (fun k_ => k_ < w.heap.size) _ _ l0 t101 _ ?side1 A2.out).mono ?_); (case side1 => exact Kd.V_mk HC0.out (Kd.F_below (Kd.C_F (Kd.heap_int .u32) HR0.out) (by repeat (first | (with_reducible first | exact HB.out | apply below_alloc | apply pw_below_drewN | apply below_drew1) | exact HB.out)))); rintro e w4 ⟨v102, rfl, ho0, hb⟩; refine ⟨_, rfl, ?_⟩; have n0_ := Aside0.mk (Kd.V_lower (Kd.V_mono (ok' := fun k_ => True) ho0 (fun k_ hk_ => trivial)) (below_size (by repeat (first | (with_reducible first | exact HB.out | apply below_alloc | apply pw_below_drewN | apply below_drew1) | exact HB.out)))); have n1_ := Aside0.mk (below_step (by repeat (first | (with_reducible first | exact HB.out | apply below_alloc | apply pw_below_drewN | apply below_drew1) | exact HB.out)) hb); clear HB; have HO103 := n0_; have HB := n1_; clear n0_ n1_; (try clear hb); (try clear hb2); (try clear hk); (try clear hi); (try clear ho0); obtain ⟨Ao6, co6, eo6⟩ := Kd.V_slice HO103.out; subst eo6) | ((with_reducible refine gate_builtin (b := .append) (xs := #[.const (.slice none 0 0), .tmp 4]) rfl ?_); at_builtin; refine Kd.R_append_rows (Kd.int .u32) (w0 := w) w.heap.size rfl (.const (.slice none 0 0)) (.tmp 4) 29 97 (.int .u32 0) 4 rfl Try.underlying29 info97 rfl (by decide) (by omega) (.slice none 0 0) ([] : List Int) t101 _ _ _ (fun _ => True) (fun _ => False) rfl rfl ?aO ?aR (fun _ _ h => h) (fun _ h => h.elim) ?aF ?aB ?aS ?aL ?_; (case aR => repeat (first | exact (Kd.V_reads' HO103.out).2.2 | (with_reducible refine Kd.C_alloc ?_ _) | (with_reducible refine Kd.C_drewN ?_ _) | (with_reducible refine Kd.C_drew ?_))); (case aB => exact (by repeat (first | (with_reducible first | exact HB.out | apply below_alloc | apply pw_below_drewN | apply below_drew1) | exact HB.out))); (case aF => exact (fun _ _ => trivial)); (case aO => exact ((Kd.R_nil _ _ _ _ (fun _ => True)))); (case aS => exact (below_size (by repeat (first | (with_reducible first | exact HB.out | apply below_alloc | apply pw_below_drewN | apply below_drew1) | exact HB.out)))); (case aL => have := LMc3.out; omega); intro v105 w5 ho hb hg hat; rw [← Ny104.out] at ho; have n0_ := Aside0.mk (Kd.V_afterv (Kd.V_apart_nil (by (with_reducible repeat (first | apply Kd.V_alloc | apply Kd.V_drewN | apply Kd.V_drew)); exact HO103.out)) hg hat); have n1_ := Aside0.mk (hb); have n2_ := Aside0.mk (ho); clear HO103; clear HB; have HO103 := n0_; have HB := n1_; have HO106 := n2_; clear n0_ n1_ n2_; clear ho hb hg hat))
    go_ret
    exact ⟨_, by first | rfl | (simp [errW_none, errW_some] <;> rfl) | (simp [*, errW_none, errW_some] <;> rfl), by (with_reducible repeat (first | apply Kd.R_alloc | apply Kd.R_drewN | apply Kd.R_drew)); exact HO106.out, by repeat (first | (with_reducible first | exact HB.out | apply below_alloc | apply pw_below_drewN | apply below_drew1) | exact HB.out)⟩
  · rw [if_neg c3] at H
    exact absurd H (by simp)

end Go.Proofs.Ytifkbghnmhineaa.PAll

namespace Go.Proofs.Ytifkbghnmhineaa.PAll
open Go.RowKit Go.Proofs.YtifkbghnmhineaaW.PrintWords Go.Proofs.YtifkbghnmhineaaW.PrintLast Go.Proofs.YtifkbghnmhineaaW.PrintMore
attribute [local go_sem] max2_int min2_int max_two min_two max_three min_three max_four min_four   -- for this text's walks alone
set_option linter.unusedVariables false
set_option linter.unusedSimpArgs false

/-! ### nat_digit: function 115 -/
set_option maxHeartbeats 8000000 in
set_option maxRecDepth 100000 in
theorem nat_digit.calls (k : Nat) (A0 : Option Addr) (c0 : Nat) (l0 : List Int) (a1 : Int) (r1 : List Int) (r2 : Int) (w : World) (hr0 : Kd.C (Kd.int .u32) w A0 l0.length l0) (hc0 : l0.length ≤ c0) (h : nat_digit.f k l0 a1 = some (r1, r2)) :
    Calls Try.prog 115 #[.slice A0 l0.length c0, .int .u32 a1] w fun e w' => ∃ v0_ : Value, e = .returned (.tuple #[v0_, .int .u32 r2]) ∧ Kd.V (Kd.int .u32) 97 w' w.heap.size (fun k_ => (w.heap.size ≤ k_)) v0_ r1 ∧ Below w.heap.size w w' := by
  have HR0 := Aside0.mk hr0
  have HC0 := Aside0.mk hc0
  clear hr0 hc0
  have HB := Aside0.mk (Below.refl w.heap.size w)
  have H : (if 0 ≤ (l0.length : Int) then (if ((l0.length : Int) : Int).toNat ≤ 70368744177664 then (nat_digit.l0 k l0 a1 (List.replicate ((l0.length : Int) : Int).toNat 0) 0 (wrap64 ((l0.length : Int) - 1))) else (none)) else (none)) = some (r1, r2) := h
  clear h
  by_cases c3 : 0 ≤ (l0.length : Int)
  · rw [if_pos c3] at H
    have c3b0 := eq_true c3
    have c3b1 : decide (0 ≤ (l0.length : Int)) = true := decide_eq_true c3
    clear c3
    by_cases c4 : ((l0.length : Int) : Int).toNat ≤ 70368744177664
    · rw [if_pos c4] at H
      have c4b0 := eq_true c4
      have c4b1 : decide (((l0.length : Int) : Int).toNat ≤ 70368744177664) = true := decide_eq_true c4
      clear c4
      obtain ⟨y101, hy101⟩ : ∃ y_ : List Int, y_ = (List.replicate ((l0.length : Int) : Int).toNat 0) := ⟨_, rfl⟩
      replace H : (nat_digit.l0 k l0 a1 y101 0 (wrap64 ((l0.length : Int) - 1))) = some (r1, r2) := by first | (rw [hy101]; with_reducible exact H) | (have H2_ := (Option.bind_some _ _).symm.trans H; rw [hy101]; with_reducible exact H2_) | (have H2_ := (Option.bind_some _ _).symm.trans H; with_reducible exact H2_) | with_reducible exact H | (rw [hy101]; exact H) | exact H
      have Ny101 := Aside0.mk hy101
      clear hy101
      have H' := Aside0.mk H
      clear H
      go_enter Try.func115, Try.ntmps115
      go_wp2_with (first | ((with_reducible refine gate_dst (N := 11) rfl ?_); refine Kd.R_make (Kd.int .u32) _ 97 rfl (N := 11) rfl 29 _ _ rfl (l0.length : Int) rfl rfl Try.underlying29 (.int .u32 0) 4 info97 rfl (by decide) (by omega) 0 (ok := fun _ => True) (okp := fun _ => True) rfl (fun _ hk => hk) trivial (of_decide_eq_true (by first | (with_reducible assumption) | assumption)) (Nat.le_trans (Nat.mul_le_mul_right _ (of_decide_eq_true (by first | (with_reducible assumption) | assumption) : (l0.length : Int).toNat ≤ 70368744177664)) (by omega)) (Below.refl _ _) (Nat.le_refl _) ?_; intro v102 w5 ho6 hb hg_ hnew_; clear hg_ hnew_; (first | rw [← Ny101.out] at ho6 | (simp only [Int.reduceToNat] at ho6; rw [← Ny101.out] at ho6)); have n0_ := Aside0.mk (Kd.R_lower (Kd.R_newM (M := fun k_ => (w.heap.size ≤ k_)) ho6 (below_size (by repeat (first | (with_reducible first | exact HB.out | apply below_alloc | apply pw_below_drewN | apply below_drew1) | exact HB.out))) (fun k_ h_ => h_)) (below_size (by repeat (first | (with_reducible first | exact HB.out | apply below_alloc | apply pw_below_drewN | apply below_drew1) | exact HB.out)))); have n1_ := Aside0.mk (below_step (by repeat (first | (with_reducible first | exact HB.out | apply below_alloc | apply pw_below_drewN | apply below_drew1) | exact HB.out)) hb); clear HB; have HO103 := n0_; have HB := n1_; clear n0_ n1_; clear hb ho6))
      go_loopg [7, 8] k (fun kq v7 v8 w' => ∃ (x6_1 : List Int) (x7_1 : Int) (x8_1 : Int), v7 = .int .u64 x7_1 ∧ v8 = .int .i64 x8_1 ∧ Aside0 (nat_digit.l0 kq l0 a1 x6_1 x7_1 x8_1 = some (r1, r2)) ∧ Aside0 (kq ≤ k) ∧ Aside0 (Kd.R (Kd.int .u32) 97 w' w.heap.size (fun k_ => (w.heap.size ≤ k_)) v102 x6_1) ∧ Aside0 (Below w.heap.size w w'))
      case atStart => exact ⟨(y101), (0), (wrap64 ((l0.length : Int) - 1)), (by first | rfl | (simp; done) | (simp [*]; done)), (by first | rfl | (simp; done) | (simp [*]; done)), H', ⟨Nat.le_refl _⟩, ⟨by (with_reducible repeat (first | apply Kd.R_alloc | apply Kd.R_drewN | apply Kd.R_drew)); exact Kd.R_mono HO103.out (fun _ hk => hk.1)⟩, ⟨by repeat (first | (with_reducible first | exact HB.out | apply below_alloc | apply pw_below_drewN | apply below_drew1) | exact HB.out)⟩⟩
      case round =>
        clear H'
        try clear c1
        try clear p2
        try clear c3
        try clear c3b0
        try clear c3b1
        try clear c4
        try clear c4b0
        try clear c4b1
        try clear p6
        obtain ⟨x6_1, x7_1, x8_1, rfl, rfl, HA, HK1, HO_6, HB⟩ := hrel
        cases gk with
        | zero => exact absurd HA.out (by simp [nat_digit.l0])
        | succ k1 =>
          have H := HA.out
          clear HA
          simp only [nat_digit.l0] at H
          by_cases c7 : x8_1 ≥ 0
          · rw [if_pos c7] at H
            have c7b0 : decide (0 ≤ x8_1) = true := decide_eq_true c7
            clear c7
            by_cases c8 : 0 ≤ x8_1
            · rw [if_pos c8] at H
              have c8b0 : decide (0 ≤ x8_1) = true := decide_eq_true c8
              clear c8
              by_cases c9 : x8_1 < (l0.length : Int)
              · rw [if_pos c9] at H
                have c9b0 : decide (x8_1 < (l0.length : Int)) = true := decide_eq_true c9
                clear c9
                by_cases c10 : (IntKind.u64.wrap (a1)) = 0
                · rw [if_pos c10] at H
                  exact absurd H (by simp)
                · rw [if_neg c10] at H
                  have c10b0 : ((IntKind.u64.wrap (a1)) == 0) = false := beq_eq_false_iff_ne.mpr c10
                  have c10b1 : ((IntKind.u64.wrap (a1)) != 0) = true := bne_iff_ne.mpr c10
                  by_cases c11 : x8_1 < (x6_1.length : Int)
                  · rw [if_pos c11] at H
                    have c11b0 : decide (x8_1 < (x6_1.length : Int)) = true := decide_eq_true c11
                    clear c11
                    obtain ⟨y105, hy105⟩ : ∃ y_ : List Int, y_ = (x6_1.set (x8_1 : Int).toNat ((IntKind.u64.wrap (Int.tdiv (Go.bits .or .u64 (IntKind.u64.wrap (x7_1 * 4294967296)) (IntKind.u64.wrap (rd l0 x8_1))) (IntKind.u64.wrap (a1)))) % 4294967296)) := ⟨_, rfl⟩
                    replace H : (nat_digit.l0 k1 l0 a1 y105 (Int.tmod (Go.bits .or .u64 (IntKind.u64.wrap (x7_1 * 4294967296)) (IntKind.u64.wrap (rd l0 x8_1))) (IntKind.u64.wrap (a1))) (wrap64 (x8_1 - 1))) = some (r1, r2) := by first | (rw [hy105]; with_reducible exact H) | (have H2_ := (Option.bind_some _ _).symm.trans H; rw [hy105]; with_reducible exact H2_) | (have H2_ := (Option.bind_some _ _).symm.trans H; with_reducible exact H2_) | with_reducible exact H | (rw [hy105]; exact H) | exact H
                    have Ny105 := Aside0.mk hy105
                    clear hy105
                    have H' := Aside0.mk H
                    clear H
                    have p104 : 0 ≤ (x8_1 : Int) := of_decide_eq_true (by first | (with_reducible assumption) | assumption)
                    have q104 : x8_1 < (l0.length : Int) := of_decide_eq_true (by first | (with_reducible assumption) | assumption)
                    obtain ⟨ad104, e104, hx104_0⟩ := Kd.at_int HR0.out x8_1 p104 q104
                    cases e104
                    replace hx104_0 := (HB.out.cell (World.block_lt_of_cell? w _ hx104_0)).trans hx104_0
                    replace p104 := eq_true p104
                    replace q104 := eq_true q104
                    have p12 : 0 ≤ (x8_1 : Int) := of_decide_eq_true (by first | (with_reducible assumption) | assumption)
                    have q12 : (x8_1 : Int) < ((x6_1.length : Int) : Int) := of_decide_eq_true (by first | (with_reducible assumption) | assumption)
                    obtain ⟨go12, co12, eo12, gb12, gl12, cl12, HG12⟩ := Kd.R_form HO_6.out (by omega)
                    (first | cases eo12 | (injection eo12 with ea_ en_ ec_; (first | subst ea_ | (injection ea_ with ea_; subst ea_)); subst ec_; clear en_))
                    have GB12 := Aside0.mk gb12
                    have GG12 := Aside0.mk HG12
                    clear gb12 gl12 HG12
                    obtain ⟨hx12_0, hf12_0⟩ := Kd.R_celln 0 HO_6.out (x8_1 : Int) p12 q12
                    replace p12 := eq_true p12
                    replace q12 := eq_true q12
                    have HP13 := Kd.R_putg HO_6.out (x8_1 : Int) ((IntKind.u64.wrap (Int.tdiv (Go.bits .or .u64 (IntKind.u64.wrap (x7_1 * 4294967296)) (IntKind.u64.wrap (rd l0 x8_1))) (IntKind.u64.wrap (a1)))) % 4294967296)
                    go_wp2_with (first | ((with_reducible refine gate_store (t := 97) (p := 34) rfl ?_); refine store_event (t := 97) (p := 34) (v := ?vo_w14) (w1 := (wr.setCell ⟨go12, (x8_1 : Int).toNat, none⟩ (.int .u32 ((IntKind.u64.wrap (Int.tdiv (Go.bits .or .u64 (IntKind.u64.wrap (x7_1 * 4294967296)) (IntKind.u64.wrap (rd l0 x8_1))) (IntKind.u64.wrap (a1)))) % 4294967296)))) ?hg ?ho ?hn ?hr ?_; (case ho => rfl); (case hg => rfl); (case hn => rfl); (case hr => first | (go_simp; done) | (go_simp; rfl)); intro w14 hw; have hg : wr.grownBy w14 (some go12) := (by rw [hw]; exact HP13.2); have hp_ : Kd.R (Kd.int .u32) 97 w14 w.heap.size (fun k_ => (w.heap.size ≤ k_)) (.slice (some ⟨go12, 0, none⟩) x6_1.length co12) y105 := (by rw [hw, Ny105.out]; exact HP13.1); clear HP13; have n0_ := Aside0.mk (hp_); have n1_ := Aside0.mk ((by rw [hw]; exact below_set (HB.out) GB12.out : Below w.heap.size w w14)); clear HO_6; clear HB; have HO_6 := n0_; have HB := n1_; clear n0_ n1_; clear hg hw hp_))
                    go_roundg k1
                    case measure => have := HK1.out; omega
                    case rel => exact ⟨(y105), (Int.tmod (Go.bits .or .u64 (IntKind.u64.wrap (x7_1 * 4294967296)) (IntKind.u64.wrap (rd l0 x8_1))) (IntKind.u64.wrap (a1))), (wrap64 (x8_1 - 1)), (by first | rfl | (simp; done) | (simp [*]; done)), (by first | rfl | (simp; done) | (simp [*]; done)), H', ⟨by have := HK1.out; omega⟩, ⟨by (with_reducible repeat (first | apply Kd.R_alloc | apply Kd.R_drewN | apply Kd.R_drew)); exact HO_6.out⟩, ⟨by repeat (first | (with_reducible first | exact HB.out | apply below_alloc | apply pw_below_drewN | apply below_drew1) | exact HB.out)⟩⟩
                  · rw [if_neg c11] at H
                    exact absurd H (by simp)
              · rw [if_neg c9] at H
                exact absurd H (by simp)
            · rw [if_neg c8] at H
              exact absurd H (by simp)
          · rw [if_neg c7] at H
            have c7b0 : decide (0 ≤ x8_1) = false := decide_eq_false c7
            clear c7
            replace H := Option.bind_eq_some_iff.mp H
            obtain ⟨t106, A150, H⟩ := H
            replace H : (some (t106, (x7_1) % 4294967296)) = some (r1, r2) := H
            have A15 := Aside0.mk A150
            clear A150
            simp only [Option.some.injEq, Prod.mk.injEq] at H
            obtain ⟨rfl, rfl⟩ := H
            obtain ⟨Ao16, co16, eo16⟩ := Kd.R_slice HO_6.out
            subst eo16
            go_wp2_with (first | ((with_reducible refine gate_callee (f := 118) rfl ?_); refine goesL_ (some 40) rfl rfl Try.func118 (by kernel_rfl) rfl #[.slice Ao16 x6_1.length co16] rfl (by (try simp only [List.map_toArray, List.map_cons, List.map_nil]); first | done | rfl | (simp only [List.length_drop, List.length_take]; rfl)) ?_; (with_reducible refine (nat_short.calls k1 (fun k_ => some k_ = (.slice Ao16 x6_1.length co16 : Value).ownBlock) _ _ x6_1 t106 _ ?side1 A15.out).mono ?_); (case side1 => exact Kd.R_V (Kd.R_tight rfl (HO_6.out))); rintro e w17 ⟨v107, rfl, ho0, hb⟩; refine ⟨_, rfl, ?_⟩; have n0_ := Aside0.mk (Kd.R_below (by (with_reducible repeat (first | apply Kd.R_alloc | apply Kd.R_drewN | apply Kd.R_drew)); exact HO_6.out) hb); have n1_ := Aside0.mk (Kd.V_lower (Kd.V_mono (ok' := fun k_ => (w.heap.size ≤ k_)) ho0 (fun k_ hk_ => Or.elim hk_ (fun hs_ => ((HO_6.out).1 k_ hs_.symm)) (fun hn_ => (Nat.le_trans (below_size (by repeat (first | (with_reducible first | exact HB.out | apply below_alloc | apply pw_below_drewN | apply below_drew1) | exact HB.out))) hn_)))) (below_size (by repeat (first | (with_reducible first | exact HB.out | apply below_alloc | apply pw_below_drewN | apply below_drew1) | exact HB.out)))); have n2_ := Aside0.mk (below_step (by repeat (first | (with_reducible first | exact HB.out | apply below_alloc | apply pw_below_drewN | apply below_drew1) | exact HB.out)) hb); clear HO_6; clear HB; have HO_6 := n0_; have HO108 := n1_; have HB := n2_; clear n0_ n1_ n2_; (try clear hb); (try clear hb2); (try clear hk); (try clear hi); (try clear ho0)))
            go_ret2
            exact ⟨_, by first | rfl | (simp [errW_none, errW_some] <;> rfl) | (simp [*, errW_none, errW_some] <;> rfl), by (with_reducible repeat (first | apply Kd.V_alloc | apply Kd.V_drewN | apply Kd.V_drew)); exact HO108.out, by repeat (first | (with_reducible first | exact HB.out | apply below_alloc | apply pw_below_drewN | apply below_drew1) | exact HB.out)⟩
    · rw [if_neg c4] at H
      exact absurd H (by simp)
  · rw [if_neg c3] at H
    exact absurd H (by simp)

end Go.Proofs.Ytifkbghnmhineaa.PAll

namespace Go.Proofs.Ytifkbghnmhineaa.PAll
open Go.RowKit Go.Proofs.YtifkbghnmhineaaW.PrintWords Go.Proofs.YtifkbghnmhineaaW.PrintLast Go.Proofs.YtifkbghnmhineaaW.PrintMore
attribute [local go_sem] max2_int min2_int max_two min_two max_three min_three max_four min_four   -- for this text's walks alone
set_option linter.unusedVariables false
set_option linter.unusedSimpArgs false

/-! ### nat_times: function 116 -/
set_option maxHeartbeats 8000000 in
set_option maxRecDepth 100000 in
theorem nat_times.calls (k : Nat) (A0 : Option Addr) (c0 : Nat) (l0 : List Int) (A1 : Option Addr) (c1 : Nat) (l1 : List Int) (r : List Int) (w : World) (hr0 : Kd.C (Kd.int .u32) w A0 l0.length l0) (hc0 : l0.length ≤ c0) (hr1 : Kd.C (Kd.int .u32) w A1 l1.length l1) (hc1 : l1.length ≤ c1) (h : nat_times.f k l0 l1 = some r) :
    Calls Try.prog 116 #[.slice A0 l0.length c0, .slice A1 l1.length c1] w fun e w' => ∃ v0_ : Value, e = .returned (v0_) ∧ Kd.V (Kd.int .u32) 97 w' w.heap.size (fun k_ => (w.heap.size ≤ k_)) v0_ r ∧ Below w.heap.size w w' := by
  have HR0 := Aside0.mk hr0
  have HC0 := Aside0.mk hc0
  clear hr0 hc0
  have HR1 := Aside0.mk hr1
  have HC1 := Aside0.mk hc1
  clear hr1 hc1
  have HB := Aside0.mk (Below.refl w.heap.size w)
  have H : (if 0 ≤ (wrap64 ((l0.length : Int) + (l1.length : Int))) then (if (wrap64 ((l0.length : Int) + (l1.length : Int)) : Int).toNat ≤ 70368744177664 then (nat_times.l0 k l1 (List.replicate (wrap64 ((l0.length : Int) + (l1.length : Int)) : Int).toNat 0) l0 (l0.length : Int) 0) else (none)) else (none)) = some r := h
  clear h
  obtain ⟨ji3, hji3⟩ : ∃ j_ : Int, (wrap64 ((l0.length : Int) + (l1.length : Int))) = j_ := ⟨_, rfl⟩
  replace H : (if 0 ≤ (ji3) then (if (ji3 : Int).toNat ≤ 70368744177664 then (nat_times.l0 k l1 (List.replicate (ji3 : Int).toNat 0) l0 (l0.length : Int) 0) else (none)) else (none)) = some r := by first | (rw [hji3] at H; exact H) | (simp only [hji3] at H ⊢; exact H)
  have hji3w : (IntKind.i64.wrap ((l0.length : Int) + (l1.length : Int))) = ji3 := (i64_w _).trans hji3
  by_cases c4 : 0 ≤ (ji3)
  · rw [if_pos c4] at H
    have c4b0 := eq_true c4
    have c4b1 : decide (0 ≤ (ji3)) = true := decide_eq_true c4
    clear c4
    by_cases c5 : (ji3 : Int).toNat ≤ 70368744177664
    · rw [if_pos c5] at H
      have c5b0 := eq_true c5
      have c5b1 : decide ((ji3 : Int).toNat ≤ 70368744177664) = true := decide_eq_true c5
      clear c5
      obtain ⟨y101, hy101⟩ : ∃ y_ : List Int, y_ = (List.replicate (ji3 : Int).toNat 0) := ⟨_, rfl⟩
      replace H : (nat_times.l0 k l1 y101 l0 (l0.length : Int) 0) = some r := by first | (rw [hy101]; with_reducible exact H) | (have H2_ := (Option.bind_some _ _).symm.trans H; rw [hy101]; with_reducible exact H2_) | (have H2_ := (Option.bind_some _ _).symm.trans H; with_reducible exact H2_) | with_reducible exact H | (rw [hy101]; exact H) | exact H
      have Ny101 := Aside0.mk hy101
      clear hy101
      have H' := Aside0.mk H
      clear H
      go_enter Try.func116, Try.ntmps116
      go_wp2_with (first | ((with_reducible refine gate_dst (N := 17) rfl ?_); refine Kd.R_make (Kd.int .u32) _ 97 rfl (N := 17) rfl 29 _ _ rfl ji3 rfl rfl Try.underlying29 (.int .u32 0) 4 info97 rfl (by decide) (by omega) 0 (ok := fun _ => True) (okp := fun _ => True) rfl (fun _ hk => hk) trivial (of_decide_eq_true (by first | (with_reducible assumption) | assumption)) (Nat.le_trans (Nat.mul_le_mul_right _ (of_decide_eq_true (by first | (with_reducible assumption) | assumption) : ji3.toNat ≤ 70368744177664)) (by omega)) (Below.refl _ _) (Nat.le_refl _) ?_; intro v102 w6 ho7 hb hg_ hnew_; clear hg_ hnew_; (first | rw [← Ny101.out] at ho7 | (simp only [Int.reduceToNat] at ho7; rw [← Ny101.out] at ho7)); have n0_ := Aside0.mk (Kd.R_lower (Kd.R_newM (M := fun k_ => (w.heap.size ≤ k_)) ho7 (below_size (by repeat (first | (with_reducible first | exact HB.out | apply below_alloc | apply pw_below_drewN | apply below_drew1) | exact HB.out))) (fun k_ h_ => h_)) (below_size (by repeat (first | (with_reducible first | exact HB.out | apply below_alloc | apply pw_below_drewN | apply below_drew1) | exact HB.out)))); have n1_ := Aside0.mk (below_step (by repeat (first | (with_reducible first | exact HB.out | apply below_alloc | apply pw_below_drewN | apply below_drew1) | exact HB.out)) hb); clear HB; have HO103 := n0_; have HB := n1_; clear n0_ n1_; clear hb ho7))
      go_loopg [20] k (fun kq v20 w' => ∃ (x5_1 : List Int) (x20_1 : Int), v20 = .int .i64 x20_1 ∧ Aside0 (nat_times.l0 kq l1 x5_1 l0 (l0.length : Int) x20_1 = some r) ∧ Aside0 (kq ≤ k) ∧ Aside0 (Kd.R (Kd.int .u32) 97 w' w.heap.size (fun k_ => (w.heap.size ≤ k_)) v102 x5_1) ∧ Aside0 (Below w.heap.size w w'))
      case atStart => exact ⟨(y101), (0), (by first | rfl | (simp; done) | (simp [*]; done)), H', ⟨Nat.le_refl _⟩, ⟨by (with_reducible repeat (first | apply Kd.R_alloc | apply Kd.R_drewN | apply Kd.R_drew)); exact Kd.R_mono HO103.out (fun _ hk => hk.1)⟩, ⟨by repeat (first | (with_reducible first | exact HB.out | apply below_alloc | apply pw_below_drewN | apply below_drew1) | exact HB.out)⟩⟩
      case round =>
        clear H'
        try clear c1
        try clear p2
        try clear c4
        try clear c4b0
        try clear c4b1
        try clear c5
        try clear c5b0
        try clear c5b1
        try clear p6
        obtain ⟨x5_1, x20_1, rfl, HA, HK1, HO_5, HB⟩ := hrel
        cases gk with
        | zero => exact absurd HA.out (by simp [nat_times.l0])
        | succ k1 =>
          have H := HA.out
          clear HA
          simp only [nat_times.l0] at H
          by_cases c8 : x20_1 < (l0.length : Int)
          · rw [if_pos c8] at H
            have c8b0 : decide (x20_1 < (l0.length : Int)) = true := decide_eq_true c8
            clear c8
            by_cases c9 : 0 ≤ x20_1
            · rw [if_pos c9] at H
              have c9b0 : decide (0 ≤ x20_1) = true := decide_eq_true c9
              clear c9
              by_cases c10 : x20_1 < (l0.length : Int)
              · rw [if_pos c10] at H
                have c10b0 : decide (x20_1 < (l0.length : Int)) = true := decide_eq_true c10
                clear c10
                have H' := Aside0.mk H
                clear H
                have p107 : 0 ≤ (x20_1 : Int) := of_decide_eq_true (by first | (with_reducible assumption) | assumption)
                have q107 : x20_1 < (l0.length : Int) := of_decide_eq_true (by first | (with_reducible assumption) | assumption)
                obtain ⟨ad107, e107, hx107_0⟩ := Kd.at_int HR0.out x20_1 p107 q107
                cases e107
                replace hx107_0 := (HB.out.cell (World.block_lt_of_cell? w _ hx107_0)).trans hx107_0
                replace p107 := eq_true p107
                replace q107 := eq_true q107
                go_wp2
                go_loopg [8, 27] k1 (fun kq v8 v27 w' => ∃ (x5_2 : List Int) (x8_2 : Int) (x27_2 : Int), v8 = .int .u64 x8_2 ∧ v27 = .int .i64 x27_2 ∧ Aside0 (nat_times.l1 kq l1 x5_2 x20_1 (rd l0 x20_1) x8_2 l0 (l0.length : Int) x20_1 l1 (l1.length : Int) x27_2 = some r) ∧ Aside0 (kq ≤ k1) ∧ Aside0 (Kd.R (Kd.int .u32) 97 w' w.heap.size (fun k_ => (w.heap.size ≤ k_)) v102 x5_2) ∧ Aside0 (Below w.heap.size w w'))
                case atStart => exact ⟨(x5_1), (0), (0), (by first | rfl | (simp; done) | (simp [*]; done)), (by first | rfl | (simp; done) | (simp [*]; done)), H', ⟨Nat.le_refl _⟩, ⟨by (with_reducible repeat (first | apply Kd.R_alloc | apply Kd.R_drewN | apply Kd.R_drew)); exact HO_5.out⟩, ⟨by repeat (first | (with_reducible first | exact HB.out | apply below_alloc | apply pw_below_drewN | apply below_drew1) | exact HB.out)⟩⟩
                case round =>
                  clear H'
                  try clear c1
                  try clear p1
                  try clear q1
                  try clear hx1
                  try clear p2
                  try clear c4
                  try clear c4b0
                  try clear c4b1
                  try clear c5
                  try clear c5b0
                  try clear c5b1
                  try clear p6
                  try clear c8
                  try clear c8b0
                  try clear c9
                  try clear c9b0
                  try clear c10
                  try clear c10b0
                  try clear p10
                  try clear q10
                  try clear hx10
                  try clear hx107_0
                  try clear p107
                  try clear p2
                  try clear p6
                  try clear q107
                  obtain ⟨x5_2, x8_2, x27_2, rfl, rfl, HA, HK2, HO_5, HB⟩ := hrel
                  cases gk with
                  | zero => exact absurd HA.out (by simp [nat_times.l1])
                  | succ k2 =>
                    have H := HA.out
                    clear HA
                    simp only [nat_times.l1] at H
                    by_cases c11 : x27_2 < (l1.length : Int)
                    · rw [if_pos c11] at H
                      have c11b0 : decide (x27_2 < (l1.length : Int)) = true := decide_eq_true c11
                      clear c11
                      by_cases c12 : 0 ≤ x27_2
                      · rw [if_pos c12] at H
                        have c12b0 : decide (0 ≤ x27_2) = true := decide_eq_true c12
                        clear c12
                        by_cases c13 : x27_2 < (l1.length : Int)
                        · rw [if_pos c13] at H
                          have c13b0 : decide (x27_2 < (l1.length : Int)) = true := decide_eq_true c13
                          clear c13
                          obtain ⟨ji14, hji14⟩ : ∃ j_ : Int, (wrap64 (x20_1 + x27_2)) = j_ := ⟨_, rfl⟩
                          replace H : (if 0 ≤ (ji14) then (if (ji14) < (x5_2.length : Int) then (nat_times.l1 k2 l1 (x5_2.set ((ji14) : Int).toNat ((IntKind.u64.wrap ((IntKind.u64.wrap ((IntKind.u64.wrap ((IntKind.u64.wrap ((rd l0 x20_1))) * (IntKind.u64.wrap (rd l1 x27_2)))) + (IntKind.u64.wrap (rd x5_2 (ji14))))) + x8_2)) % 4294967296)) x20_1 (rd l0 x20_1) ((IntKind.u64.wrap ((IntKind.u64.wrap ((IntKind.u64.wrap ((IntKind.u64.wrap ((rd l0 x20_1))) * (IntKind.u64.wrap (rd l1 x27_2)))) + (IntKind.u64.wrap (rd x5_2 (ji14))))) + x8_2)) / 4294967296) l0 (l0.length : Int) x20_1 l1 (l1.length : Int) (wrap64 (x27_2 + 1))) else (none)) else (none)) = some r := by first | (rw [hji14] at H; exact H) | (simp only [hji14] at H ⊢; exact H)
                          have hji14w : (IntKind.i64.wrap (x20_1 + x27_2)) = ji14 := (i64_w _).trans hji14
                          by_cases c15 : 0 ≤ (ji14)
                          · rw [if_pos c15] at H
                            have c15b0 : decide (0 ≤ (ji14)) = true := decide_eq_true c15
                            clear c15
                            by_cases c16 : (ji14) < (x5_2.length : Int)
                            · rw [if_pos c16] at H
                              have c16b0 : decide ((ji14) < (x5_2.length : Int)) = true := decide_eq_true c16
                              clear c16
                              obtain ⟨y110, hy110⟩ : ∃ y_ : List Int, y_ = (x5_2.set ((ji14) : Int).toNat ((IntKind.u64.wrap ((IntKind.u64.wrap ((IntKind.u64.wrap ((IntKind.u64.wrap ((rd l0 x20_1))) * (IntKind.u64.wrap (rd l1 x27_2)))) + (IntKind.u64.wrap (rd x5_2 (ji14))))) + x8_2)) % 4294967296)) := ⟨_, rfl⟩
                              replace H : (nat_times.l1 k2 l1 y110 x20_1 (rd l0 x20_1) ((IntKind.u64.wrap ((IntKind.u64.wrap ((IntKind.u64.wrap ((IntKind.u64.wrap ((rd l0 x20_1))) * (IntKind.u64.wrap (rd l1 x27_2)))) + (IntKind.u64.wrap (rd x5_2 (ji14))))) + x8_2)) / 4294967296) l0 (l0.length : Int) x20_1 l1 (l1.length : Int) (wrap64 (x27_2 + 1))) = some r := by first | (rw [hy110]; with_reducible exact H) | (have H2_ := (Option.bind_some _ _).symm.trans H; rw [hy110]; with_reducible exact H2_) | (have H2_ := (Option.bind_some _ _).symm.trans H; with_reducible exact H2_) | with_reducible exact H | (rw [hy110]; exact H) | exact H
                              have Ny110 := Aside0.mk hy110
                              clear hy110
                              have H' := Aside0.mk H
                              clear H
                              have p108 : 0 ≤ (x27_2 : Int) := of_decide_eq_true (by first | (with_reducible assumption) | assumption)
                              have q108 : x27_2 < (l1.length : Int) := of_decide_eq_true (by first | (with_reducible assumption) | assumption)
                              obtain ⟨ad108, e108, hx108_0⟩ := Kd.at_int HR1.out x27_2 p108 q108
                              cases e108
                              replace hx108_0 := (HB.out.cell (World.block_lt_of_cell? w _ hx108_0)).trans hx108_0
                              replace p108 := eq_true p108
                              replace q108 := eq_true q108
                              obtain ⟨Ao18, co18, eo18⟩ := Kd.R_slice HO_5.out
                              subst eo18
                              have p109 : 0 ≤ ((ji14) : Int) := of_decide_eq_true (by first | (with_reducible assumption) | assumption)
                              have q109 : (ji14) < (x5_2.length : Int) := of_decide_eq_true (by first | (with_reducible assumption) | assumption)
                              obtain ⟨ad109, e109, hx109_0⟩ := Kd.at_int (Kd.R_reads' HO_5.out).2.2 (ji14) p109 q109
                              cases e109
                              replace p109 := eq_true p109
                              replace q109 := eq_true q109
                              have p17 : 0 ≤ ((ji14) : Int) := of_decide_eq_true (by first | (with_reducible assumption) | assumption)
                              have q17 : ((ji14) : Int) < ((x5_2.length : Int) : Int) := of_decide_eq_true (by first | (with_reducible assumption) | assumption)
                              obtain ⟨go17, co17, eo17, gb17, gl17, cl17, HG17⟩ := Kd.R_form HO_5.out (by omega)
                              (first | cases eo17 | (injection eo17 with ea_ en_ ec_; (first | subst ea_ | (injection ea_ with ea_; subst ea_)); subst ec_; clear en_))
                              have GB17 := Aside0.mk gb17
                              have GG17 := Aside0.mk HG17
                              clear gb17 gl17 HG17
                              (first | simp only [add_plain] at hx109_0 | skip)
                              obtain ⟨hx17_0, hf17_0⟩ := Kd.R_celln 0 HO_5.out ((ji14) : Int) p17 q17
                              replace p17 := eq_true p17
                              replace q17 := eq_true q17
                              have HP19 := Kd.R_putg HO_5.out ((ji14) : Int) ((IntKind.u64.wrap ((IntKind.u64.wrap ((IntKind.u64.wrap ((IntKind.u64.wrap ((rd l0 x20_1))) * (IntKind.u64.wrap (rd l1 x27_2)))) + (IntKind.u64.wrap (rd x5_2 (ji14))))) + x8_2)) % 4294967296)
                              go_wp2_with (first | ((with_reducible refine gate_store (t := 97) (p := 53) rfl ?_); refine store_event (t := 97) (p := 53) (v := ?vo_w20) (w1 := (wr.setCell ⟨go17, ((ji14) : Int).toNat, none⟩ (.int .u32 ((IntKind.u64.wrap ((IntKind.u64.wrap ((IntKind.u64.wrap ((IntKind.u64.wrap ((rd l0 x20_1))) * (IntKind.u64.wrap (rd l1 x27_2)))) + (IntKind.u64.wrap (rd x5_2 (ji14))))) + x8_2)) % 4294967296)))) ?hg ?ho ?hn ?hr ?_; (case ho => rfl); (case hg => rfl); (case hn => rfl); (case hr => first | (go_simp; done) | (go_simp; rfl)); intro w20 hw; have hg : wr.grownBy w20 (some go17) := (by rw [hw]; exact HP19.2); have hp_ : Kd.R (Kd.int .u32) 97 w20 w.heap.size (fun k_ => (w.heap.size ≤ k_)) (.slice (some ⟨go17, 0, none⟩) x5_2.length co18) y110 := (by rw [hw, Ny110.out]; exact HP19.1); clear HP19; have n0_ := Aside0.mk (hp_); have n1_ := Aside0.mk ((by rw [hw]; exact below_set (HB.out) GB17.out : Below w.heap.size w w20)); clear HO_5; clear HB; have HO_5 := n0_; have HB := n1_; clear n0_ n1_; clear hg hw hp_))
                              go_roundg k2
                              case measure => have := HK1.out; have := HK2.out; omega
                              case rel => exact ⟨(y110), ((IntKind.u64.wrap ((IntKind.u64.wrap ((IntKind.u64.wrap ((IntKind.u64.wrap ((rd l0 x20_1))) * (IntKind.u64.wrap (rd l1 x27_2)))) + (IntKind.u64.wrap (rd x5_2 (ji14))))) + x8_2)) / 4294967296), (wrap64 (x27_2 + 1)), (by first | rfl | (simp; done) | (simp only [← hji14] <;> (first | rfl | simp)) | (simp [*]; done)), (by first | rfl | (simp; done) | (simp [*]; done)), H', ⟨by have := HK1.out; have := HK2.out; omega⟩, ⟨by (with_reducible repeat (first | apply Kd.R_alloc | apply Kd.R_drewN | apply Kd.R_drew)); exact HO_5.out⟩, ⟨by repeat (first | (with_reducible first | exact HB.out | apply below_alloc | apply pw_below_drewN | apply below_drew1) | exact HB.out)⟩⟩
                            · rw [if_neg c16] at H
                              exact absurd H (by simp)
                          · rw [if_neg c15] at H
                            exact absurd H (by simp)
                        · rw [if_neg c13] at H
                          exact absurd H (by simp)
                      · rw [if_neg c12] at H
                        exact absurd H (by simp)
                    · rw [if_neg c11] at H
                      have c11b0 : decide (x27_2 < (l1.length : Int)) = false := decide_eq_false c11
                      clear c11
                      obtain ⟨ji21, hji21⟩ : ∃ j_ : Int, (wrap64 (x20_1 + (l1.length : Int))) = j_ := ⟨_, rfl⟩
                      replace H : (if 0 ≤ (ji21) then (if (ji21) < (x5_2.length : Int) then (nat_times.l0 k2 l1 (x5_2.set ((ji21) : Int).toNat ((x8_2) % 4294967296)) l0 (l0.length : Int) (wrap64 (x20_1 + 1))) else (none)) else (none)) = some r := by first | (rw [hji21] at H; exact H) | (simp only [hji21] at H ⊢; exact H)
                      have hji21w : (IntKind.i64.wrap (x20_1 + (l1.length : Int))) = ji21 := (i64_w _).trans hji21
                      by_cases c22 : 0 ≤ (ji21)
                      · rw [if_pos c22] at H
                        have c22b0 : decide (0 ≤ (ji21)) = true := decide_eq_true c22
                        clear c22
                        by_cases c23 : (ji21) < (x5_2.length : Int)
                        · rw [if_pos c23] at H
                          have c23b0 : decide ((ji21) < (x5_2.length : Int)) = true := decide_eq_true c23
                          clear c23
                          obtain ⟨y111, hy111⟩ : ∃ y_ : List Int, y_ = (x5_2.set ((ji21) : Int).toNat ((x8_2) % 4294967296)) := ⟨_, rfl⟩
                          replace H : (nat_times.l0 k2 l1 y111 l0 (l0.length : Int) (wrap64 (x20_1 + 1))) = some r := by first | (rw [hy111]; with_reducible exact H) | (have H2_ := (Option.bind_some _ _).symm.trans H; rw [hy111]; with_reducible exact H2_) | (have H2_ := (Option.bind_some _ _).symm.trans H; with_reducible exact H2_) | with_reducible exact H | (rw [hy111]; exact H) | exact H
                          have Ny111 := Aside0.mk hy111
                          clear hy111
                          have H' := Aside0.mk H
                          clear H
                          have p24 : 0 ≤ ((ji21) : Int) := of_decide_eq_true (by first | (with_reducible assumption) | assumption)
                          have q24 : ((ji21) : Int) < ((x5_2.length : Int) : Int) := of_decide_eq_true (by first | (with_reducible assumption) | assumption)
                          obtain ⟨go24, co24, eo24, gb24, gl24, cl24, HG24⟩ := Kd.R_form HO_5.out (by omega)
                          (first | cases eo24 | (injection eo24 with ea_ en_ ec_; (first | subst ea_ | (injection ea_ with ea_; subst ea_)); subst ec_; clear en_))
                          have GB24 := Aside0.mk gb24
                          have GG24 := Aside0.mk HG24
                          clear gb24 gl24 HG24
                          obtain ⟨hx24_0, hf24_0⟩ := Kd.R_celln 0 HO_5.out ((ji21) : Int) p24 q24
                          replace p24 := eq_true p24
                          replace q24 := eq_true q24
                          have HP25 := Kd.R_putg HO_5.out ((ji21) : Int) ((x8_2) % 4294967296)
                          go_wp2_with (first | ((with_reducible refine gate_store (t := 97) (p := 64) rfl ?_); refine store_event (t := 97) (p := 64) (v := ?vo_w26) (w1 := (wr.setCell ⟨go24, ((ji21) : Int).toNat, none⟩ (.int .u32 ((x8_2) % 4294967296)))) ?hg ?ho ?hn ?hr ?_; (case ho => rfl); (case hg => rfl); (case hn => rfl); (case hr => first | (go_simp; done) | (go_simp; rfl)); intro w26 hw; have hg : wr.grownBy w26 (some go24) := (by rw [hw]; exact HP25.2); have hp_ : Kd.R (Kd.int .u32) 97 w26 w.heap.size (fun k_ => (w.heap.size ≤ k_)) (.slice (some ⟨go24, 0, none⟩) x5_2.length co24) y111 := (by rw [hw, Ny111.out]; exact HP25.1); clear HP25; have n0_ := Aside0.mk (hp_); have n1_ := Aside0.mk ((by rw [hw]; exact below_set (HB.out) GB24.out : Below w.heap.size w w26)); clear HO_5; clear HB; have HO_5 := n0_; have HB := n1_; clear n0_ n1_; clear hg hw hp_))
                          go_roundg k2
                          case measure => have := HK1.out; have := HK2.out; omega
                          case rel => exact ⟨(y111), (wrap64 (x20_1 + 1)), (by first | rfl | (simp; done) | (simp [*]; done)), H', ⟨by have := HK1.out; have := HK2.out; omega⟩, ⟨by (with_reducible repeat (first | apply Kd.R_alloc | apply Kd.R_drewN | apply Kd.R_drew)); exact HO_5.out⟩, ⟨by repeat (first | (with_reducible first | exact HB.out | apply below_alloc | apply pw_below_drewN | apply below_drew1) | exact HB.out)⟩⟩
                        · rw [if_neg c23] at H
                          exact absurd H (by simp)
                      · rw [if_neg c22] at H
                        exact absurd H (by simp)
              · rw [if_neg c10] at H
                exact absurd H (by simp)
            · rw [if_neg c9] at H
              exact absurd H (by simp)
          · rw [if_neg c8] at H
            have c8b0 : decide (x20_1 < (l0.length : Int)) = false := decide_eq_false c8
            clear c8
            replace H := Option.bind_eq_some_iff.mp H
            obtain ⟨t104, A270, H⟩ := H
            replace H : (some t104) = some r := H
            have A27 := Aside0.mk A270
            clear A270
            obtain rfl := Option.some.inj H
            obtain ⟨Ao28, co28, eo28⟩ := Kd.R_slice HO_5.out
            subst eo28
            go_wp2_with (first | ((with_reducible refine gate_callee (f := 118) rfl ?_); refine goesL_ (some 67) rfl rfl Try.func118 (by kernel_rfl) rfl #[.slice Ao28 x5_1.length co28] rfl (by (try simp only [List.map_toArray, List.map_cons, List.map_nil]); first | done | rfl | (simp only [List.length_drop, List.length_take]; rfl)) ?_; (with_reducible refine (nat_short.calls k1 (fun k_ => some k_ = (.slice Ao28 x5_1.length co28 : Value).ownBlock) _ _ x5_1 t104 _ ?side1 A27.out).mono ?_); (case side1 => exact Kd.R_V (Kd.R_tight rfl (HO_5.out))); rintro e w29 ⟨v105, rfl, ho0, hb⟩; refine ⟨_, rfl, ?_⟩; have n0_ := Aside0.mk (Kd.R_below (by (with_reducible repeat (first | apply Kd.R_alloc | apply Kd.R_drewN | apply Kd.R_drew)); exact HO_5.out) hb); have n1_ := Aside0.mk (Kd.V_lower (Kd.V_mono (ok' := fun k_ => (w.heap.size ≤ k_)) ho0 (fun k_ hk_ => Or.elim hk_ (fun hs_ => ((HO_5.out).1 k_ hs_.symm)) (fun hn_ => (Nat.le_trans (below_size (by repeat (first | (with_reducible first | exact HB.out | apply below_alloc | apply pw_below_drewN | apply below_drew1) | exact HB.out))) hn_)))) (below_size (by repeat (first | (with_reducible first | exact HB.out | apply below_alloc | apply pw_below_drewN | apply below_drew1) | exact HB.out)))); have n2_ := Aside0.mk (below_step (by repeat (first | (with_reducible first | exact HB.out | apply below_alloc | apply pw_below_drewN | apply below_drew1) | exact HB.out)) hb); clear HO_5; clear HB; have HO_5 := n0_; have HO106 := n1_; have HB := n2_; clear n0_ n1_ n2_; (try clear hb); (try clear hb2); (try clear hk); (try clear hi); (try clear ho0)))
            go_ret
            exact ⟨_, by first | rfl | (simp [errW_none, errW_some] <;> rfl) | (simp only [← hji3]; first | rfl | (simp [errW_none, errW_some] <;> rfl)) | (simp [*, errW_none, errW_some] <;> rfl), by (with_reducible repeat (first | apply Kd.V_alloc | apply Kd.V_drewN | apply Kd.V_drew)); exact HO106.out, by repeat (first | (with_reducible first | exact HB.out | apply below_alloc | apply pw_below_drewN | apply below_drew1) | exact HB.out)⟩
    · rw [if_neg c5] at H
      exact absurd H (by simp)
  · rw [if_neg c4] at H
    exact absurd H (by simp)

end Go.Proofs.Ytifkbghnmhineaa.PAll

namespace Go.Proofs.Ytifkbghnmhineaa.PAll
open Go.RowKit Go.Proofs.YtifkbghnmhineaaW.PrintWords Go.Proofs.YtifkbghnmhineaaW.PrintLast Go.Proofs.YtifkbghnmhineaaW.PrintMore
attribute [local go_sem] max2_int min2_int max_two min_two max_three min_three max_four min_four   -- for this text's walks alone
set_option linter.unusedVariables false
set_option linter.unusedSimpArgs false

/-! ### nat_Binomial: function 72 -/
set_option maxHeartbeats 8000000 in
set_option maxRecDepth 100000 in
theorem nat_Binomial.calls (k : Nat) (a0 : Int) (a1 : Int) (r1 : List Int) (r2 : Int) (w : World) (h : nat_Binomial.f k a0 a1 = some (r1, r2)) :
    Calls Try.prog 72 #[.int .i64 a0, .int .i64 a1] w fun e w' => ∃ v0_ : Value, e = .returned (.tuple #[v0_, .int .i64 r2]) ∧ Kd.R (Kd.int .u32) 97 w' w.heap.size (fun _ => True) v0_ r1 ∧ Below w.heap.size w w' := by
  have HB := Aside0.mk (Below.refl w.heap.size w)
  have H : (if a0 < 0 then (nat_Binomial.j0 k a0 a1 true) else (nat_Binomial.j0 k a0 a1 (decide (a0 > 4096)))) = some (r1, r2) := h
  clear h
  have HC3 := Aside0.mk H
  clear H
  go_enter Try.func72, Try.ntmps72
  go_upto_region 1 with (fail)
  go_cut [13] (fun v13 wc => ∃ (kq : Nat) (x13_2 : Bool), v13 = .bool x13_2 ∧ Aside0 (nat_Binomial.j0 kq a0 a1 x13_2 = some (r1, r2)) ∧ Aside0 (kq ≤ k) ∧ Aside0 (Below w.heap.size w wc))
  case first =>
    have H := HC3.out
    clear HC3
    by_cases c4 : a0 < 0
    · rw [if_pos c4] at H
      have c4b0 : decide (a0 < 0) = true := decide_eq_true c4
      clear c4
      (first | rw [c4b0] | (simp only [i64_w, i32_w]; rw [c4b0]) | rw [c4b1] | skip)
      have H' := Aside0.mk H
      clear H
      go_wp2
      go_meet
      case rel => exact ⟨_, (true), (by first | rfl | (simp; done) | (simp [*]; done)), H', ⟨by first | omega | exact Nat.le_refl _⟩, ⟨by repeat (first | (with_reducible first | exact HB.out | apply below_alloc | apply pw_below_drewN | apply below_drew1) | exact HB.out)⟩⟩
    · rw [if_neg c4] at H
      have c4b0 : decide (a0 < 0) = false := decide_eq_false c4
      clear c4
      (first | rw [c4b0] | (simp only [i64_w, i32_w]; rw [c4b0]) | rw [c4b1] | skip)
      have H' := Aside0.mk H
      clear H
      go_wp2
      go_meet
      case rel => exact ⟨_, (decide (a0 > 4096)), (by first | rfl | (simp; done) | (simp [*]; done)), H', ⟨by first | omega | exact Nat.le_refl _⟩, ⟨by repeat (first | (with_reducible first | exact HB.out | apply below_alloc | apply pw_below_drewN | apply below_drew1) | exact HB.out)⟩⟩
  case rest =>
    clear HC3
    try clear p2
    try clear c4
    try clear c4b0
    try clear c4b1
    obtain ⟨kq, x13_2, rfl, HA, HJ2, HB⟩ := hcut
    cases kq with
    | zero => exact absurd HA.out (by simp [nat_Binomial.j0])
    | succ kj2 =>
      have H := HA.out
      clear HA
      simp only [nat_Binomial.j0] at H
      by_cases c5 : x13_2 = true
      · subst c5
        have H1 : (some (([] : List Int), 6)) = some (r1, r2) := by rw [if_pos rfl] at H; exact H
        clear H
        have H := H1
        clear H1
        simp only [Option.some.injEq, Prod.mk.injEq] at H
        obtain ⟨rfl, rfl⟩ := H
        go_wp2
        go_ret2
        exact ⟨_, by first | rfl | (simp [errW_none, errW_some] <;> rfl) | (simp [*, errW_none, errW_some] <;> rfl), by first | exact Kd.R_nil _ _ _ _ _ | exact Kd.N_nil _ _ _ _ _ | exact Kd.V_nil _ _ _ _ _ | exact Kd.Q_nil _ _ _ _ _ | exact Kd.S_nil _ _ _ _ _, by repeat (first | (with_reducible first | exact HB.out | apply below_alloc | apply pw_below_drewN | apply below_drew1) | exact HB.out)⟩
      · replace c5 := Bool.eq_false_iff.mpr c5
        subst c5
        have H1 : (if a1 < 0 then (nat_Binomial.j1 kj2 a0 a1 true) else (nat_Binomial.j1 kj2 a0 a1 (decide (a1 > a0)))) = some (r1, r2) := by rw [if_neg (show ¬ (false = true) by decide)] at H; exact H
        clear H
        have H := H1
        clear H1
        have HC6 := Aside0.mk H
        clear H
        go_upto_region 3 with (fail)
        go_cut [20] (fun v20 wc => ∃ (kq : Nat) (x20_5 : Bool), v20 = .bool x20_5 ∧ Aside0 (nat_Binomial.j1 kq a0 a1 x20_5 = some (r1, r2)) ∧ Aside0 (kq ≤ kj2) ∧ Aside0 (Below w.heap.size w wc))
        case first =>
          have H := HC6.out
          clear HC6
          by_cases c7 : a1 < 0
          · rw [if_pos c7] at H
            have c7b0 : decide (a1 < 0) = true := decide_eq_true c7
            clear c7
            (first | rw [c7b0] | (simp only [i64_w, i32_w]; rw [c7b0]) | rw [c7b1] | skip)
            have H' := Aside0.mk H
            clear H
            go_wp2
            go_meet
            case rel => exact ⟨_, (true), (by first | rfl | (simp; done) | (simp [*]; done)), H', ⟨by have := HJ2.out; first | omega | exact Nat.le_refl _⟩, ⟨by repeat (first | (with_reducible first | exact HB.out | apply below_alloc | apply pw_below_drewN | apply below_drew1) | exact HB.out)⟩⟩
          · rw [if_neg c7] at H
            have c7b0 : decide (a1 < 0) = false := decide_eq_false c7
            clear c7
            (first | rw [c7b0] | (simp only [i64_w, i32_w]; rw [c7b0]) | rw [c7b1] | skip)
            have H' := Aside0.mk H
            clear H
            go_wp2
            go_meet
            case rel => exact ⟨_, (decide (a1 > a0)), (by first | rfl | (simp; done) | (simp [*]; done)), H', ⟨by have := HJ2.out; first | omega | exact Nat.le_refl _⟩, ⟨by repeat (first | (with_reducible first | exact HB.out | apply below_alloc | apply pw_below_drewN | apply below_drew1) | exact HB.out)⟩⟩
        case rest =>
          clear HC6
          try clear p2
          try clear c4
          try clear c4b0
          try clear c4b1
          try clear c5
          try clear c7
          try clear c7b0
          try clear c7b1
          try clear p2
          obtain ⟨kq, x20_5, rfl, HA, HJ5, HB⟩ := hcut
          cases kq with
          | zero => exact absurd HA.out (by simp [nat_Binomial.j1])
          | succ kj5 =>
            have H := HA.out
            clear HA
            simp only [nat_Binomial.j1] at H
            by_cases c8 : x20_5 = true
            · subst c8
              have H1 : (some (([] : List Int), 0)) = some (r1, r2) := by rw [if_pos rfl] at H; exact H
              clear H
              have H := H1
              clear H1
              simp only [Option.some.injEq, Prod.mk.injEq] at H
              obtain ⟨rfl, rfl⟩ := H
              go_wp2
              go_ret2
              exact ⟨_, by first | rfl | (simp [errW_none, errW_some] <;> rfl) | (simp [*, errW_none, errW_some] <;> rfl), by first | exact Kd.R_nil _ _ _ _ _ | exact Kd.N_nil _ _ _ _ _ | exact Kd.V_nil _ _ _ _ _ | exact Kd.Q_nil _ _ _ _ _ | exact Kd.S_nil _ _ _ _ _, by repeat (first | (with_reducible first | exact HB.out | apply below_alloc | apply pw_below_drewN | apply below_drew1) | exact HB.out)⟩
            · replace c8 := Bool.eq_false_iff.mpr c8
              subst c8
              have H1 : (nat_Binomial.l0 kj5 a0 (([1] : List Int)) (mn a1 (wrap64 (a0 - a1))) 0) = some (r1, r2) := by rw [if_neg (show ¬ (false = true) by decide)] at H; exact H
              clear H
              have H := H1
              clear H1
              obtain ⟨y101, hy101⟩ : ∃ y_ : List Int, y_ = (([1] : List Int)) := ⟨_, rfl⟩
              replace H : (nat_Binomial.l0 kj5 a0 y101 (mn a1 (wrap64 (a0 - a1))) 0) = some (r1, r2) := by first | (rw [hy101]; with_reducible exact H) | (have H2_ := (Option.bind_some _ _).symm.trans H; rw [hy101]; with_reducible exact H2_) | (have H2_ := (Option.bind_some _ _).symm.trans H; with_reducible exact H2_) | with_reducible exact H | (rw [hy101]; exact H) | exact H
              have Ny101 := Aside0.mk hy101
              clear hy101
              obtain ⟨ji9, hji9⟩ : ∃ j_ : Int, (mn a1 (wrap64 (a0 - a1))) = j_ := ⟨_, rfl⟩
              replace H : (nat_Binomial.l0 kj5 a0 y101 ji9 0) = some (r1, r2) := by first | (rw [hji9] at H; exact H) | (simp only [hji9] at H ⊢; exact H)
              have hji9_ : (if (wrap64 (a0 - a1)) < a1 then (wrap64 (a0 - a1)) else a1) = ji9 := hji9
              have H' := Aside0.mk H
              clear H
              go_wp2_with (first | ((with_reducible refine gate_dst (N := 21) rfl ?_); refine Kd.R_lit (Kd.int .u32) _ 97 ?hg (N := 21) ?hd (xs := ([1] : List Int)) (inner := [.int .u32 1]) (ok := fun _ => True) (okp := fun _ => True) ?hr ?hp (fun _ hk => hk) trivial (Below.refl _ _) (Nat.le_refl _) (by simp) ?_; (case hd => rfl); (case hg => rfl); (case hr => first | (go_simp; done) | (go_simp; rfl)); (case hp => exact (Reps.one (show Kd.M (Kd.int .u32) _ _ _ 1 [.int .u32 1] from rfl) (Reps.none _ _))); intro v102 w10 ho11 hb hg_ hnew_; clear hg_ hnew_; (first | rw [← Ny101.out] at ho11 | (simp only [Int.reduceToNat] at ho11; rw [← Ny101.out] at ho11)); have n0_ := Aside0.mk (Kd.R_lower ho11 (below_size (by repeat (first | (with_reducible first | exact HB.out | apply below_alloc | apply pw_below_drewN | apply below_drew1) | exact HB.out)))); have n1_ := Aside0.mk (below_step (by repeat (first | (with_reducible first | exact HB.out | apply below_alloc | apply pw_below_drewN | apply below_drew1) | exact HB.out)) hb); clear HB; have HO103 := n0_; have HB := n1_; clear n0_ n1_; clear hb ho11))
              go_loopg [6, 27] kj5 (fun kq v6 v27 w' => ∃ (x6_3 : List Int) (x27_3 : Int), v27 = .int .i64 x27_3 ∧ Aside0 (nat_Binomial.l0 kq a0 x6_3 ji9 x27_3 = some (r1, r2)) ∧ Aside0 (kq ≤ kj5) ∧ Aside0 (Kd.V (Kd.int .u32) 97 w' w.heap.size (fun _ => True) v6 x6_3) ∧ Aside0 (Below w.heap.size w w'))
              case atStart => exact ⟨(y101), (0), (by first | rfl | (simp; done) | (simp [*]; done)), H', ⟨Nat.le_refl _⟩, ⟨Kd.R_V (by (with_reducible repeat (first | apply Kd.R_alloc | apply Kd.R_drewN | apply Kd.R_drew)); exact HO103.out)⟩, ⟨by repeat (first | (with_reducible first | exact HB.out | apply below_alloc | apply pw_below_drewN | apply below_drew1) | exact HB.out)⟩⟩
              case round =>
                clear H'
                try clear p2
                try clear c4
                try clear c4b0
                try clear c4b1
                try clear c5
                try clear p6
                try clear c7
                try clear c7b0
                try clear c7b1
                try clear c8
                try clear p2
                obtain ⟨x6_3, x27_3, rfl, HA, HK3, HO_6, HB⟩ := hrel
                cases gk with
                | zero => exact absurd HA.out (by simp [nat_Binomial.l0])
                | succ k3 =>
                  have H := HA.out
                  clear HA
                  simp only [nat_Binomial.l0] at H
                  by_cases c12 : x27_3 < ji9
                  · rw [if_pos c12] at H
                    have c12b0 : decide (x27_3 < ji9) = true := decide_eq_true c12
                    clear c12
                    obtain ⟨y104, hy104⟩ : ∃ y_ : List Int, y_ = (([(wrap64 (a0 - x27_3)) % 4294967296] : List Int)) := ⟨_, rfl⟩
                    replace H : ((nat_times.f k3 x6_3 y104).bind fun t107 => ((nat_digit.f k3 t107 ((wrap64 (x27_3 + 1)) % 4294967296)).bind fun bt110 => (nat_Binomial.l0 k3 a0 bt110.1 ji9 (wrap64 (x27_3 + 1))))) = some (r1, r2) := by first | (rw [hy104]; with_reducible exact H) | (have H2_ := (Option.bind_some _ _).symm.trans H; rw [hy104]; with_reducible exact H2_) | (have H2_ := (Option.bind_some _ _).symm.trans H; with_reducible exact H2_) | with_reducible exact H | (rw [hy104]; exact H) | exact H
                    have Ny104 := Aside0.mk hy104
                    clear hy104
                    replace H := Option.bind_eq_some_iff.mp H
                    obtain ⟨t107, A130, H⟩ := H
                    replace H : ((nat_digit.f k3 t107 ((wrap64 (x27_3 + 1)) % 4294967296)).bind fun bt110 => (nat_Binomial.l0 k3 a0 bt110.1 ji9 (wrap64 (x27_3 + 1)))) = some (r1, r2) := H
                    have A13 := Aside0.mk A130
                    clear A130
                    replace H := Option.bind_eq_some_iff.mp H
                    obtain ⟨⟨t110, t113⟩, A140, H⟩ := H
                    replace H : (nat_Binomial.l0 k3 a0 t110 ji9 (wrap64 (x27_3 + 1))) = some (r1, r2) := H
                    have A14 := Aside0.mk A140
                    clear A140
                    have H' := Aside0.mk H
                    clear H
                    go_wp2_with (first | ((with_reducible refine gate_dst (N := 36) rfl ?_); refine Kd.R_lit (Kd.int .u32) _ 97 ?hg (N := 36) ?hd (xs := ([(wrap64 (a0 - x27_3)) % 4294967296] : List Int)) (inner := [.int .u32 ((wrap64 (a0 - x27_3)) % 4294967296)]) (ok := fun _ => True) (okp := fun _ => True) ?hr ?hp (fun _ hk => hk) trivial (Below.refl _ _) (Nat.le_refl _) (by simp) ?_; (case hd => rfl); (case hg => rfl); (case hr => first | (go_simp; done) | (go_simp; rfl)); (case hp => exact (Reps.one (show Kd.M (Kd.int .u32) _ _ _ ((wrap64 (a0 - x27_3)) % 4294967296) [.int .u32 ((wrap64 (a0 - x27_3)) % 4294967296)] from rfl) (Reps.none _ _))); intro v105 w15 ho16 hb hg_ hnew_; clear hg_ hnew_; (first | rw [← Ny104.out] at ho16 | (simp only [Int.reduceToNat] at ho16; rw [← Ny104.out] at ho16)); have n0_ := Aside0.mk (Kd.V_elder' (by (with_reducible repeat (first | apply Kd.V_alloc | apply Kd.V_drewN | apply Kd.V_drew)); exact HO_6.out) (Kd.R_base ho16) hb); have n1_ := Aside0.mk (Kd.R_lower ho16 (below_size (by repeat (first | (with_reducible first | exact HB.out | apply below_alloc | apply pw_below_drewN | apply below_drew1) | exact HB.out)))); have n2_ := Aside0.mk (below_step (by repeat (first | (with_reducible first | exact HB.out | apply below_alloc | apply pw_below_drewN | apply below_drew1) | exact HB.out)) hb); clear HO_6; clear HB; have HO_6 := n0_; have HO106 := n1_; have HB := n2_; clear n0_ n1_ n2_; clear hb ho16; obtain ⟨Ao17, co17, eo17⟩ := Kd.V_slice HO_6.out; subst eo17; obtain ⟨Ao18, co18, eo18⟩ := Kd.R_slice HO106.out; subst eo18) | ((with_reducible refine gate_callee (f := 116) rfl ?_); refine goesL_ (some 37) rfl rfl Try.func116 (by kernel_rfl) rfl #[.slice Ao17 x6_3.length co17, .slice Ao18 y104.length co18] rfl (by (try simp only [List.map_toArray, List.map_cons, List.map_nil]); first | done | rfl | (simp only [List.length_drop, List.length_take]; rfl)) ?_; (with_reducible refine (nat_times.calls k3 _ _ x6_3 _ _ y104 t107 _ ?side1 ?side2 ?side3 ?side4 A13.out).mono ?_); (case side1 => repeat (first | exact (Kd.V_reads' HO_6.out).2.2 | (with_reducible refine Kd.C_alloc ?_ _) | (with_reducible refine Kd.C_drewN ?_ _) | (with_reducible refine Kd.C_drew ?_))); (case side2 => exact (Kd.V_reads' HO_6.out).2.1); (case side3 => repeat (first | exact (Kd.R_reads' HO106.out).2.2 | (with_reducible refine Kd.C_alloc ?_ _) | (with_reducible refine Kd.C_drewN ?_ _) | (with_reducible refine Kd.C_drew ?_))); (case side4 => exact (Kd.R_reads' HO106.out).2.1); rintro e w19 ⟨v108, rfl, ho0, hb⟩; refine ⟨_, rfl, ?_⟩; have n0_ := Aside0.mk (Kd.V_below (by (with_reducible repeat (first | apply Kd.V_alloc | apply Kd.V_drewN | apply Kd.V_drew)); exact HO_6.out) hb); have n1_ := Aside0.mk (Kd.R_below (by (with_reducible repeat (first | apply Kd.R_alloc | apply Kd.R_drewN | apply Kd.R_drew)); exact HO106.out) hb); have n2_ := Aside0.mk (Kd.V_lower (Kd.V_mono (ok' := fun k_ => some k_ ≠ (.slice Ao18 y104.length co18 : Value).ownBlock) ho0 (fun k_ hk_ => (Kd.fresh' (Kd.R_lt (by (with_reducible repeat (first | apply Kd.R_alloc | apply Kd.R_drewN | apply Kd.R_drew)); exact HO106.out)) k_ hk_))) (below_size (by repeat (first | (with_reducible first | exact HB.out | apply below_alloc | apply pw_below_drewN | apply below_drew1) | exact HB.out)))); have n3_ := Aside0.mk (below_step (by repeat (first | (with_reducible first | exact HB.out | apply below_alloc | apply pw_below_drewN | apply below_drew1) | exact HB.out)) hb); clear HO_6; clear HO106; clear HB; have HO_6 := n0_; have HO106 := n1_; have HO109 := n2_; have HB := n3_; clear n0_ n1_ n2_ n3_; (try clear hb); (try clear hb2); (try clear hk); (try clear hi); (try clear ho0); obtain ⟨Ao20, co20, eo20⟩ := Kd.V_slice HO109.out; subst eo20) | ((with_reducible refine gate_callee (f := 115) rfl ?_); refine goesL_ (some 41) rfl rfl Try.func115 (by kernel_rfl) rfl #[.slice Ao20 t107.length co20, .int .u32 ((wrap64 (x27_3 + 1)) % 4294967296)] rfl (by (try simp only [List.map_toArray, List.map_cons, List.map_nil]); first | done | rfl | (simp only [List.length_drop, List.length_take]; rfl)) ?_; (with_reducible refine (nat_digit.calls k3 _ _ t107 ((wrap64 (x27_3 + 1)) % 4294967296) t110 t113 _ ?side1 ?side2 A14.out).mono ?_); (case side1 => repeat (first | exact (Kd.V_reads' HO109.out).2.2 | (with_reducible refine Kd.C_alloc ?_ _) | (with_reducible refine Kd.C_drewN ?_ _) | (with_reducible refine Kd.C_drew ?_))); (case side2 => exact (Kd.V_reads' HO109.out).2.1); rintro e w21 ⟨v111, rfl, ho0, hb⟩; refine ⟨_, rfl, ?_⟩; have n0_ := Aside0.mk (Kd.V_below (by (with_reducible repeat (first | apply Kd.V_alloc | apply Kd.V_drewN | apply Kd.V_drew)); exact HO_6.out) hb); have n1_ := Aside0.mk (Kd.R_below (by (with_reducible repeat (first | apply Kd.R_alloc | apply Kd.R_drewN | apply Kd.R_drew)); exact HO106.out) hb); have n2_ := Aside0.mk (Kd.V_below (by (with_reducible repeat (first | apply Kd.V_alloc | apply Kd.V_drewN | apply Kd.V_drew)); exact HO109.out) hb); have n3_ := Aside0.mk (Kd.V_lower (Kd.V_mono (ok' := fun k_ => some k_ ≠ (.slice Ao18 y104.length co18 : Value).ownBlock) ho0 (fun k_ hk_ => (Kd.fresh' (Kd.R_lt (by (with_reducible repeat (first | apply Kd.R_alloc | apply Kd.R_drewN | apply Kd.R_drew)); exact HO106.out)) k_ hk_))) (below_size (by repeat (first | (with_reducible first | exact HB.out | apply below_alloc | apply pw_below_drewN | apply below_drew1) | exact HB.out)))); have n4_ := Aside0.mk (below_step (by repeat (first | (with_reducible first | exact HB.out | apply below_alloc | apply pw_below_drewN | apply below_drew1) | exact HB.out)) hb); clear HO_6; clear HO106; clear HO109; clear HB; have HO_6 := n0_; have HO106 := n1_; have HO109 := n2_; have HO112 := n3_; have HB := n4_; clear n0_ n1_ n2_ n3_ n4_; (try clear hb); (try clear hb2); (try clear hk); (try clear hi); (try clear ho0)))
                    go_roundg k3
                    case measure => have := HJ2.out; have := HJ5.out; have := HK3.out; omega
                    case rel => exact ⟨(t110), (wrap64 (x27_3 + 1)), (by first | rfl | (simp; done) | (simp [*]; done)), H', ⟨by have := HJ2.out; have := HJ5.out; have := HK3.out; omega⟩, ⟨by (with_reducible repeat (first | apply Kd.V_alloc | apply Kd.V_drewN | apply Kd.V_drew)); exact Kd.V_mono HO112.out (fun _ hk => trivial)⟩, ⟨by repeat (first | (with_reducible first | exact HB.out | apply below_alloc | apply pw_below_drewN | apply below_drew1) | exact HB.out)⟩⟩
                  · rw [if_neg c12] at H
                    have c12b0 : decide (x27_3 < ji9) = false := decide_eq_false c12
                    clear c12
                    replace H := Option.bind_eq_some_iff.mp H
                    obtain ⟨t114, A220, H⟩ := H
                    replace H : (some (t114, 0)) = some (r1, r2) := H
                    have A22 := Aside0.mk A220
                    clear A220
                    simp only [Option.some.injEq, Prod.mk.injEq] at H
                    obtain ⟨rfl, rfl⟩ := H
                    obtain ⟨Ao23, co23, eo23⟩ := Kd.V_slice HO_6.out
                    subst eo23
                    go_wp2_with (first | ((with_reducible refine gate_callee (f := 103) rfl ?_); refine goesL_ (some 46) rfl rfl Try.func103 (by kernel_rfl) rfl #[.slice Ao23 x6_3.length co23] rfl (by (try simp only [List.map_toArray, List.map_cons, List.map_nil]); first | done | rfl | (simp only [List.length_drop, List.length_take]; rfl)) ?_; (with_reducible refine (nat_Trim.calls k3 _ _ x6_3 t114 _ ?side1 ?side2 A22.out).mono ?_); (case side1 => repeat (first | exact (Kd.V_reads' HO_6.out).2.2 | (with_reducible refine Kd.C_alloc ?_ _) | (with_reducible refine Kd.C_drewN ?_ _) | (with_reducible refine Kd.C_drew ?_))); (case side2 => exact (Kd.V_reads' HO_6.out).2.1); rintro e w24 ⟨v115, rfl, ho0, hb⟩; refine ⟨_, rfl, ?_⟩; have n0_ := Aside0.mk (Kd.V_elder' (by (with_reducible repeat (first | apply Kd.V_alloc | apply Kd.V_drewN | apply Kd.V_drew)); exact HO_6.out) (Kd.R_base ho0) hb); have n1_ := Aside0.mk (Kd.R_lower ho0 (below_size (by repeat (first | (with_reducible first | exact HB.out | apply below_alloc | apply pw_below_drewN | apply below_drew1) | exact HB.out)))); have n2_ := Aside0.mk (below_step (by repeat (first | (with_reducible first | exact HB.out | apply below_alloc | apply pw_below_drewN | apply below_drew1) | exact HB.out)) hb); clear HO_6; clear HB; have HO_6 := n0_; have HO116 := n1_; have HB := n2_; clear n0_ n1_ n2_; (try clear hb); (try clear hb2); (try clear hk); (try clear hi); (try clear ho0)))
                    go_ret2
                    exact ⟨_, by first | rfl | (simp [errW_none, errW_some] <;> rfl) | (simp only [← hji9]; first | rfl | (simp [errW_none, errW_some] <;> rfl)) | (simp [*, errW_none, errW_some] <;> rfl), by (with_reducible repeat (first | apply Kd.R_alloc | apply Kd.R_drewN | apply Kd.R_drew)); exact HO116.out, by repeat (first | (with_reducible first | exact HB.out | apply below_alloc | apply pw_below_drewN | apply below_drew1) | exact HB.out)⟩

end Go.Proofs.Ytifkbghnmhineaa.PAll
