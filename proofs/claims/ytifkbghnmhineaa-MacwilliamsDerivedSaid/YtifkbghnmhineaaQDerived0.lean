/- What functions of the program do and come to, for the statement MacwilliamsDerived, part 0. Conditions: as each theorem says. -/
import Derived.Below
import Derived.Laws.Slices
import Derived.WalkKit
import Derived.KernelRfl
import Derived.RowKit3
import Derived.Deep.Draws
import Derived.Deep.AppendLies
import Derived.Maps.AppendAt
import Derived.OwnWalk
import Derived.Laws.BytesArg
import Derived.Laws.MakeOwn
import Derived.Laws.OwnMore
import Derived.Deep.OwnRows
import Derived.Tactics
import Derived.Lib.ConvBytes
import Derived.Deep.LoopGhost
import Derived.Deep.QuietTactic
import Derived.BigQuiet
import Derived.WideLaws
import Derived.Deep.DeepCutAuto
import Derived.Deep.CutBlock
import Derived.Deep.RegionHeld3
import Derived.Laws.Rows
import Derived.Lib.AppendStr
import Derived.ArgAppend
import Derived.Laws.IdiomCopy
import Derived.RowKit
import Derived.OrdersHeld
import Derived.Laws.BitsLemmas
import Derived.Laws.StructEq
import Derived.Test.YtifkbghnmhineaaProg
import Derived.Lib.BitFns
import Derived.Lib.Tables
import Derived.Deep.Matrix
import Derived.OpenShut
import Derived.Carry
import Derived.ShutString
import Derived.Test.YtifkbghnmhineaaRows
import Derived.ProofKit
import Derived.JoinedOf
import Derived.ChangeOld
import Derived.SizedLaws

section
namespace Mw
open Go Go.RowKit
theorem cut_to_max {P : Program} (t e : TypeId) (kh : IntKind) {i : TypeInfo} (ht : P.underlying t = some (.slice e)) (hi : P.info? e = some i) (A : Option Addr) (n c : Nat) (j : Int) (h0 : 0 ≤ j) (hm : j ≤ n) (hc : n ≤ c) :
    ∀ W : World, (Instr.slice t (.slice A n c) none (some (.int kh j)) (some (.int kh j))).run P W = .ok (.slice A j.toNat j.toNat) W := by
  intro W
  have hel : P.elem t = e := by simp [Program.elem, ht]
  have hu : P.underlying t = some (.slice (P.elem t)) := by rw [hel]; exact ht
  have ha : (A.map fun x => x.add 0) = A := by cases A <;> simp [Addr.add]
  rw [run_slice_hm W t A n c hu kh kh j j h0 (Int.le_refl j) (by omega), hel]
  simp [Go.sizeOf, Go.typeInfo, hi, sliced, Result.andThen, ha]
end Mw
end
section
set_option linter.unusedVariables false
set_option linter.unusedSimpArgs false
namespace Go.Proofs.YtifkbghnmhineaaW.PrintWords
open Go.RowKit
structure Aside0 (p : Prop) : Prop where mk :: (out : p)
structure Drawn0 (w w' : World) : Prop where mk :: (out : ∃ n, w' = w.drewN n)
theorem Drawn0.refl (w : World) : Drawn0 w w := ⟨⟨0, rfl⟩⟩
theorem Drawn0.step {w w' : World} (h : Drawn0 w w') (n : Nat) : Drawn0 w (w'.drewN n) := by
  obtain ⟨m, rfl⟩ := h
  exact ⟨⟨m + n, World.drewN_drewN ..⟩⟩
theorem Drawn0.grown {w w' : World} (h : Drawn0 w w') : Grown w w' := by
  obtain ⟨n, rfl⟩ := h
  induction n with
  | zero => exact Grown.refl _
  | succ n ih => rw [← World.drew_drewN]; exact Grown.drew ih
theorem Drawn0.below {w w' : World} (h : Drawn0 w w') : Below w.heap.size w w' := by
  obtain ⟨n, rfl⟩ := h
  induction n with
  | zero => exact Below.refl _ _
  | succ n ih => rw [← World.drew_drewN]; exact ih.drew
def rd (xs : List Int) (i : Int) : Int := xs.getD i.toNat 0
theorem below_alloc {w W : World} (h : Below w.heap.size w W) (o : Obj) : Below w.heap.size w (W.alloc o) := h.alloc h.size o
theorem below_drew {B : Nat} {w W : World} (h : Below B w W) : Below B w W.drew := ⟨h.os, h.tape, h.output, h.size, h.block⟩
theorem pw_below_drewN {B : Nat} {w W : World} (h : Below B w W) (n : Nat) : Below B w (W.drewN n) := ⟨h.os, h.tape, h.output, h.size, h.block⟩
theorem below_then {B : Nat} {w w1 w2 : World} (h : Below B w w1) (hB : B ≤ w1.heap.size) (k : Below w1.heap.size w1 w2) : Below B w w2 :=
  h.trans ⟨k.os, k.tape, k.output, k.size, fun i hi => k.block i (Nat.lt_of_lt_of_le hi hB)⟩
theorem grown_of_below {w w1 : World} (h : Below w.heap.size w w1) (row : Option Nat) : w.grownBy w1 row := ⟨h.os, h.tape, h.output, h.size, fun i hi _ => h.block i hi⟩
theorem pw_cell_below {w w1 : World} (h : Below w.heap.size w w1) {a : Addr} {v : Value} (hc : w.cell? a = some v) : w1.cell? a = some v := (h.cell (World.block_lt_of_cell? w a hc)).trans hc
theorem add_plain (g j : Nat) : (⟨g, 0, none⟩ : Addr).add j = ⟨g, j, none⟩ := by unfold Addr.add; split <;> simp_all
def ReadsInt (w : World) (k : IntKind) (A : Option Addr) (n : Nat) (xs : List Int) : Prop :=
  xs.length = n ∧ n ≤ 9223372036854775807 ∧ (0 < n → ∃ ad, A = some ad ∧ ∀ j, j < n → w.cell? (ad.add j) = some (.int k (xs.getD j 0)))
theorem ReadsInt.at_ {w : World} {k : IntKind} {A : Option Addr} {n : Nat} {xs : List Int} (h : ReadsInt w k A n xs) (i : Int) (h0 : 0 ≤ i) (h1 : i < n) : ∃ ad, A = some ad ∧ w.cell? (ad.add i.toNat) = some (.int k (rd xs i)) := by
  obtain ⟨ad, e, hc⟩ := h.2.2 (by omega)
  exact ⟨ad, e, hc _ (by omega)⟩
theorem ReadsInt.below {w w1 : World} {k : IntKind} {A : Option Addr} {n : Nat} {xs : List Int} (h : ReadsInt w k A n xs) (hb : Below w.heap.size w w1) : ReadsInt w1 k A n xs :=
  ⟨h.1, h.2.1, fun hn => by
    obtain ⟨ad, e, hc⟩ := h.2.2 hn
    exact ⟨ad, e, fun j hj => pw_cell_below hb (hc j hj)⟩⟩
theorem own_nil (W : World) (base : Nat) (e : TypeId) (size : Nat) : W.ownsRow base e size (.slice none 0 0) 0 [] := ⟨by simp, .inl ⟨rfl, rfl⟩⟩
theorem own_base {w : World} {base : Nat} {e : TypeId} {size n : Nat} {v : Value} {xs : List Value} (h : w.ownsRow base e size v n xs) (k : Nat) (hk : v.ownBlock = some k) : base ≤ k := by
  rcases h.2 with ⟨rfl, _⟩ | ⟨g, cap, cur, rfl, hb, _⟩
  · simp [Value.ownBlock] at hk
  · have : g = k := by simpa [Value.ownBlock] using hk
    omega
theorem own_lt {w : World} {base : Nat} {e : TypeId} {size n : Nat} {v : Value} {xs : List Value} (h : w.ownsRow base e size v n xs) (k : Nat) (hk : v.ownBlock = some k) : k < w.heap.size := by
  rcases h.2 with ⟨rfl, _⟩ | ⟨g, cap, cur, rfl, hb, hh, _⟩
  · simp [Value.ownBlock] at hk
  · have : g = k := by simpa [Value.ownBlock] using hk
    subst this
    exact (Array.getElem?_eq_some_iff.1 hh).1
theorem pw_own_below {w w1 : World} {base : Nat} {e : TypeId} {size n : Nat} {v : Value} {xs : List Value} (h : w.ownsRow base e size v n xs) (hb : Below w.heap.size w w1) : w1.ownsRow base e size v n xs :=
  h.kept (grown_of_below hb none) (by cases v.ownBlock <;> simp)
def LeO {α : Type} (a b : Option α) : Prop := ∀ r, a = some r → b = some r
theorem LeO.refl {α : Type} (a : Option α) : LeO a a := fun _ h => h
theorem LeO.none {α : Type} (b : Option α) : LeO Option.none b := fun _ h => by cases h
theorem LeO.trans {α : Type} {a b c : Option α} (h : LeO a b) (k : LeO b c) : LeO a c := fun r hr => k r (h r hr)
theorem LeO.bind {α β : Type} {a a' : Option α} {f f' : α → Option β} (h : LeO a a') (k : ∀ x, LeO (f x) (f' x)) : LeO (a.bind f) (a'.bind f') := by
  intro r hr
  obtain ⟨x, hx, hf⟩ := Option.bind_eq_some_iff.1 hr
  exact Option.bind_eq_some_iff.2 ⟨x, h x hx, k x r hf⟩
theorem LeO.map {α β : Type} {a a' : Option α} (f : α → β) (h : LeO a a') : LeO (a.map f) (a'.map f) := by
  intro r hr
  obtain ⟨x, hx, hf⟩ := Option.map_eq_some_iff.1 hr
  exact Option.map_eq_some_iff.2 ⟨x, h x hx, hf⟩
def Reps {α : Type} (R : α → List Value → Prop) (size : Nat) (ps : List α) (cs : List Value) : Prop :=
  cs.length = ps.length * size ∧ ∀ j p, ps[j]? = some p → R p ((cs.drop (j * size)).take size)
theorem Reps.none {α : Type} (R : α → List Value → Prop) (size : Nat) : Reps R size [] [] := ⟨by simp, fun j p h => by simp at h⟩
theorem Reps.snoc {α : Type} {R : α → List Value → Prop} {size : Nat} {ps : List α} {cs c : List Value} {p : α} (h : Reps R size ps cs) (hp : R p c) (hc : c.length = size) : Reps R size (ps ++ [p]) (cs ++ c) := by
  refine ⟨by rw [List.length_append, h.1, hc, List.length_append, List.length_singleton, Nat.add_mul, Nat.one_mul], fun j q hq => ?_⟩
  rcases Nat.lt_or_ge j ps.length with hj | hj
  · rw [List.getElem?_append_left hj] at hq
    have h1 : j * size + size ≤ cs.length := by rw [h.1, ← Nat.succ_mul]; exact Nat.mul_le_mul_right _ hj
    have h2 := h.2 j q hq
    rw [List.drop_append_of_le_length (by omega), List.take_append_of_le_length (by rw [List.length_drop]; omega)]
    exact h2
  · have hj' : j = ps.length := by
      have := (List.getElem?_eq_some_iff.1 hq).1
      rw [List.length_append, List.length_singleton] at this
      omega
    subst hj'
    have hq' : p = q := by simpa using hq
    subst hq'
    rw [← h.1, List.drop_left, ← hc, List.take_length]
    exact hp
theorem Reps.imp_ {α : Type} {R R' : α → List Value → Prop} {size : Nat} {ps : List α} {cs : List Value} (h : Reps R size ps cs) (hR : ∀ p c, R p c → R' p c) : Reps R' size ps cs := ⟨h.1, fun j p hj => hR _ _ (h.2 j p hj)⟩
def ReadsRow {α : Type} (R : α → List Value → Prop) (size : Nat) (w : World) (A : Option Addr) (n : Nat) (ps : List α) : Prop :=
  ps.length = n ∧ n ≤ 9223372036854775807 ∧ (0 < n → ∃ ad, A = some ad ∧ ∀ j p, ps[j]? = some p → ∃ c, c.length = size ∧ R p c ∧ ∀ i u, c[i]? = some u → w.cell? (ad.add (j * size + i)) = some u)
theorem ReadsRow.get_ {α : Type} {R : α → List Value → Prop} {size : Nat} {w : World} {A : Option Addr} {n : Nat} {ps : List α} (h : ReadsRow R size w A n ps) (d : α) (i : Int) (h0 : 0 ≤ i) (h1 : i < n) :
    ∃ ad c, A = some ad ∧ c.length = size ∧ R (ps.getD i.toNat d) c ∧ ∀ j u, c[j]? = some u → w.cell? (ad.add (i.toNat * size + j)) = some u := by
  obtain ⟨ad, e, hc⟩ := h.2.2 (by omega)
  have hl : i.toNat < ps.length := by have := h.1; omega
  obtain ⟨c, hs, hr, hcell⟩ := hc i.toNat _ (List.getElem?_eq_getElem hl)
  refine ⟨ad, c, e, hs, ?_, hcell⟩
  rw [List.getD_eq_getElem?_getD, List.getElem?_eq_getElem hl]
  exact hr
theorem ReadsRow.imp_ {α : Type} {R R' : α → List Value → Prop} {size : Nat} {w w1 : World} {A : Option Addr} {n : Nat} {ps : List α} (h : ReadsRow R size w A n ps) (hb : Below w.heap.size w w1) (hR : ∀ p c, R p c → R' p c) : ReadsRow R' size w1 A n ps :=
  ⟨h.1, h.2.1, fun hn => by
    obtain ⟨ad, e, hc⟩ := h.2.2 hn
    refine ⟨ad, e, fun j p hj => ?_⟩
    obtain ⟨c, hs, hr, hcell⟩ := hc j p hj
    exact ⟨c, hs, hR _ _ hr, fun i u hu => pw_cell_below hb (hcell i u hu)⟩⟩
theorem own_reads_row {α : Type} {R : α → List Value → Prop} {w : World} {base n size : Nat} {e : TypeId} {v : Value} {ps : List α} {cs : List Value} (h : w.ownsRow base e size v n cs) (hR : Reps R size ps cs) (hn : ps.length = n) :
    ∃ A c, v = .slice A n c ∧ ReadsRow R size w A n ps := by
  rcases Nat.eq_zero_or_pos n with h0 | h0
  · rcases h.2 with ⟨rfl, rfl⟩ | ⟨g, cap, cur, rfl, _⟩
    · exact ⟨none, 0, rfl, hn, by omega, fun hp => absurd hp (by omega)⟩
    · exact ⟨_, cap, rfl, hn, by omega, fun hp => absurd hp (by omega)⟩
  · obtain ⟨g, cap, rfl, _, _⟩ := h.form h0
    have hm : n ≤ 9223372036854775807 := by
      rcases h.2 with ⟨_, h1⟩ | ⟨g', cap', cur, he, _, _, h1, h2, _⟩
      · omega
      · simp only [maxLen] at h2
        omega
    refine ⟨_, cap, rfl, hn, hm, fun _ => ⟨_, rfl, fun j p hj => ⟨(cs.drop (j * size)).take size, ?_, hR.2 j p hj, fun i u hu => ?_⟩⟩⟩
    · have hjl := (List.getElem?_eq_some_iff.1 hj).1
      have h1 : j * size + size ≤ cs.length := by rw [hR.1, ← Nat.succ_mul]; exact Nat.mul_le_mul_right _ hjl
      rw [List.length_take, List.length_drop]
      omega
    · refine h.cells (g := g) rfl _ u ?_
      rw [List.getElem?_take] at hu
      split at hu
      · rw [List.getElem?_drop] at hu
        exact hu
      · cases hu
section
variable {P : Program} {ops : Array Oper} {rest : List Oper} {o : Oper} {a : Act} {Q : Exit → Act → World → Prop}
theorem print_append_cells {w0 W : World} (base : Nat) (hgd : o.guard = none) (s x : Operand) (t e : TypeId) (z : Value) (size bytes : Nat)
    (ho : o.op = .call { callee := .builtin .append, args := #[s, x], argTypes := #[t, t] })
    (ht : P.underlying t = some (.slice e)) (hinfo : (P.info? e).map (fun i => (i.zero, i.size, i.bytes)) = some (some z, size, bytes)) (hz : z.cells.size = size) (hs0 : 0 < size) (hb0 : 0 < bytes)
    (v : Value) (n : Nat) (xs ys : List Value) (hs : a.eval s = v) (hx : a.eval x = .slice (some ⟨W.heap.size, 0, none⟩) 1 1) (hys : ys.length = size) (h1 : ∀ u ∈ ys, u.oneCell' = true)
    (HO : W.ownsRow base e size v n xs) (HB : Below base w0 W) (hbase : base ≤ W.heap.size) (hl : (n + 1) * bytes ≤ 140737488355328)
    (h : ∀ v1 w1, w1.ownsRow base e size v1 (n + 1) (xs ++ ys) → Below base w0 w1 → W.grownBy w1 v.ownBlock → (v1.ownBlock = v.ownBlock ∨ ∃ b, v1.ownBlock = some b ∧ W.heap.size ≤ b) → wpList P ops Q rest (a.put o.dst v1) w1) :
    wpList P ops Q (o :: rest) a (W.alloc (.cells ys.toArray e)) := by
  obtain ⟨i0, hi, hzz⟩ := Option.map_eq_some_iff.1 hinfo
  simp only [Prod.mk.injEq] at hzz
  obtain ⟨hz0, hz1, hz2⟩ := hzz
  have hlen : n + 1 ≤ 140737488355328 := Nat.le_trans (Nat.le_mul_of_pos_right _ hb0) hl
  refine wpList_append_own_at (W.alloc (.cells ys.toArray e)) hgd s x t ho base e i0 z size bytes ht hi hz0 hz1 hz2 hz hs0 v n xs hs (HO.alloc _) ⟨W.heap.size, 0, none⟩ 1 1 ys hx (by rw [hys]; simp)
    (by simpa using World.news_of_block (cs := ys.toArray) (t := e) (fr := (0, 0)) (heap_alloc_new W (.cells ys.toArray e))) h1 (by simp only [maxLen]; omega) hl (by simp; omega) ?_
  intro v1 w1 hown hg _ hat
  refine h v1 w1 hown ((HB.alloc hbase _).grown hg (by simp; omega) (own_base HO)) (World.grownBy.trans (World.grownBy_alloc W _ _) hg) ?_
  rcases hat with hat | hat
  · exact .inl hat
  · exact .inr ⟨_, hat, by simp⟩
end
theorem own_ne {w : World} {base : Nat} {e t : TypeId} {size n g : Nat} {v : Value} {xs : List Value} {cs : Array Value} (h : w.ownsRow base e size v n xs) (hg : w.heap[g]? = some (.cells cs t (0, 0))) (hne : e ≠ t) : some g ≠ v.ownBlock := by
  rcases h.2 with ⟨rfl, _⟩ | ⟨g', cap, cur, rfl, _, hh, _⟩
  · simp [Value.ownBlock]
  · intro he
    have : g = g' := by simpa [Value.ownBlock] using he
    subst this
    rw [hg] at hh
    injection hh with hh
    injection hh with _ ht
    exact hne ht.symm
theorem blk_lt {w : World} {g : Nat} {o : Obj} (h : w.heap[g]? = some o) : g < w.heap.size := (Array.getElem?_eq_some_iff.1 h).1
def KeepBut (w w' : World) (g : Nat) (row : Option Nat) : Prop := w.heap.size ≤ w'.heap.size ∧ ∀ i, i < w.heap.size → i ≠ g → some i ≠ row → w'.heap[i]? = w.heap[i]?
theorem KeepBut.refl (w : World) (g : Nat) (row : Option Nat) : KeepBut w w g row := ⟨Nat.le_refl _, fun _ _ _ _ => rfl⟩
theorem KeepBut.of_below {w w1 : World} (h : Below w.heap.size w w1) (g : Nat) (row : Option Nat) : KeepBut w w1 g row := ⟨h.size, fun i hi _ _ => h.block i hi⟩
theorem KeepBut.trans {w w1 w2 : World} {g : Nat} {row row1 : Option Nat} (h : KeepBut w w1 g row) (k : KeepBut w1 w2 g row1) (hr : row1 = row ∨ ∃ b, row1 = some b ∧ w.heap.size ≤ b) : KeepBut w w2 g row :=
  ⟨Nat.le_trans h.1 k.1, fun i hi hg hn => by
    refine (k.2 i (Nat.lt_of_lt_of_le hi h.1) hg ?_).trans (h.2 i hi hg hn)
    rcases hr with rfl | ⟨b, rfl, hb⟩
    · exact hn
    · intro e
      injection e with e
      omega⟩
theorem KeepBut.blk {w w1 : World} {g g' : Nat} {row : Option Nat} {o : Obj} (h : KeepBut w w1 g row) (hb : w.heap[g']? = some o) (hg : g' ≠ g) (hr : some g' ≠ row) : w1.heap[g']? = some o := (h.2 g' (blk_lt hb) hg hr).trans hb
theorem KeepBut.own {w w1 : World} {g : Nat} {row : Option Nat} {base : Nat} {e : TypeId} {size n : Nat} {v : Value} {xs : List Value} (h : KeepBut w w1 g row) (ho : w.ownsRow base e size v n xs) (hg : v.ownBlock ≠ some g) (hr : v.ownBlock = none ∨ v.ownBlock ≠ row) : w1.ownsRow base e size v n xs := by
  obtain ⟨h1, h2⟩ := ho
  refine ⟨h1, ?_⟩
  rcases h2 with h2 | ⟨b, cap, cur, rfl, hb, hh, r⟩
  · exact .inl h2
  · refine .inr ⟨b, cap, cur, rfl, hb, h.blk hh ?_ ?_, r⟩
    · intro e
      exact hg (by rw [← e]; rfl)
    · rcases hr with hr | hr
      · simp [Value.ownBlock] at hr
      · exact hr
def Ev {α : Type} (g : Nat → Option α) (r : α) : Prop := ∃ K, ∀ k, K ≤ k → g k = some r
theorem Ev.now {α : Type} (r : α) : Ev (fun _ => some r) r := ⟨0, fun _ _ => rfl⟩
theorem Ev.bind {α β : Type} {g : Nat → Option α} {f : Nat → α → Option β} {a : α} {r : β} (h : Ev g a) (k : Ev (fun n => f n a) r) : Ev (fun n => (g n).bind (f n)) r := by
  obtain ⟨K, h⟩ := h
  obtain ⟨K', k⟩ := k
  refine ⟨max K K', fun n hn => ?_⟩
  have h1 := h n (by omega)
  have h2 := k n (by omega)
  simp only [h1, Option.bind_some]
  exact h2
theorem Ev.step {α : Type} {g f : Nat → Option α} {r : α} (h : ∀ k, g (k + 1) = f k) (k : Ev f r) : Ev g r := by
  obtain ⟨K, k⟩ := k
  refine ⟨K + 1, fun n hn => ?_⟩
  obtain ⟨m, rfl⟩ : ∃ m, n = m + 1 := ⟨n - 1, by omega⟩
  rw [h]
  exact k m (by omega)
theorem Ev.congr {α : Type} {g f : Nat → Option α} {r : α} (h : ∀ k, g k = f k) (k : Ev f r) : Ev g r := by
  obtain ⟨K, k⟩ := k
  exact ⟨K, fun n hn => (h n).trans (k n hn)⟩
theorem own_weaken {w : World} {base base' : Nat} {e : TypeId} {size n : Nat} {v : Value} {xs : List Value} (h : w.ownsRow base e size v n xs) (hb : base' ≤ base) : w.ownsRow base' e size v n xs := by
  obtain ⟨h1, h2⟩ := h
  refine ⟨h1, ?_⟩
  rcases h2 with h2 | ⟨g, cap, cur, rfl, hg, r⟩
  · exact .inl h2
  · exact .inr ⟨g, cap, cur, rfl, Nat.le_trans hb hg, r⟩
section
variable {α : Type} {enc : α → Value} {d : α}
def encs (enc : α → Value) (xs : List α) : List Value := xs.map enc
def rdOf (d : α) (xs : List α) (i : Int) : α := xs.getD i.toNat d
theorem encs_length (xs : List α) : (encs enc xs).length = xs.length := by simp [encs]
theorem encs_get (xs : List α) (j : Nat) (h : j < xs.length) : (encs enc xs)[j]? = some (enc (xs.getD j d)) := by
  simp [encs, List.getElem?_eq_getElem h, List.getD_eq_getElem?_getD]
def ReadsOf (enc : α → Value) (d : α) (w : World) (A : Option Addr) (n : Nat) (xs : List α) : Prop :=
  xs.length = n ∧ n ≤ 9223372036854775807 ∧ (0 < n → ∃ ad, A = some ad ∧ ∀ j, j < n → w.cell? (ad.add j) = some (enc (xs.getD j d)))
theorem ReadsOf.at_ {w : World} {A : Option Addr} {n : Nat} {xs : List α} (h : ReadsOf enc d w A n xs) (i : Int) (h0 : 0 ≤ i) (h1 : i < n) : ∃ ad, A = some ad ∧ w.cell? (ad.add i.toNat) = some (enc (rdOf d xs i)) := by
  obtain ⟨ad, e, hc⟩ := h.2.2 (by omega)
  exact ⟨ad, e, hc _ (by omega)⟩
theorem ReadsOf.below {w w1 : World} {A : Option Addr} {n : Nat} {xs : List α} (h : ReadsOf enc d w A n xs) (hb : Below w.heap.size w w1) : ReadsOf enc d w1 A n xs :=
  ⟨h.1, h.2.1, fun hn => by
    obtain ⟨ad, e, hc⟩ := h.2.2 hn
    exact ⟨ad, e, fun j hj => pw_cell_below hb (hc j hj)⟩⟩
theorem own_at_of {W : World} {base g n cap : Nat} {e : TypeId} {xs : List α} (h : W.ownsRow base e 1 (.slice (some ⟨g, 0, none⟩) n cap) n (encs enc xs)) (i : Int) (h0 : 0 ≤ i) (h1 : i < n) :
    W.cell? ⟨g, i.toNat, none⟩ = some (enc (rdOf d xs i)) ∧ W.frozen? ⟨g, i.toNat, none⟩ = false := by
  have hl : xs.length = n := by have := h.1; simp [encs] at this; exact this
  constructor
  · have hc := h.cells (g := g) rfl i.toNat _ (encs_get (d := d) xs i.toNat (by omega))
    rwa [add_plain] at hc
  · rcases h.2 with ⟨h', _⟩ | ⟨g', cap', cur, h', _, hh, _⟩
    · cases h'
    · have : g = g' := by injection h' with h'; injection h' with h'; injection h' with h'
      subst this
      simp [World.frozen?, hh]
theorem own_store_of {W : World} {base g n cap : Nat} {e : TypeId} {xs : List α} (h : W.ownsRow base e 1 (.slice (some ⟨g, 0, none⟩) n cap) n (encs enc xs)) (i : Int) (x : α) :
    (W.setCell ⟨g, i.toNat, none⟩ (enc x)).ownsRow base e 1 (.slice (some ⟨g, 0, none⟩) n cap) n (encs enc (xs.set i.toNat x)) ∧ W.grownBy (W.setCell ⟨g, i.toNat, none⟩ (enc x)) (some g) := by
  have hs := h.stored i.toNat (enc x)
  have he : (encs enc xs).set i.toNat (enc x) = encs enc (xs.set i.toNat x) := by simp [encs, List.map_set]
  rwa [he] at hs
end
theorem own_le {w : World} {base n m c size : Nat} {e : TypeId} {A : Option Addr} {xs : List Value} (h : w.ownsRow base e size (.slice A m c) n xs) : m ≤ c := by
  rcases h.2 with ⟨he, _⟩ | ⟨g, cap, cur, he, _, _, hnc, _⟩
  · injection he with _ h2 h3
    omega
  · injection he with _ h2 h3
    omega
def OwnRow {α : Type} (R : α → List Value → Prop) (e : TypeId) (size : Nat) (w : World) (base : Nat) (v : Value) (ps : List α) : Prop :=
  ∃ inner, w.ownsRow base e size v ps.length inner ∧ Reps R size ps inner
section
variable {α : Type} {R R' : α → List Value → Prop} {e : TypeId} {size : Nat} {w w1 : World} {base : Nat} {v : Value} {ps : List α}
theorem OwnRow.none_ (R : α → List Value → Prop) (e : TypeId) (size : Nat) (w : World) (base : Nat) : OwnRow R e size w base (.slice none 0 0) [] := ⟨[], own_nil _ _ _ _, Reps.none _ _⟩
theorem OwnRow.imp_ (h : OwnRow R e size w base v ps) (hR : ∀ p c, R p c → R' p c) : OwnRow R' e size w base v ps := by
  obtain ⟨inner, ho, hr⟩ := h
  exact ⟨inner, ho, hr.imp_ hR⟩
theorem OwnRow.below (h : OwnRow R e size w base v ps) (hb : Below w.heap.size w w1) : OwnRow R e size w1 base v ps := by
  obtain ⟨inner, ho, hr⟩ := h
  exact ⟨inner, pw_own_below ho hb, hr⟩
theorem OwnRow.keep (h : OwnRow R e size w base v ps) {g : Nat} {t : TypeId} {cells : Array Value} (hb : w.heap[g]? = some (.cells cells t (0, 0))) (ht : e ≠ t) (hk : KeepBut w w1 g none) : OwnRow R e size w1 base v ps := by
  obtain ⟨inner, ho, hr⟩ := h
  exact ⟨inner, hk.own ho (Ne.symm (own_ne ho hb ht)) (by cases v.ownBlock <;> simp), hr⟩
theorem OwnRow.reads (h : OwnRow R e size w base v ps) : ∃ A c, v = .slice A ps.length c ∧ ps.length ≤ c ∧ ReadsRow R size w A ps.length ps := by
  obtain ⟨inner, ho, hr⟩ := h
  obtain ⟨A, c, rfl, hrow⟩ := own_reads_row ho hr rfl
  exact ⟨A, c, rfl, own_le ho, hrow⟩
end
section
variable {P : Program} {ops : Array Oper} {rest : List Oper} {o : Oper} {a : Act} {Q : Exit → Act → World → Prop} {α : Type} {R : α → List Value → Prop}
theorem OwnRow.append {w0 W : World} (base : Nat) (hgd : o.guard = none) (s x : Operand) (t e : TypeId) (z : Value) (size bytes : Nat)
    (ho : o.op = .call { callee := .builtin .append, args := #[s, x], argTypes := #[t, t] })
    (ht : P.underlying t = some (.slice e)) (hinfo : (P.info? e).map (fun i => (i.zero, i.size, i.bytes)) = some (some z, size, bytes)) (hz : z.cells.size = size) (hs0 : 0 < size) (hb0 : 0 < bytes)
    (v : Value) (ps : List α) (p : α) (cs : List Value) (hs : a.eval s = v) (hx : a.eval x = .slice (some ⟨W.heap.size, 0, none⟩) 1 1) (hp : R p cs) (hcs : cs.length = size) (h1 : ∀ u ∈ cs, u.oneCell' = true)
    (HO : OwnRow R e size W base v ps) (HB : Below base w0 W) (hbase : base ≤ W.heap.size) (hl : (ps.length + 1) * bytes ≤ 140737488355328)
    (h : ∀ v1 w1, OwnRow R e size w1 base v1 (ps ++ [p]) → Below base w0 w1 → W.grownBy w1 v.ownBlock → (v1.ownBlock = v.ownBlock ∨ ∃ b, v1.ownBlock = some b ∧ W.heap.size ≤ b) → wpList P ops Q rest (a.put o.dst v1) w1) :
    wpList P ops Q (o :: rest) a (W.alloc (.cells cs.toArray e)) := by
  obtain ⟨inner, hown, hr⟩ := HO
  refine print_append_cells base hgd s x t e z size bytes ho ht hinfo hz hs0 hb0 v ps.length inner cs hs hx hcs h1 hown HB hbase hl ?_
  intro v1 w1 hown1 hb1 hg1 hat1
  exact h v1 w1 ⟨inner ++ cs, by rw [List.length_append, List.length_singleton]; exact hown1, hr.snoc hp hcs⟩ hb1 hg1 hat1
end
theorem ReadsRow.inner_ {α : Type} {R : α → List Value → Prop} {size : Nat} {w : World} {ad : Addr} {n : Nat} {ps : List α} (h : ReadsRow R size w (some ad) n ps) :
    ∃ inner, Reps R size ps inner ∧ ∀ j u, inner[j]? = some u → w.cell? (ad.add j) = some u := by
  have key : ∀ m, m ≤ ps.length → ∃ inner, Reps R size (ps.take m) inner ∧ ∀ j u, inner[j]? = some u → w.cell? (ad.add j) = some u := by
    intro m
    induction m with
    | zero => exact fun _ => ⟨[], Reps.none _ _, fun j u hu => by simp at hu⟩
    | succ m ih =>
      intro hm
      obtain ⟨inner, hr, hc⟩ := ih (by omega)
      obtain ⟨ad', he, hcell⟩ := h.2.2 (by have := h.1; omega)
      injection he with he
      subst he
      obtain ⟨c, hcl, hp, hcc⟩ := hcell m _ (List.getElem?_eq_getElem (show m < ps.length by omega))
      refine ⟨inner ++ c, ?_, fun j u hu => ?_⟩
      · rw [List.take_succ_eq_append_getElem (show m < ps.length by omega)]
        exact hr.snoc hp hcl
      · have hil : inner.length = m * size := by rw [hr.1, List.length_take, Nat.min_eq_left (by omega)]
        rcases Nat.lt_or_ge j inner.length with hj | hj
        · rw [List.getElem?_append_left hj] at hu
          exact hc j u hu
        · rw [List.getElem?_append_right hj] at hu
          have := hcc (j - inner.length) u hu
          rwa [hil, Nat.add_sub_cancel' (by omega)] at this
  obtain ⟨inner, hr, hc⟩ := key ps.length (Nat.le_refl _)
  rw [List.take_length] at hr
  exact ⟨inner, hr, hc⟩
structure Kd (α : Type) where
  sz : Nat
  E : List Nat
  K : World → α → List Value → Prop
  M : World → Nat → (Nat → Prop) → α → List Value → Prop
  K_len : ∀ {w x cs}, K w x cs → cs.length = sz
  K_one : ∀ {w x cs}, K w x cs → ∀ u ∈ cs, u.oneCell' = true
  K_below : ∀ {w w1 : World} {x cs}, Below w.heap.size w w1 → K w x cs → K w1 x cs
  K_of_M : ∀ {w base ok x cs}, M w base ok x cs → K w x cs
  M_mono : ∀ {w base ok ok' x cs}, (∀ k, ok k → ok' k) → M w base ok x cs → M w base ok' x cs
  M_bound : ∀ {w : World} {base ok x cs}, M w base ok x cs → M w base (fun k => ok k ∧ base ≤ k ∧ k < w.heap.size ∧ ∃ q, q ∈ E ∧ ∃ cells, w.heap[k]? = some (.cells cells q (0, 0))) x cs
  M_move : ∀ {w w1 : World} {base ok x cs}, (∀ k, ok k → w1.heap[k]? = w.heap[k]?) → M w base ok x cs → M w1 base ok x cs
  M_lower : ∀ {w base base' ok x cs}, base' ≤ base → M w base ok x cs → M w base' ok x cs
theorem own_move {w w1 : World} {base : Nat} {e : TypeId} {size n : Nat} {v : Value} {xs : List Value} (h : w.ownsRow base e size v n xs) (hm : ∀ k, v.ownBlock = some k → w1.heap[k]? = w.heap[k]?) : w1.ownsRow base e size v n xs := by
  obtain ⟨h1, h2⟩ := h
  refine ⟨h1, ?_⟩
  rcases h2 with h2 | ⟨g, cap, cur, rfl, hg, hh, r⟩
  · exact .inl h2
  · exact .inr ⟨g, cap, cur, rfl, hg, (hm g (by simp [Value.ownBlock])).trans hh, r⟩
theorem own_typed {w : World} {base : Nat} {e : TypeId} {size n : Nat} {v : Value} {xs : List Value} (h : w.ownsRow base e size v n xs) (k : Nat) (hk : v.ownBlock = some k) : ∃ cells, w.heap[k]? = some (.cells cells e (0, 0)) := by
  rcases h.2 with ⟨rfl, _⟩ | ⟨g, cap, cur, rfl, hg, hh, r⟩
  · simp [Value.ownBlock] at hk
  · have : g = k := by simpa [Value.ownBlock] using hk
    subst this
    exact ⟨cur, hh⟩
namespace Kd
def C {α : Type} (d : Kd α) (w : World) (A : Option Addr) (n : Nat) (xs : List α) : Prop := ReadsRow (d.K w) d.sz w A n xs
def R {α : Type} (d : Kd α) (e : Nat) (w : World) (base : Nat) (ok : Nat → Prop) (v : Value) (xs : List α) : Prop :=
  (∀ k, v.ownBlock = some k → ok k) ∧ OwnRow (d.M w base (fun k => ok k ∧ some k ≠ v.ownBlock)) e d.sz w base v xs
section
variable {α : Type} {d : Kd α} {e : Nat} {w w1 : World} {base : Nat} {ok ok' : Nat → Prop} {v : Value} {xs : List α}
theorem C_below {A : Option Addr} {n : Nat} (h : d.C w A n xs) (hb : Below w.heap.size w w1) : d.C w1 A n xs := ReadsRow.imp_ h hb (fun _ _ hp => d.K_below hb hp)
theorem R_nil (d : Kd α) (e : Nat) (w : World) (base : Nat) (ok : Nat → Prop) : d.R e w base ok (.slice none 0 0) [] := ⟨fun k hk => by simp [Value.ownBlock] at hk, OwnRow.none_ _ _ _ _ _⟩
theorem R_mono (h : d.R e w base ok v xs) (hok : ∀ k, ok k → ok' k) : d.R e w base ok' v xs := ⟨fun k hk => hok k (h.1 k hk), h.2.imp_ (fun _ _ hp => d.M_mono (fun k hk => ⟨hok k hk.1, hk.2⟩) hp)⟩
theorem R_bound (h : d.R e w base ok v xs) : d.R e w base (fun k => ok k ∧ base ≤ k ∧ k < w.heap.size ∧ ∃ q, q ∈ e :: d.E ∧ ∃ cells, w.heap[k]? = some (.cells cells q (0, 0))) v xs := by
  obtain ⟨h0, inner, ho, hr⟩ := h
  refine ⟨fun k hk => ?_, inner, ho, hr.imp_ (fun _ _ hp => d.M_mono (fun k hk => ?_) (d.M_bound hp))⟩
  · obtain ⟨cells, hc⟩ := own_typed ho k hk
    exact ⟨h0 k hk, own_base ho k hk, own_lt ho k hk, e, List.mem_cons_self, cells, hc⟩
  · obtain ⟨⟨h1, h2⟩, h3, h4, q, hq, hc⟩ := hk
    exact ⟨⟨h1, h3, h4, q, List.mem_cons_of_mem _ hq, hc⟩, h2⟩
theorem R_move (h : d.R e w base ok v xs) (hm : ∀ k, ok k → w1.heap[k]? = w.heap[k]?) : d.R e w1 base ok v xs := by
  obtain ⟨h0, inner, ho, hr⟩ := h
  exact ⟨h0, inner, own_move ho (fun k hk => hm k (h0 k hk)), hr.imp_ (fun _ _ hp => d.M_move (fun k hk => hm k hk.1) hp)⟩
theorem R_lower {base' : Nat} (h : d.R e w base ok v xs) (hb : base' ≤ base) : d.R e w base' ok v xs := by
  obtain ⟨h0, inner, ho, hr⟩ := h
  exact ⟨h0, inner, own_weaken ho hb, hr.imp_ (fun _ _ hp => d.M_lower hb hp)⟩
theorem R_step (h : d.R e w base ok v xs) (hm : ∀ k, ok k → k < w.heap.size → w1.heap[k]? = w.heap[k]?) : d.R e w1 base ok v xs :=
  R_mono (R_move (R_bound h) (fun k hk => hm k hk.1 hk.2.2.1)) (fun _ hk => hk.1)
theorem M_step {x : α} {cs : List Value} (h : d.M w base ok x cs) (hm : ∀ k, ok k → k < w.heap.size → w1.heap[k]? = w.heap[k]?) : d.M w1 base ok x cs :=
  d.M_mono (fun _ hk => hk.1) (d.M_move (fun k hk => hm k hk.1 hk.2.2.1) (d.M_bound h))
theorem R_below (h : d.R e w base ok v xs) (hb : Below w.heap.size w w1) : d.R e w1 base ok v xs := R_step h (fun k _ hk => hb.block k hk)
theorem M_below {x : α} {cs : List Value} (h : d.M w base ok x cs) (hb : Below w.heap.size w w1) : d.M w1 base ok x cs := M_step h (fun k _ hk => hb.block k hk)
theorem R_far (h : d.R e w base ok v xs) {p : Addr} (hok : ∀ k, ok k → k ≠ p.block) (u : Value) : d.R e (w.setCell p u) base ok v xs := R_step h (fun k ho _ => Below.heap_setCell w p u k (hok k ho))
theorem R_reads (h : d.R e w base ok v xs) : ∃ A c, v = .slice A xs.length c ∧ xs.length ≤ c ∧ d.C w A xs.length xs := by
  obtain ⟨A, c, he, hl, hr⟩ := OwnRow.reads h.2
  exact ⟨A, c, he, hl, hr.imp_ (Below.refl _ _) (fun _ _ hp => d.K_of_M hp)⟩
theorem R_slice (h : d.R e w base ok v xs) : ∃ A c, v = .slice A xs.length c := by
  obtain ⟨A, c, he, _⟩ := R_reads h
  exact ⟨A, c, he⟩
theorem R_own (h : d.R e w base ok v xs) : ∃ inner, w.ownsRow base e d.sz v xs.length inner := by
  obtain ⟨_, inner, ho, _⟩ := h
  exact ⟨inner, ho⟩
end
def scalar {α : Type} (enc : α → Value) (h1 : ∀ x, (enc x).oneCell' = true) : Kd α where
  sz := 1
  E := []
  K := fun _ x cs => cs = [enc x]
  M := fun _ _ _ x cs => cs = [enc x]
  K_len := fun h => by rw [h]; rfl
  K_one := fun h u hu => by
    rw [h] at hu
    rw [List.mem_singleton.1 hu]
    exact h1 _
  K_below := fun _ h => h
  K_of_M := fun h => h
  M_mono := fun _ h => h
  M_bound := fun h => h
  M_move := fun _ h => h
  M_lower := fun _ h => h
def int (k : IntKind) : Kd Int := scalar (Value.int k) (fun _ => rfl)
def bool : Kd Bool := scalar Value.bool (fun _ => rfl)
def slice {α : Type} (e : Nat) (d : Kd α) : Kd (List α) where
  sz := 1
  E := e :: d.E
  K := fun w xs cs => ∃ A c, cs = [.slice A xs.length c] ∧ xs.length ≤ c ∧ d.C w A xs.length xs
  M := fun w base ok xs cs => ∃ v, cs = [v] ∧ d.R e w base ok v xs
  K_len := by
    rintro w x cs ⟨A, c, rfl, _⟩
    rfl
  K_one := by
    rintro w x cs ⟨A, c, rfl, _⟩ u hu
    rw [List.mem_singleton.1 hu]
    rfl
  K_below := by
    rintro w w1 x cs hb ⟨A, c, rfl, hl, hr⟩
    exact ⟨A, c, rfl, hl, C_below hr hb⟩
  K_of_M := by
    rintro w base ok x cs ⟨v, rfl, h⟩
    obtain ⟨A, c, rfl, hl, hr⟩ := R_reads h
    exact ⟨A, c, rfl, hl, hr⟩
  M_mono := by
    rintro w base ok ok' x cs hok ⟨v, rfl, h⟩
    exact ⟨v, rfl, R_mono h hok⟩
  M_bound := by
    rintro w base ok x cs ⟨v, rfl, h⟩
    exact ⟨v, rfl, R_bound h⟩
  M_move := by
    rintro w w1 base ok x cs hm ⟨v, rfl, h⟩
    exact ⟨v, rfl, R_move h hm⟩
  M_lower := by
    rintro w base base' ok x cs hb ⟨v, rfl, h⟩
    exact ⟨v, rfl, R_lower h hb⟩
theorem C_get {α : Type} {d : Kd α} {w : World} {A : Option Addr} {n : Nat} {xs : List α} (h : d.C w A n xs) (z : α) (i : Int) (h0 : 0 ≤ i) (h1 : i < n) :
    ∃ ad c, A = some ad ∧ c.length = d.sz ∧ d.K w (xs.getD i.toNat z) c ∧ ∀ j u, c[j]? = some u → w.cell? (ad.add (i.toNat * d.sz + j)) = some u := ReadsRow.get_ h z i h0 h1
theorem R_appended {α : Type} {d : Kd α} {e base : Nat} {ok okp : Nat → Prop} {W w1 : World} {v v1 : Value} {xs : List α} {p : α} {inner cs : List Value} (h0 : ∀ k, v.ownBlock = some k → ok k) (hr : Reps (d.M W base (fun k => ok k ∧ some k ≠ v.ownBlock)) d.sz xs inner) (hp : d.M W base okp p cs) (hokp : ∀ k, okp k → ok k ∧ some k ≠ v.ownBlock) (hfresh : ∀ k, W.heap.size ≤ k → ok k)
    (hown : w1.ownsRow base e d.sz v1 (xs.length + 1) (inner ++ cs)) (hg : W.grownBy w1 v.ownBlock) (hat : v1.ownBlock = v.ownBlock ∨ ∃ b, v1.ownBlock = some b ∧ W.heap.size ≤ b) : d.R e w1 base ok v1 (xs ++ [p]) := by
  have hne : ∀ k, some k ≠ v.ownBlock → k < W.heap.size → some k ≠ v1.ownBlock := by
    intro k hk hlt
    rcases hat with hat | ⟨b, hb, hle⟩
    · rw [hat]; exact hk
    · rw [hb]
      intro he
      injection he with he
      omega
  have step : ∀ {q : α} {c : List Value} {o : Nat → Prop}, d.M W base o q c → (∀ k, o k → ok k ∧ some k ≠ v.ownBlock) → d.M w1 base (fun k => ok k ∧ some k ≠ v1.ownBlock) q c := by
    intro q c o hq ho
    have h1 := d.M_move (w1 := w1) (fun k hk => hg.block k hk.2.2.1 (ho k hk.1).2) (d.M_bound hq)
    exact d.M_mono (fun k hk => ⟨(ho k hk.1).1, hne k (ho k hk.1).2 hk.2.2.1⟩) h1
  refine ⟨fun k hk => ?_, inner ++ cs, by rw [List.length_append, List.length_singleton]; exact hown, ?_⟩
  · rcases hat with hat | ⟨b, hb, hle⟩
    · exact h0 k (hat ▸ hk)
    · rw [hb] at hk
      injection hk with hk
      exact hfresh k (by omega)
  · exact (hr.imp_ (fun _ _ hq => step hq (fun _ hk => hk))).snoc (step hp hokp) (d.K_len (d.K_of_M hp))
section
variable {P : Program} {ops : Array Oper} {rest : List Oper} {o : Oper} {a : Act} {Q : Exit → Act → World → Prop} {α : Type}
theorem R_append (d : Kd α) {w0 W : World} (base : Nat) (hgd : o.guard = none) (s x : Operand) (t e : TypeId) (z : Value) (bytes : Nat)
    (ho : o.op = .call { callee := .builtin .append, args := #[s, x], argTypes := #[t, t] })
    (ht : P.underlying t = some (.slice e)) (hinfo : (P.info? e).map (fun i => (i.zero, i.size, i.bytes)) = some (some z, d.sz, bytes)) (hz : z.cells.size = d.sz) (hs0 : 0 < d.sz) (hb0 : 0 < bytes)
    (v : Value) (xs : List α) (p : α) (cs : List Value) (ok okp : Nat → Prop) (hs : a.eval s = v) (hx : a.eval x = .slice (some ⟨W.heap.size, 0, none⟩) 1 1) (hp : d.M W base okp p cs) (hokp : ∀ k, okp k → ok k ∧ some k ≠ v.ownBlock) (hfresh : ∀ k, W.heap.size ≤ k → ok k)
    (HO : d.R e W base ok v xs) (HB : Below base w0 W) (hbase : base ≤ W.heap.size) (hl : (xs.length + 1) * bytes ≤ 140737488355328)
    (h : ∀ v1 w1, d.R e w1 base ok v1 (xs ++ [p]) → Below base w0 w1 → W.grownBy w1 v.ownBlock → (v1.ownBlock = v.ownBlock ∨ ∃ b, v1.ownBlock = some b ∧ W.heap.size ≤ b) → wpList P ops Q rest (a.put o.dst v1) w1) :
    wpList P ops Q (o :: rest) a (W.alloc (.cells cs.toArray e)) := by
  obtain ⟨h0, inner, hown, hr⟩ := HO
  refine print_append_cells base hgd s x t e z d.sz bytes ho ht hinfo hz hs0 hb0 v xs.length inner cs hs hx (d.K_len (d.K_of_M hp)) (d.K_one (d.K_of_M hp)) hown HB hbase hl ?_
  intro v1 w1 hown1 hb1 hg1 hat1
  exact h v1 w1 (R_appended h0 hr hp hokp hfresh hown1 hg1 hat1) hb1 hg1 hat1
end
theorem reps_scalar {α : Type} {enc : α → Value} (xs : List α) : Reps (fun (x : α) (cs : List Value) => cs = [enc x]) 1 xs (encs enc xs) := by
  refine ⟨by simp [encs], fun j p hj => ?_⟩
  obtain ⟨hl, hp⟩ := List.getElem?_eq_some_iff.1 hj
  have hl' : j < (encs enc xs).length := by rw [encs_length]; exact hl
  rw [Nat.mul_one, List.drop_eq_getElem_cons hl']
  simp [encs, hp]
theorem R_of_own {α : Type} {enc : α → Value} {h1 : ∀ x, (enc x).oneCell' = true} {e : Nat} {w : World} {base : Nat} {ok : Nat → Prop} {v : Value} {xs : List α} (ho : w.ownsRow base e 1 v xs.length (encs enc xs)) (hok : ∀ k, v.ownBlock = some k → ok k) : (scalar enc h1).R e w base ok v xs := ⟨hok, encs enc xs, ho, reps_scalar xs⟩
theorem own_of_R {α : Type} {enc : α → Value} {h1 : ∀ x, (enc x).oneCell' = true} {e : Nat} {w : World} {base : Nat} {ok : Nat → Prop} {v : Value} {xs : List α} (h : (scalar enc h1).R e w base ok v xs) : w.ownsRow base e 1 v xs.length (encs enc xs) := by
  obtain ⟨_, inner, ho, hr⟩ := h
  have : inner = encs enc xs := by
    apply List.ext_getElem?
    intro j
    rcases Nat.lt_or_ge j xs.length with hj | hj
    · have h2 := hr.2 j _ (List.getElem?_eq_getElem hj)
      have hl : j < inner.length := by have := hr.1; simp [scalar] at this; omega
      have h3 : (inner.drop (j * 1)).take 1 = [enc xs[j]] := h2
      rw [Nat.mul_one, List.drop_eq_getElem_cons hl] at h3
      have h4 : inner[j] = enc xs[j] := by
        have h5 := congrArg List.head? h3
        rw [List.take_succ_cons] at h5
        exact Option.some.inj h5
      rw [List.getElem?_eq_getElem hl, h4]
      simp [encs, List.getElem?_eq_getElem hj]
    · have h3 : inner.length = xs.length := by have := hr.1; simp [scalar] at this; omega
      rw [List.getElem?_eq_none (by omega), List.getElem?_eq_none (by rw [encs_length]; omega)]
  rw [← this]
  exact ho
theorem C_of_reads {α : Type} {enc : α → Value} {d : α} {h1 : ∀ x, (enc x).oneCell' = true} {w : World} {A : Option Addr} {n : Nat} {xs : List α} (h : ReadsOf enc d w A n xs) : (scalar enc h1).C w A n xs := by
  refine ⟨h.1, h.2.1, fun hn => ?_⟩
  obtain ⟨ad, e, hc⟩ := h.2.2 hn
  refine ⟨ad, e, fun j p hj => ⟨[enc p], rfl, rfl, fun i u hu => ?_⟩⟩
  obtain ⟨hl, hp⟩ := List.getElem?_eq_some_iff.1 hj
  have h2 := hc j (by have := h.1; omega)
  rw [List.getD_eq_getElem?_getD, hj] at h2
  cases i with
  | zero =>
    have : enc p = u := by simpa using hu
    subst this
    simpa [scalar] using h2
  | succ i => simp at hu
theorem reads_of_C {α : Type} {enc : α → Value} {d : α} {h1 : ∀ x, (enc x).oneCell' = true} {w : World} {A : Option Addr} {n : Nat} {xs : List α} (h : (scalar enc h1).C w A n xs) : ReadsOf enc d w A n xs := by
  refine ⟨h.1, h.2.1, fun hn => ?_⟩
  obtain ⟨ad, e, hc⟩ := h.2.2 hn
  refine ⟨ad, e, fun j hj => ?_⟩
  have hl : j < xs.length := by have := h.1; omega
  obtain ⟨c, _, hK, hcell⟩ := hc j _ (List.getElem?_eq_getElem hl)
  have hK' : c = [enc xs[j]] := hK
  subst hK'
  have := hcell 0 _ rfl
  simpa [scalar, List.getD_eq_getElem?_getD, List.getElem?_eq_getElem hl] using this
end Kd
namespace Kd
section
variable {α β : Type} {d : Kd α} {d' : Kd β} {e e' : Nat} {w w1 W : World} {base b b' : Nat} {ok ok' okv oku : Nat → Prop} {v u : Value} {xs : List α} {ys : List β}
theorem R_alloc (h : d.R e w base ok v xs) (o : Obj) : d.R e (w.alloc o) base ok v xs := R_below h (below_alloc (Below.refl _ _) o)
theorem R_drew (h : d.R e w base ok v xs) : d.R e w.drew base ok v xs := R_below h (below_drew (Below.refl _ _))
theorem R_drewN (h : d.R e w base ok v xs) (m : Nat) : d.R e (w.drewN m) base ok v xs := R_below h (pw_below_drewN (Below.refl _ _) m)
theorem C_alloc {A : Option Addr} {n : Nat} (h : d.C w A n xs) (o : Obj) : d.C (w.alloc o) A n xs := C_below h (below_alloc (Below.refl _ _) o)
theorem C_drew {A : Option Addr} {n : Nat} (h : d.C w A n xs) : d.C w.drew A n xs := C_below h (below_drew (Below.refl _ _))
theorem C_drewN {A : Option Addr} {n : Nat} (h : d.C w A n xs) (m : Nat) : d.C (w.drewN m) A n xs := C_below h (pw_below_drewN (Below.refl _ _) m)
theorem C_nil (d : Kd α) (w : World) : d.C w none ([] : List α).length [] := ⟨rfl, by simp, fun h => absurd h (Nat.lt_irrefl 0)⟩
theorem R_reads' {A : Option Addr} {n c : Nat} (h : d.R e w base ok (.slice A n c) xs) : n = xs.length ∧ n ≤ c ∧ d.C w A xs.length xs := by
  obtain ⟨A', c', he, hl, hr⟩ := R_reads h
  injection he with h1 h2 h3
  subst h1
  exact ⟨h2, by omega, hr⟩
theorem R_lt (h : d.R e w base ok v xs) : ∀ k, v.ownBlock = some k → k < w.heap.size := by
  obtain ⟨inner, ho⟩ := R_own h
  exact own_lt ho
theorem R_base (h : d.R e w base ok v xs) : ∀ k, v.ownBlock = some k → base ≤ k := by
  obtain ⟨inner, ho⟩ := R_own h
  exact own_base ho
theorem R_form (h : d.R e w base ok v xs) (hp : 0 < xs.length) : ∃ g cap, v = .slice (some ⟨g, 0, none⟩) xs.length cap ∧ base ≤ g ∧ g < w.heap.size ∧ ∃ cells, w.heap[g]? = some (.cells cells e (0, 0)) := by
  obtain ⟨inner, ho⟩ := R_own h
  obtain ⟨g, cap, he, hb, hl⟩ := ho.form hp
  obtain ⟨cells, hc⟩ := own_typed ho g (by rw [he]; simp [Value.ownBlock])
  exact ⟨g, cap, he, hb, hl, cells, hc⟩
end
section
variable {w W : World} {A : Option Addr} {n : Nat}
theorem at_int {k : IntKind} {xs : List Int} (h : (Kd.int k).C w A n xs) (i : Int) (h0 : 0 ≤ i) (h1 : i < n) : ∃ ad, A = some ad ∧ w.cell? (ad.add i.toNat) = some (.int k (rd xs i)) :=
  ReadsOf.at_ (reads_of_C (enc := Value.int k) (d := (0 : Int)) (h1 := fun _ => rfl) h) i h0 h1
variable {α : Type} {enc : α → Value} {h1 : ∀ x, (enc x).oneCell' = true} {e base g cap : Nat} {ok : Nat → Prop} {xs : List α}
theorem R_cell (d : α) (h : (scalar enc h1).R e W base ok (.slice (some ⟨g, 0, none⟩) xs.length cap) xs) (i : Int) (h0 : 0 ≤ i) (hi : i < xs.length) : W.cell? ⟨g, i.toNat, none⟩ = some (enc (rdOf d xs i)) ∧ W.frozen? ⟨g, i.toNat, none⟩ = false := own_at_of (own_of_R h) i h0 hi
theorem R_put (h : (scalar enc h1).R e W base ok (.slice (some ⟨g, 0, none⟩) xs.length cap) xs) (i : Int) (x : α) : (scalar enc h1).R e (W.setCell ⟨g, i.toNat, none⟩ (enc x)) base ok (.slice (some ⟨g, 0, none⟩) xs.length cap) (xs.set i.toNat x) ∧ W.grownBy (W.setCell ⟨g, i.toNat, none⟩ (enc x)) (some g) := by
  obtain ⟨ho, hg⟩ := own_store_of (own_of_R h) i x
  exact ⟨R_of_own (by rw [List.length_set]; exact ho) h.1, hg⟩
end
section
variable {P : Program} {ops : Array Oper} {rest : List Oper} {o : Oper} {a : Act} {Q : Exit → Act → World → Prop}
theorem event_run {W w1 : World} {v : Value} (hgd : o.guard = none) (hrun : (execOp a.eval o).run P W = .ok (.value v) w1) (h : wpList P ops Q rest (a.put o.dst v) w1) : wpList P ops Q (o :: rest) a W := by
  refine wpList_plain hgd fun K hK => ?_
  unfold Oper.wp
  rw [hrun]
  exact hK _ _ h
variable {α : Type}
theorem R_lit (d : Kd α) {w0 W : World} (base e : Nat) (hgd : o.guard = none) {N : Tmp} (_hd : o.dst = some N) {xs : List α} {inner : List Value} {ok okp : Nat → Prop}
    (hrun : (execOp a.eval o).run P W = .ok (.value (.slice (some ⟨W.heap.size, 0, none⟩) xs.length xs.length)) (W.alloc (.cells inner.toArray e)))
    (hrep : Reps (d.M W base okp) d.sz xs inner) (hok : ∀ k, okp k → ok k) (hfresh : ok W.heap.size) (HB : Below base w0 W) (hbase : base ≤ W.heap.size) (hm : xs.length ≤ 9223372036854775807)
    (h : ∀ v1 w1, d.R e w1 base ok v1 xs → Below base w0 w1 → W.grownBy w1 none → (∃ b, v1.ownBlock = some b ∧ W.heap.size ≤ b) → wpList P ops Q rest (a.put o.dst v1) w1) : wpList P ops Q (o :: rest) a W := by
  refine event_run hgd hrun (h _ _ ⟨fun k hk => ?_, inner, ?_, ?_⟩ (HB.alloc hbase _) (World.grownBy_alloc W _ none) ⟨W.heap.size, by simp [Value.ownBlock], Nat.le_refl _⟩)
  · have : W.heap.size = k := by simpa [Value.ownBlock] using hk
    subst this
    exact hfresh
  · have h2 := World.ownsRow_lit (base := base) (e := e) (size := d.sz) W inner.toArray xs.length hbase (by simpa [maxLen] using hm) (by simpa using hrep.1)
    simpa using h2
  · refine hrep.imp_ (fun p c hp => d.M_mono (fun k hk => ⟨hok k hk.1, fun he => ?_⟩) (M_below (d.M_bound hp) (below_alloc (Below.refl _ _) _)))
    have h3 : k = W.heap.size := by simpa [Value.ownBlock] using he
    have := hk.2.2.1
    omega
theorem reps_made {α : Type} {R : α → List Value → Prop} {z : Value} {size : Nat} {z0 : α} (hz : z.cells.size = size) (hs : 0 < size) (h0 : R z0 z.cells.toList) (m : Nat) : Reps R size (List.replicate m z0) (madeCells z.cells (m * size)).toList := by
  refine ⟨by simp [size_madeCells], fun j p hj => ?_⟩
  obtain ⟨hjl, hp⟩ := List.getElem?_eq_some_iff.1 hj
  have hjm : j < m := by simpa using hjl
  have hp' : z0 = p := by simpa using hp
  subst hp'
  have hle : j * size + size ≤ m * size := by rw [← Nat.succ_mul]; exact Nat.mul_le_mul_right _ hjm
  have : ((madeCells z.cells (m * size)).toList.drop (j * size)).take size = z.cells.toList := by
    apply List.ext_getElem
    · simp [size_madeCells, hz]
      omega
    · intro i h1 h2
      have hi : i < size := by rw [Array.length_toList, hz] at h2; exact h2
      have hmod : (j * size + i) % size = i := by
        rw [Nat.mul_comm, Nat.mul_add_mod]
        exact Nat.mod_eq_of_lt hi
      simp [madeCells, hz, hmod]
      rw [getElem!_pos z.cells i (by omega)]
  rw [this]
  exact h0
theorem R_make (d : Kd α) {w0 W : World} (base e : Nat) (hgd : o.guard = none) {N : Tmp} (hd : o.dst = some N) (t : TypeId) (x y : Operand) (ho : o.op = .makeSlice t x y) (n : Int) (hx : a.eval x = .int .i64 n) (hy : a.eval y = .int .i64 n)
    (ht : P.underlying t = some (.slice e)) (z : Value) (bytes : Nat) (hinfo : (P.info? e).map (fun i => (i.zero, i.size, i.bytes)) = some (some z, d.sz, bytes)) (hz : z.cells.size = d.sz) (hs0 : 0 < d.sz) (hb0 : 0 < bytes)
    (z0 : α) {ok okp : Nat → Prop} (hzero : d.M W base okp z0 z.cells.toList) (hok : ∀ k, okp k → ok k) (hfresh : ok W.heap.size) (h0 : 0 ≤ n) (hl : n.toNat * bytes ≤ 281474976710656) (HB : Below base w0 W) (hbase : base ≤ W.heap.size)
    (h : ∀ v1 w1, d.R e w1 base ok v1 (List.replicate n.toNat z0) → Below base w0 w1 → W.grownBy w1 none → (∃ b, v1.ownBlock = some b ∧ W.heap.size ≤ b) → wpList P ops Q rest (a.put o.dst v1) w1) : wpList P ops Q (o :: rest) a W := by
  obtain ⟨m, rfl⟩ := Int.eq_ofNat_of_zero_le h0
  simp only [Int.toNat_natCast] at hl h
  obtain ⟨i0, hi, hzz⟩ := Option.map_eq_some_iff.1 hinfo
  simp only [Prod.mk.injEq] at hzz
  obtain ⟨hz0, hz1, hz2⟩ := hzz
  have hm : m ≤ 281474976710656 := Nat.le_trans (Nat.le_mul_of_pos_right _ hb0) hl
  have hr := run_make (P := P) W t e i0 z ht hi hz0 .i64 .i64 (m : Int) (m : Int) (by omega) (by omega)
    (by
      have h3 : ((i0.bytes * m : Nat) : Int) ≤ 281474976710656 := by rw [hz2, Nat.mul_comm]; omega
      rwa [Int.natCast_mul] at h3) (by omega)
  simp only [Int.toNat_natCast] at hr
  rw [hz1] at hr
  refine R_lit d base e hgd hd (xs := List.replicate m z0) (inner := (madeCells z.cells (m * d.sz)).toList) (okp := okp) (ok := ok) ?_ (reps_made hz hs0 hzero m) hok hfresh HB hbase (by simp; omega) h
  simp [execOp, ho, hx, hy, hr]
end
end Kd
def QRow (w : World) (base : Nat) (e : TypeId) (size : Nat) (v : Value) (n : Nat) (xs : List Value) : Prop :=
  xs.length = n * size ∧
  ((n = 0 ∧ ∃ A, v = .slice A 0 0 ∧ ∀ a, A = some a → base ≤ a.block ∧ ∃ cur, w.heap[a.block]? = some (.cells cur e (0, 0))) ∨
   ∃ g off cap cur, v = .slice (some ⟨g, off * size, none⟩) n cap ∧ base ≤ g ∧ w.heap[g]? = some (.cells cur e (0, 0)) ∧ n ≤ cap ∧ off + cap ≤ maxLen ∧ cur.size = (off + cap) * size ∧ (cur.toList.drop (off * size)).take (n * size) = xs)
section
variable {w w1 : World} {base n size : Nat} {e : TypeId} {v : Value} {xs : List Value}
theorem q_of_own (h : w.ownsRow base e size v n xs) : QRow w base e size v n xs := by
  obtain ⟨h1, h2⟩ := h
  refine ⟨h1, ?_⟩
  rcases h2 with ⟨rfl, h0⟩ | ⟨g, cap, cur, rfl, hb, hh, hnc, hcm, hcs, ht⟩
  · exact .inl ⟨h0, none, rfl, fun a ha => by cases ha⟩
  · exact .inr ⟨g, 0, cap, cur, by rw [Nat.zero_mul], hb, hh, hnc, by rw [Nat.zero_add]; exact hcm, by rw [Nat.zero_add]; exact hcs, by rw [Nat.zero_mul, List.drop_zero]; exact ht⟩
end
namespace Kd
def Q {α : Type} (d : Kd α) (e : Nat) (w : World) (base : Nat) (ok : Nat → Prop) (v : Value) (xs : List α) : Prop :=
  (∀ k, v.ownBlock = some k → ok k) ∧ ∃ inner, QRow w base e d.sz v xs.length inner ∧ Reps (d.M w base (fun k => ok k ∧ some k ≠ v.ownBlock)) d.sz xs inner
section
variable {α : Type} {d : Kd α} {e : Nat} {w w1 W : World} {base : Nat} {ok ok' : Nat → Prop} {v : Value} {xs : List α}
theorem Q_of_R (h : d.R e w base ok v xs) : d.Q e w base ok v xs := by
  obtain ⟨h0, inner, ho, hr⟩ := h
  exact ⟨h0, inner, q_of_own ho, hr⟩
theorem Q_nil (d : Kd α) (e : Nat) (w : World) (base : Nat) (ok : Nat → Prop) : d.Q e w base ok (.slice none 0 0) [] := Q_of_R (R_nil d e w base ok)
end
end Kd
namespace Kd
section
variable {α : Type} {d : Kd α} {e e' : Nat} {w w1 W : World} {base : Nat} {ok : Nat → Prop} {u v : Value} {xs : List α}
theorem R_elder' (hu : d.R e W base ok u xs) (hbase : ∀ k, v.ownBlock = some k → W.heap.size ≤ k) (hb : Below W.heap.size W w1) : d.R e w1 base (fun k => ok k ∧ some k ≠ v.ownBlock) u xs :=
  R_mono (R_move (R_bound hu) (fun k hk => hb.block k hk.2.2.1)) (fun k hk => ⟨hk.1, fun he => by have := hbase k he.symm; have := hk.2.2.1; omega⟩)
theorem R_new' (h : d.R e w1 W.heap.size ok v xs) (hlt : ∀ k, u.ownBlock = some k → k < W.heap.size) : d.R e w1 W.heap.size (fun k => ok k ∧ some k ≠ u.ownBlock) v xs :=
  R_mono (R_bound h) (fun k hk => ⟨hk.1, fun he => by have := hlt k he.symm; have := hk.2.1; omega⟩)
theorem fresh' (hlt : ∀ k, u.ownBlock = some k → k < W.heap.size) : ∀ k, W.heap.size ≤ k → some k ≠ u.ownBlock := fun k hk he => by have := hlt k he.symm; omega
end
end Kd
namespace Kd
theorem reps_append {α : Type} {R : α → List Value → Prop} {size : Nat} {ps qs : List α} {cs ds : List Value} (h : Reps R size ps cs) (h' : Reps R size qs ds) : Reps R size (ps ++ qs) (cs ++ ds) := by
  refine ⟨by rw [List.length_append, List.length_append, h.1, h'.1, Nat.add_mul], fun j p hj => ?_⟩
  rcases Nat.lt_or_ge j ps.length with hlt | hge
  · rw [List.getElem?_append_left hlt] at hj
    have hle : j * size + size ≤ cs.length := by rw [h.1, ← Nat.succ_mul]; exact Nat.mul_le_mul_right _ hlt
    rw [List.drop_append_of_le_length (by omega), List.take_append_of_le_length (by rw [List.length_drop]; omega)]
    exact h.2 j p hj
  · rw [List.getElem?_append_right hge] at hj
    have h2 := h'.2 (j - ps.length) p hj
    have hle : ps.length * size ≤ j * size := Nat.mul_le_mul_right _ hge
    rw [List.drop_append, List.drop_eq_nil_of_le (by rw [h.1]; exact hle), List.nil_append, h.1, ← Nat.sub_mul]
    exact h2
section
variable {P : Program} {ops : Array Oper} {rest : List Oper} {o : Oper} {a : Act} {Q : Exit → Act → World → Prop} {α : Type}
theorem R_append_rows (d : Kd α) {Rr : α → List Value → Prop} {w0 W : World} (base : Nat) (hgd : o.guard = none) (s x : Operand) (t e : TypeId) (z : Value) (bytes : Nat)
    (ho : o.op = .call { callee := .builtin .append, args := #[s, x], argTypes := #[t, t] })
    (ht : P.underlying t = some (.slice e)) (hinfo : (P.info? e).map (fun i => (i.zero, i.size, i.bytes)) = some (some z, d.sz, bytes)) (hz : z.cells.size = d.sz) (hs0 : 0 < d.sz) (hb0 : 0 < bytes)
    (v : Value) (xs ys : List α) (A : Option Addr) (m c : Nat) (ok okp : Nat → Prop) (hs : a.eval s = v) (hx : a.eval x = .slice A m c)
    (HO : d.R e W base ok v xs) (HR : ReadsRow Rr d.sz W A m ys) (hKM : ∀ x cs, Rr x cs → d.M W base okp x cs) (hokp : ∀ k, okp k → ok k ∧ some k ≠ v.ownBlock) (hfresh : ∀ k, W.heap.size ≤ k → ok k)
    (HB : Below base w0 W) (hbase : base ≤ W.heap.size) (hl : (xs.length + m) * bytes ≤ 140737488355328)
    (h : ∀ v1 w1, d.R e w1 base ok v1 (xs ++ ys) → Below base w0 w1 → W.grownBy w1 v.ownBlock → (v1.ownBlock = v.ownBlock ∨ ∃ b, v1.ownBlock = some b ∧ W.heap.size ≤ b) → wpList P ops Q rest (a.put o.dst v1) w1) :
    wpList P ops Q (o :: rest) a W := by
  obtain ⟨i0, hi, hzz⟩ := Option.map_eq_some_iff.1 hinfo
  simp only [Prod.mk.injEq] at hzz
  obtain ⟨hz0, hz1, hz2⟩ := hzz
  have hm : ys.length = m := HR.1
  have hlen : xs.length + m ≤ 140737488355328 := Nat.le_trans (Nat.le_mul_of_pos_right _ hb0) hl
  obtain ⟨hok, inner, hown, hr⟩ := HO
  have hrun : ∃ v1 w1, (Builtin.append_ #[t, t] o.type #[v, .slice A m c]).run P W = .ok v1 w1 ∧ d.R e w1 base ok v1 (xs ++ ys) ∧ W.grownBy w1 v.ownBlock ∧ (v1.ownBlock = v.ownBlock ∨ ∃ b, v1.ownBlock = some b ∧ W.heap.size ≤ b) := by
    rcases A with _ | ad
    · have h0 : m = 0 := by
        rcases Nat.eq_zero_or_pos m with h0 | h0
        · exact h0
        · obtain ⟨ad, h, _⟩ := HR.2.2 h0
          cases h
      subst h0
      obtain rfl : ys = [] := List.eq_nil_of_length_eq_zero hm
      refine ⟨v, W, ?_, by rw [List.append_nil]; exact ⟨hok, inner, hown, hr⟩, World.grownBy.refl W _, .inl rfl⟩
      rcases hown.2 with ⟨rfl, hn⟩ | ⟨g, cap, cur, rfl, _, _, hnc, _⟩
      · simp [Builtin.append_, run_underlying ht, sizeOf, typeInfo, hi, Builtin.lenOf, Builtin.firstCells]
      · simp [Builtin.append_, run_underlying ht, sizeOf, typeInfo, hi, Builtin.lenOf, Builtin.firstCells, hnc, storeCells]
    · obtain ⟨news, hnr, hnc⟩ := ReadsRow.inner_ HR
      have hnM : Reps (d.M W base okp) d.sz ys news := hnr.imp_ (fun p c hp => hKM p c hp)
      have hone : ∀ u ∈ news, u.oneCell' = true := by
        intro u hu
        obtain ⟨q, hq, rfl⟩ := List.mem_iff_getElem.1 hu
        have hql : q / d.sz < ys.length := by
          rw [Nat.div_lt_iff_lt_mul hs0]
          rw [← hnM.1]
          exact hq
        have hc := hnM.2 (q / d.sz) _ (List.getElem?_eq_getElem hql)
        refine d.K_one (d.K_of_M hc) _ ?_
        rw [List.mem_iff_getElem?]
        refine ⟨q % d.sz, ?_⟩
        rw [List.getElem?_take, if_pos (Nat.mod_lt _ hs0), List.getElem?_drop, Nat.mul_comm, Nat.div_add_mod, List.getElem?_eq_getElem hq]
      obtain ⟨v1, w1, hrun, h2, hg, _, hat⟩ := run_append_own_at (P := P) W base t o.type e i0 z d.sz bytes ht hi hz0 hz1 hz2 hz hs0 v xs.length inner hown ad m c news (by rw [hnM.1, hm]) hnc hone (by simp only [maxLen]; omega) hl hbase
      have hat' : v1.ownBlock = v.ownBlock ∨ ∃ b, v1.ownBlock = some b ∧ W.heap.size ≤ b := by
        rcases hat with hat | hat
        · exact .inl hat
        · exact .inr ⟨_, hat, Nat.le_refl _⟩
      have hne : ∀ k, some k ≠ v.ownBlock → k < W.heap.size → some k ≠ v1.ownBlock := by
        intro k hk hlt
        rcases hat' with hat | ⟨b, hb, hle⟩
        · rw [hat]; exact hk
        · rw [hb]
          intro he
          injection he with he
          omega
      have step : ∀ {q : α} {c : List Value} {o : Nat → Prop}, d.M W base o q c → (∀ k, o k → ok k ∧ some k ≠ v.ownBlock) → d.M w1 base (fun k => ok k ∧ some k ≠ v1.ownBlock) q c := by
        intro q c o hq ho
        have h1 := d.M_move (w1 := w1) (fun k hk => hg.block k hk.2.2.1 (ho k hk.1).2) (d.M_bound hq)
        exact d.M_mono (fun k hk => ⟨(ho k hk.1).1, hne k (ho k hk.1).2 hk.2.2.1⟩) h1
      refine ⟨v1, w1, hrun, ⟨fun k hk => ?_, inner ++ news, by rw [List.length_append, hm]; exact h2, reps_append (hr.imp_ (fun _ _ hq => step hq (fun _ hk => hk))) (hnM.imp_ (fun _ _ hq => step hq hokp))⟩, hg, hat'⟩
      rcases hat' with hat | ⟨b, hb, hle⟩
      · exact hok k (hat ▸ hk)
      · rw [hb] at hk
        injection hk with hk
        exact hfresh k (by omega)
  obtain ⟨v1, w1, hr1, h1, hg, hat⟩ := hrun
  refine wpList_plain hgd fun K hK => ?_
  unfold Oper.wp execOp
  simp only [ho, resolve, invoke, builtin, Sem.run_bind, Sem.run_pure, Result.andThen_ok, List.map_toArray, List.map_cons, List.map_nil, hs, hx, hr1]
  exact hK _ _ (h v1 w1 h1 (HB.grown hg hbase (own_base hown)) hg hat)
end
end Kd
namespace Kd
section
variable {α : Type} {k : Kd α} {w : World} {A : Option Addr} {xs : List α} {m c : Nat}
theorem C_take (h : k.C w A xs.length xs) (hm : m ≤ xs.length) : k.C w A (xs.take m).length (xs.take m) := by
  have hl : (xs.take m).length = m := by rw [List.length_take]; omega
  refine ⟨rfl, by rw [hl]; have := h.2.1; omega, fun hp => ?_⟩
  obtain ⟨ad, e, hc⟩ := h.2.2 (by omega)
  refine ⟨ad, e, fun j p hj => hc j p ?_⟩
  rw [List.getElem?_take] at hj
  split at hj
  · exact hj
  · cases hj
end
end Kd
theorem below_size {w W : World} (h : Below w.heap.size w W) : w.heap.size ≤ W.heap.size := h.size
theorem below_step {w W w2 : World} (h : Below w.heap.size w W) (k : Below W.heap.size W w2) : Below w.heap.size w w2 := below_then h h.size k
theorem ReadsInt.nil (W : World) (k : IntKind) : ReadsInt W k none ([] : List Int).length [] := ⟨rfl, by simp, fun h => absurd h (Nat.lt_irrefl 0)⟩
theorem ReadsInt.drewN {W : World} {k : IntKind} {A : Option Addr} {n : Nat} {xs : List Int} (h : ReadsInt W k A n xs) (m : Nat) : ReadsInt (W.drewN m) k A n xs := h
theorem below_set {w W : World} {g j : Nat} {v : Value} (h : Below w.heap.size w W) (hg : w.heap.size ≤ g) : Below w.heap.size w (W.setCell ⟨g, j, none⟩ v) := h.setCell hg _
theorem keep_cell {w W : World} {g : Nat} (h : KeepBut w W g none) {a : Addr} {v : Value} (hc : w.cell? a = some v) (hne : a.block ≠ g) : W.cell? a = some v := by
  have := h.2 a.block (World.block_lt_of_cell? w a hc) hne (by simp)
  simpa [World.cell?, this] using hc
theorem add_block (a : Addr) (i : Nat) : (a.add i).block = a.block := by unfold Addr.add; split <;> rfl
theorem ReadsOf.nil {α : Type} (enc : α → Value) (d : α) (W : World) : ReadsOf enc d W none ([] : List α).length [] := ⟨rfl, by simp, fun h => absurd h (Nat.lt_irrefl 0)⟩
theorem ReadsOf.drewN {α : Type} {enc : α → Value} {d : α} {W : World} {A : Option Addr} {n : Nat} {xs : List α} (h : ReadsOf enc d W A n xs) (m : Nat) : ReadsOf enc d (W.drewN m) A n xs := h
theorem ReadsInt.keep {w W : World} {k : IntKind} {A : Option Addr} {n g : Nat} {xs : List Int} (h : ReadsInt w k A n xs) (hk : KeepBut w W g none) (hf : ∀ ad, A = some ad → 0 < n → ad.block ≠ g) : ReadsInt W k A n xs :=
  ⟨h.1, h.2.1, fun hn => by
    obtain ⟨ad, e, hc⟩ := h.2.2 hn
    exact ⟨ad, e, fun j hj => keep_cell hk (hc j hj) (by rw [add_block]; exact hf ad e hn)⟩⟩
theorem ReadsOf.keep {α : Type} {enc : α → Value} {d : α} {w W : World} {A : Option Addr} {n g : Nat} {xs : List α} (h : ReadsOf enc d w A n xs) (hk : KeepBut w W g none) (hf : ∀ ad, A = some ad → 0 < n → ad.block ≠ g) : ReadsOf enc d W A n xs :=
  ⟨h.1, h.2.1, fun hn => by
    obtain ⟨ad, e, hc⟩ := h.2.2 hn
    exact ⟨ad, e, fun j hj => keep_cell hk (hc j hj) (by rw [add_block]; exact hf ad e hn)⟩⟩
theorem below_drew1 {base : Nat} {w W : World} (h : Below base w W) : Below base w W.drew := h.drew
namespace Kd
section
variable {α : Type} {enc : α → Value} {h1 : ∀ x, (enc x).oneCell' = true} {e base g n cap : Nat} {ok : Nat → Prop} {W : World} {xs : List α}
theorem R_celln (d : α) (h : (scalar enc h1).R e W base ok (.slice (some ⟨g, 0, none⟩) n cap) xs) (i : Int) (h0 : 0 ≤ i) (hi : i < n) : W.cell? ⟨g, i.toNat, none⟩ = some (enc (rdOf d xs i)) ∧ W.frozen? ⟨g, i.toNat, none⟩ = false := by
  obtain ⟨rfl, _⟩ := R_reads' h
  exact R_cell d h i h0 hi
end
end Kd
section
variable {P : Program} {ops : Array Oper} {rest : List Oper} {o : Oper} {a : Act} {Q : Exit → Act → World → Prop}
theorem store_event {W w1 : World} (hgd : o.guard = none) {t : TypeId} {p : Tmp} {v : Operand} (_ho : o.op = .store t (.tmp p) v) (hN : o.dst = none)
    (hrun : (execOp a.eval o).run P W = .ok .skip w1) (h : ∀ w', w' = w1 → wpList P ops Q rest a w') : wpList P ops Q (o :: rest) a W := by
  refine wpList_plain hgd fun K hK => ?_
  unfold Oper.wp
  rw [hrun]
  show K (a.put o.dst undef) w1
  rw [hN]
  exact hK _ _ (h _ rfl)
end
namespace Kd
section
variable {α : Type} {enc : α → Value} {h1 : ∀ x, (enc x).oneCell' = true} {e base g n cap : Nat} {ok : Nat → Prop} {W : World} {xs : List α}
theorem R_putg (h : (scalar enc h1).R e W base ok (.slice (some ⟨g, 0, none⟩) n cap) xs) (i : Int) (x : α) : (scalar enc h1).R e (W.setCell ⟨g, i.toNat, none⟩ (enc x)) base ok (.slice (some ⟨g, 0, none⟩) n cap) (xs.set i.toNat x) ∧ W.grownBy (W.setCell ⟨g, i.toNat, none⟩ (enc x)) (some g) := by
  obtain ⟨rfl, _⟩ := R_reads' h
  exact R_put h i x
end
end Kd
section
variable {P : Program} {ops : Array Oper} {rest : List Oper} {o : Oper} {a : Act} {Q : Exit → Act → World → Prop} {W : World}
theorem gate_dst {N : Tmp} (_hN : o.dst = some N) (h : wpList P ops Q (o :: rest) a W) : wpList P ops Q (o :: rest) a W := h
theorem gate_store {t : TypeId} {p : Tmp} {v : Operand} (_ho : o.op = .store t (.tmp p) v) (h : wpList P ops Q (o :: rest) a W) : wpList P ops Q (o :: rest) a W := h
end
end Go.Proofs.YtifkbghnmhineaaW.PrintWords
end
section
namespace Go.Proofs.YtifkbghnmhineaaW.PrintLast
section
variable {P : Program} {ops : Array Oper} {Q : Exit → Act → World → Prop} {md : Region.Mode} {S : World → Prop} {ds : List Nat}
def ListedClosed (md : Region.Mode) (ops : Array Oper) (listed : Array Bool) : Prop :=
  ∀ j oj, ops[j]? = some oj → listed.getD j false = true → ∀ e ∈ oj.after, Region.binds md e = true → listed.getD e.on false = true
theorem ListedClosed.set {listed : Array Bool} {i : Nat} (h : ListedClosed md ops listed) (hi : i ∈ Region.ready md ops listed) : ListedClosed md ops (listed.setIfInBounds i true) := by
  obtain ⟨_, oi, hoi, hall⟩ := mem_ready.1 hi
  intro j oj hj hl e he hb
  by_cases hij : i = j
  · subst hij
    have : oj = oi := Option.some.inj (hj.symm.trans hoi)
    subst this
    exact getD_set_true (hall e he hb)
  · rw [getD_set_ne false hij] at hl
    exact getD_set_true (h j oj hj hl e he hb)
def wpAnyLast (P : Program) (md : Region.Mode) (ops : Array Oper) (Q : Exit → Act → World → Prop) (S : World → Prop) (ds : List Nat) : Nat → Array Bool → Act → World → Prop
  | 0, listed, a, w => Region.ready md ops listed = [] ∧ Q .normal a w
  | fuel + 1, listed, a, w =>
    (Region.ready md ops listed = [] → Q .normal a w) ∧
    ∀ i ∈ Region.ready md ops listed, wpOp P ops Q i (fun a' w' => (i ∉ ds → S w → S w') ∧ wpAnyLast P md ops Q S ds fuel (listed.setIfInBounds i true) a' w') a w
end
section
variable {P : Program} {ops : Array Oper} {Q : Exit → Act → World → Prop} {md : Region.Mode} {S : World → Prop} {ds : List Nat}
def AllReadyL (P : Program) (md : Region.Mode) (ops : Array Oper) (Q : Exit → Act → World → Prop) (S : World → Prop) (ds : List Nat) (fuel : Nat) (listed : Array Bool) (a : Act) (w : World) (rs : List Nat) : Prop :=
  ∀ i ∈ rs, wpOp P ops Q i (fun a' w' => (i ∉ ds → S w → S w') ∧ wpAnyLast P md ops Q S ds fuel (listed.setIfInBounds i true) a' w') a w
theorem AllReadyL.nil {fuel : Nat} {listed : Array Bool} {a : Act} {w : World} : AllReadyL P md ops Q S ds fuel listed a w [] := fun _ h => by cases h
theorem AllReadyL.cons {fuel : Nat} {listed : Array Bool} {a : Act} {w : World} {i : Nat} {o : Oper} {rs : List Nat} (ho : ops[i]? = some o) (hd : i ∉ ds)
    (h : ∀ K' : Act → World → Prop, Shut (∀ a w, S w → (S w → wpAnyLast P md ops Q S ds fuel (listed.setIfInBounds i true) a w) → K' a w) → if Region.wanted o (yielded ops a.tmps) = true then Oper.wp P o a w K' Q else K' (a.put o.dst undef) w)
    (hs : AllReadyL P md ops Q S ds fuel listed a w rs) : AllReadyL P md ops Q S ds fuel listed a w (i :: rs) := fun j hj => by
  rcases List.mem_cons.1 hj with rfl | hj
  · exact wpOp_step ho (fun K' hK => h K' (fun a w hS hW => hK a w ⟨fun _ _ => hS, hW hS⟩))
  · exact hs j hj
theorem enters_ {f : FuncId} {fn : Func} (hf : P.funcs[f]? = some fn) (hname : (fn.name == "runtime.NumGoroutine") = false) (hb : fn.body.isSome = true) (args : Array Value) (w : World) : (callFunc f args).run P w = .ok (.enter f args) w := by
  have h1 : fn.name ≠ "runtime.NumGoroutine" := by simpa using hname
  obtain ⟨c, hc⟩ := Option.isSome_iff_exists.1 hb
  simp [callFunc, hf, h1, hc]
theorem goesL_ {rest : List Oper} {oi : Oper} {a : Act} {w : World} (N : Option Tmp) (hd : oi.dst = N) (hg : oi.guard = none) {f : FuncId} {fn : Func} {as_ : Array Operand} {ts : Array TypeId} (hf : P.funcs[f]? = some fn) (hname : (fn.name == "runtime.NumGoroutine") = false) (hb : fn.body.isSome = true) (args : Array Value)
    (hop : oi.op = .call { callee := .value (.func f), args := as_, argTypes := ts }) (hargs : as_.map a.eval = args)
    (h : Calls P f args w fun e w' => ∃ v, e = .returned v ∧ wpList P ops Q rest (a.put N v) w') : wpList P ops Q (oi :: rest) a w := by
  refine wpList_plain hg fun K hK => ?_
  have he := enters_ hf hname hb args w
  have hrun : (execOp a.eval oi).run P w = .ok (.enter f args) w := by
    unfold execOp
    simp [hop, resolve, Deferred.ofValue, invoke, Act.eval, hargs, he]
  unfold Oper.wp
  rw [hrun, Oper.upon_enter]
  refine h.mono fun e w'' hh => ?_
  obtain ⟨v, rfl, hk⟩ := hh
  subst hd
  exact hK _ _ hk
theorem i64_w (n : Int) : IntKind.i64.wrap n = Go.RowKit.wrap64 n := by unfold Go.RowKit.wrap64; exact IntKind.wrap_i64 n
theorem i32_w (n : Int) : IntKind.i32.wrap n = Go.RowKit.wrap32 n := by unfold Go.RowKit.wrap32; exact IntKind.wrap_i32 n
end
end Go.Proofs.YtifkbghnmhineaaW.PrintLast
end
section
namespace Go.Proofs.YtifkbghnmhineaaW.PrintWords
open Go.RowKit
namespace Kd
def tag {α : Type} (f : Nat → Nat) (d : Kd α) : Kd (α × Nat) where
  sz := d.sz
  E := d.E
  K := fun w x cs => d.K w x.1 cs
  M := fun w base ok x cs => d.M w base (fun k => ok k ∧ f k = x.2) x.1 cs
  K_len := fun h => d.K_len h
  K_one := fun h => d.K_one h
  K_below := fun hb h => d.K_below hb h
  K_of_M := fun h => d.K_of_M h
  M_mono := fun hok h => d.M_mono (fun k hk => ⟨hok k hk.1, hk.2⟩) h
  M_bound := fun h => d.M_mono (fun _ hk => ⟨⟨hk.1.1, hk.2⟩, hk.1.2⟩) (d.M_bound h)
  M_move := fun hm h => d.M_move (fun k hk => hm k hk.1) h
  M_lower := fun hb h => d.M_lower hb h
def raw (sz : Nat) : Kd (List Value) where
  sz := sz
  E := []
  K := fun _ x cs => cs = x ∧ cs.length = sz ∧ ∀ u ∈ cs, u.oneCell' = true
  M := fun _ _ _ x cs => cs = x ∧ cs.length = sz ∧ ∀ u ∈ cs, u.oneCell' = true
  K_len := fun h => h.2.1
  K_one := fun h => h.2.2
  K_below := fun _ h => h
  K_of_M := fun h => h
  M_mono := fun _ h => h
  M_bound := fun h => h
  M_move := fun _ h => h
  M_lower := fun _ h => h
def S {α : Type} (d : Kd α) (e : Nat) (w : World) (base : Nat) (ok : Nat → Prop) (v : Value) (xs : List α) : Prop := ∃ f, (tag f d).R e w base ok v xs.zipIdx
section
variable {α β : Type} {d : Kd α} {d' : Kd β} {e e' : Nat} {w w1 W : World} {base b : Nat} {ok ok' okv oku : Nat → Prop} {u v : Value} {xs : List α} {ys : List β}
theorem R_tight (hE : d.E = []) (h : d.R e w base ok v xs) : d.R e w base (fun k => some k = v.ownBlock) v xs := by
  obtain ⟨h0, inner, ho, hr⟩ := h
  refine ⟨fun k hk => hk.symm, inner, ho, hr.imp_ (fun p c hp => d.M_mono (fun k hk => ?_) (d.M_bound hp))⟩
  obtain ⟨_, _, _, q, hq, _⟩ := hk
  rw [hE] at hq
  cases hq
theorem S_nil (d : Kd α) (e : Nat) (w : World) (base : Nat) (ok : Nat → Prop) : S d e w base ok (.slice none 0 0) [] := ⟨fun _ => 0, R_nil _ _ _ _ _⟩
end
def gap {α : Type} (f : Nat → Nat) (d : Kd α) (i : Nat) (c : List Value) : Kd (α × Nat) where
  sz := d.sz
  E := d.E
  K := fun w x cs => (x.2 = i → cs = c ∧ cs.length = d.sz ∧ ∀ u ∈ cs, u.oneCell' = true) ∧ (x.2 ≠ i → d.K w x.1 cs)
  M := fun w base ok x cs => (x.2 = i → cs = c ∧ cs.length = d.sz ∧ ∀ u ∈ cs, u.oneCell' = true) ∧ (x.2 ≠ i → d.M w base (fun k => ok k ∧ f k = x.2) x.1 cs)
  K_len := fun {w x cs} h => by
    by_cases hx : x.2 = i
    · exact (h.1 hx).2.1
    · exact d.K_len (h.2 hx)
  K_one := fun {w x cs} h => by
    by_cases hx : x.2 = i
    · exact (h.1 hx).2.2
    · exact d.K_one (h.2 hx)
  K_below := fun hb h => ⟨h.1, fun hx => d.K_below hb (h.2 hx)⟩
  K_of_M := fun h => ⟨h.1, fun hx => d.K_of_M (h.2 hx)⟩
  M_mono := fun hok h => ⟨h.1, fun hx => d.M_mono (fun k hk => ⟨hok k hk.1, hk.2⟩) (h.2 hx)⟩
  M_bound := fun h => ⟨h.1, fun hx => d.M_mono (fun _ hk => ⟨⟨hk.1.1, hk.2⟩, hk.1.2⟩) (d.M_bound (h.2 hx))⟩
  M_move := fun hm h => ⟨h.1, fun hx => d.M_move (fun k hk => hm k hk.1) (h.2 hx)⟩
  M_lower := fun hb h => ⟨h.1, fun hx => d.M_lower hb (h.2 hx)⟩
def H {α : Type} (d : Kd α) (e : Nat) (w : World) (base : Nat) (ok : Nat → Prop) (v : Value) (xs : List α) (i : Int) (oki : Nat → Prop) (c : List Value) : Prop :=
  (∀ k, oki k → ok k) ∧ ∃ f, (gap f d i.toNat c).R e w base (fun k => ok k ∧ ¬ oki k) v xs.zipIdx
end Kd
end Go.Proofs.YtifkbghnmhineaaW.PrintWords
end
section
namespace Go.Proofs.YtifkbghnmhineaaW.PrintWords
open Go.RowKit
namespace Kd
structure Heap {α : Type} (d : Kd α) : Prop where
  K : ∀ {w w1 : World} {x : α} {cs : List Value}, (∀ k, k < w.heap.size → w1.heap[k]? = w.heap[k]?) → d.K w x cs → d.K w1 x cs
theorem cell_heap {w w1 : World} (hb : ∀ k, k < w.heap.size → w1.heap[k]? = w.heap[k]?) {a : Addr} {v : Value} (h : w.cell? a = some v) : w1.cell? a = some v := by
  have := hb a.block (World.block_lt_of_cell? w a h)
  simpa [World.cell?, this] using h
theorem Heap.C {α : Type} {d : Kd α} (hd : Heap d) {w w1 : World} {A : Option Addr} {n : Nat} {xs : List α} (hb : ∀ k, k < w.heap.size → w1.heap[k]? = w.heap[k]?) (h : d.C w A n xs) : d.C w1 A n xs :=
  ⟨h.1, h.2.1, fun hn => by
    obtain ⟨ad, e, hc⟩ := h.2.2 hn
    refine ⟨ad, e, fun j p hj => ?_⟩
    obtain ⟨c, hs, hr, hcell⟩ := hc j p hj
    exact ⟨c, hs, hd.K hb hr, fun i u hu => cell_heap hb (hcell i u hu)⟩⟩
theorem heap_int (k : IntKind) : Heap (Kd.int k) := ⟨fun _ h => h⟩
end Kd
end Go.Proofs.YtifkbghnmhineaaW.PrintWords
end
section
namespace Go.Proofs.YtifkbghnmhineaaW.PrintWords
open Go.RowKit
def Kept (w W : World) (S : Nat → Prop) : Prop := w.heap.size ≤ W.heap.size ∧ ∀ i, i < w.heap.size → ¬ S i → W.heap[i]? = w.heap[i]?
section
variable {w W W2 : World} {S S2 S' : Nat → Prop}
theorem Kept.refl (w : World) (S : Nat → Prop) : Kept w w S := ⟨Nat.le_refl _, fun _ _ _ => rfl⟩
theorem Kept.of_below (h : Below w.heap.size w W) (S : Nat → Prop) : Kept w W S := ⟨h.size, fun i hi _ => h.block i hi⟩
theorem Kept.mono (h : Kept w W S) (hs : ∀ k, S k → S' k) : Kept w W S' := ⟨h.1, fun i hi hn => h.2 i hi (fun hk => hn (hs i hk))⟩
theorem Kept.then_ (h : Kept w W S) (k : Kept W W2 S2) (hs : ∀ k, S2 k → S k ∨ w.heap.size ≤ k) : Kept w W2 S :=
  ⟨Nat.le_trans h.1 k.1, fun i hi hn => (k.2 i (Nat.lt_of_lt_of_le hi h.1) (fun h2 => (hs i h2).elim hn (fun h3 => by omega))).trans (h.2 i hi hn)⟩
theorem Kept.below (h : Kept w W S) (hb : Below W.heap.size W W2) : Kept w W2 S := h.then_ (Kept.of_below hb (fun _ => False)) (fun _ hk => hk.elim)
theorem Kept.alloc (h : Kept w W S) (o : Obj) : Kept w (W.alloc o) S := h.below (below_alloc (Below.refl _ _) o)
theorem Kept.drew (h : Kept w W S) : Kept w W.drew S := h
theorem Kept.drewN (h : Kept w W S) (m : Nat) : Kept w (W.drewN m) S := h
theorem Kept.setCell (h : Kept w W S) {p : Addr} (hp : S p.block ∨ w.heap.size ≤ p.block) (u : Value) : Kept w (W.setCell p u) S :=
  h.then_ (S2 := fun k => k = p.block) ⟨by simp [World.setCell], fun i _ hn => Below.heap_setCell W p u i hn⟩ (fun k hk => by rw [hk]; exact hp)
theorem Kept.keep {g : Nat} (h : KeepBut w W g none) (k : Kept W W2 S2) (hs : ∀ k, S2 k → w.heap.size ≤ k) : KeepBut w W2 g none :=
  ⟨Nat.le_trans h.1 k.1, fun i hi hg hr => (k.2 i (Nat.lt_of_lt_of_le hi h.1) (fun h2 => by have := hs i h2; omega)).trans (h.2 i hi hg hr)⟩
end
namespace Kd
section
variable {α : Type} {d : Kd α} {e base n c : Nat} {ok oki S S2 : Nat → Prop} {w w0 W W1 W2 : World} {v : Value} {A : Option Addr} {xs : List α} {i : Int} {cs : List Value}
theorem R_kept (h : d.R e W base ok v xs) (hk : Kept W W2 S) (hne : ∀ k, ok k → ¬ S k) : d.R e W2 base ok v xs := R_step h (fun k ho hlt => hk.2 k hlt (hne k ho))
theorem C_kept_own (h : d.R e W base ok (.slice A n c) xs) (hok : ∀ k, ok k → ¬ S k) : ∀ W', Kept W W' S → d.C W' A n xs := fun W' hk => by
  have h2 := R_reads' (R_kept h hk hok)
  rw [h2.1]
  exact h2.2.2
end
end Kd
end Go.Proofs.YtifkbghnmhineaaW.PrintWords
end
section
namespace Go.Proofs.YtifkbghnmhineaaW.PrintWords
open Go.RowKit
def Foot (P : World → Prop) (W : World) (ok : Nat → Prop) : Prop := ∀ W' : World, (∀ k, ok k → k < W.heap.size → W'.heap[k]? = W.heap[k]?) → P W'
theorem heap_lt {W W1 : World} {k : Nat} (h : W1.heap[k]? = W.heap[k]?) (hlt : k < W.heap.size) : k < W1.heap.size := by
  rw [Array.getElem?_eq_getElem hlt] at h
  exact (Array.getElem?_eq_some_iff.1 h).1
namespace Foot
variable {P Q : World → Prop} {W W1 : World} {ok ok' : Nat → Prop}
theorem now (h : Foot P W ok) : P W := h W (fun _ _ _ => rfl)
theorem mono (h : Foot P W ok) (hok : ∀ k, ok k → ok' k) : Foot P W ok' := fun W' hW => h W' (fun k hk hlt => hW k (hok k hk) hlt)
theorem bound (h : Foot P W ok) : Foot P W (fun k => ok k ∧ k < W.heap.size) := fun W' hW => h W' (fun k hk hlt => hW k ⟨hk, hlt⟩ hlt)
theorem step (h : Foot P W ok) (hm : ∀ k, ok k → k < W.heap.size → W1.heap[k]? = W.heap[k]?) : Foot P W1 ok := fun W' hW => h W' (fun k hk hlt => (hW k hk (heap_lt (hm k hk hlt) hlt)).trans (hm k hk hlt))
theorem imp (h : Foot P W ok) (hi : ∀ W', P W' → Q W') : Foot Q W ok := fun W' hW => hi W' (h W' hW)
theorem old (h : Foot P W ok) (hb : Below W.heap.size W W1) : Foot P W1 (fun k => ok k ∧ k < W.heap.size) := (h.bound).step (fun k _ hlt => hb.block k hlt)
end Foot
namespace Kd
def F {α : Type} (d : Kd α) (W : World) (ok : Nat → Prop) (A : Option Addr) (n : Nat) (xs : List α) : Prop := Foot (fun W => d.C W A n xs) W ok
def FK {α : Type} (d : Kd α) (W : World) (ok : Nat → Prop) (x : α) (c : List Value) : Prop := Foot (fun W => d.K W x c) W ok
section
variable {α β : Type} {d : Kd α} {e base n n' cc g N : Nat} {ok ok' okp S : Nat → Prop} {w w0 w1 W W1 : World} {A A' : Option Addr} {u v v1 : Value} {xs : List α} {xs' : List β} {d' : Kd β} {x : α} {c : List Value}
theorem F_now (h : F d W ok A n xs) : d.C W A n xs := Foot.now h
theorem F_mono (h : F d W ok A n xs) (hok : ∀ k, ok k → ok' k) : F d W ok' A n xs := Foot.mono h hok
theorem F_bound (h : F d W ok A n xs) : F d W (fun k => ok k ∧ k < W.heap.size) A n xs := Foot.bound h
theorem F_step (h : F d W ok A n xs) (hm : ∀ k, ok k → k < W.heap.size → W1.heap[k]? = W.heap[k]?) : F d W1 ok A n xs := Foot.step h hm
theorem F_imp (h : F d W ok A n xs) (hi : ∀ W', d.C W' A n xs → d'.C W' A' n' xs') : F d' W ok A' n' xs' := Foot.imp h hi
theorem F_below (h : F d W ok A n xs) (hb : Below W.heap.size W W1) : F d W1 ok A n xs := F_step h (fun k _ hlt => hb.block k hlt)
theorem F_alloc (h : F d W ok A n xs) (o : Obj) : F d (W.alloc o) ok A n xs := F_below h (below_alloc (Below.refl _ _) o)
theorem F_drew (h : F d W ok A n xs) : F d W.drew ok A n xs := F_below h (below_drew (Below.refl _ _))
theorem F_drewN (h : F d W ok A n xs) (m : Nat) : F d (W.drewN m) ok A n xs := F_below h (pw_below_drewN (Below.refl _ _) m)
theorem F_nil (d : Kd α) (W : World) (ok : Nat → Prop) : F d W ok none ([] : List α).length [] := fun W' _ => C_nil d W'
theorem F_elder' (h : F d W ok A n xs) (hbase : ∀ k, v.ownBlock = some k → W.heap.size ≤ k) (hb : Below W.heap.size W W1) : F d W1 (fun k => ok k ∧ some k ≠ v.ownBlock) A n xs :=
  F_mono (Foot.old h hb) (fun k hk => ⟨hk.1, fun he => by have := hbase k he.symm; have := hk.2; omega⟩)
theorem F_after (h : F d W (fun k => ok k ∧ some k ≠ v.ownBlock) A n xs) (hg : W.grownBy W1 v.ownBlock) (hat : v1.ownBlock = v.ownBlock ∨ ∃ b, v1.ownBlock = some b ∧ W.heap.size ≤ b) : F d W1 (fun k => ok k ∧ some k ≠ v1.ownBlock) A n xs := by
  refine F_mono (Foot.step (F_bound h) (fun k hk hlt => hg.block k hlt hk.1.2)) (fun k hk => ⟨hk.1.1, ?_⟩)
  rcases hat with hat | ⟨b, hb, hle⟩
  · rw [hat]; exact hk.1.2
  · rw [hb]
    intro he
    injection he with he
    have := hk.2
    omega
theorem F_apart_nil (h : F d W ok A n xs) : F d W (fun k => ok k ∧ some k ≠ (Value.slice none 0 0).ownBlock) A n xs := F_mono h (fun k hk => ⟨hk, by simp [Value.ownBlock]⟩)
theorem C_F (hd : Heap d) (h : d.C w A n xs) : F d w (fun k => k < w.heap.size) A n xs := fun _ hW => hd.C (fun k hlt => hW k hlt hlt) h
theorem R_F (h : d.R e W base ok (.slice A n cc) xs) : F d W ok A n xs := fun W' hW => by
  have h2 := R_reads' (R_step h hW)
  rw [h2.1]
  exact h2.2.2
theorem FK_now (h : FK d W ok x c) : d.K W x c := Foot.now h
theorem FK_mono (h : FK d W ok x c) (hok : ∀ k, ok k → ok' k) : FK d W ok' x c := Foot.mono h hok
theorem FK_bound (h : FK d W ok x c) : FK d W (fun k => ok k ∧ k < W.heap.size) x c := Foot.bound h
theorem FK_step (h : FK d W ok x c) (hm : ∀ k, ok k → k < W.heap.size → W1.heap[k]? = W.heap[k]?) : FK d W1 ok x c := Foot.step h hm
theorem FK_of_M (h : d.M W base ok x c) : FK d W ok x c := fun _ hW => d.K_of_M (M_step h hW)
end
end Kd
end Go.Proofs.YtifkbghnmhineaaW.PrintWords
end
section
namespace Go.Proofs.YtifkbghnmhineaaW.PrintWords
open Go.RowKit
namespace Kd
def chunks (sz : Nat) (n : Nat) (inner : List Value) : List (List Value) := (List.range n).map fun j => (inner.drop (j * sz)).take sz
theorem chunks_length (sz n : Nat) (inner : List Value) : (chunks sz n inner).length = n := by simp [chunks]
theorem chunks_at {sz n : Nat} {inner : List Value} {j : Nat} (hj : j < n) : (chunks sz n inner)[j]? = some ((inner.drop (j * sz)).take sz) := by simp [chunks, hj]
theorem chunks_get {sz n : Nat} {inner : List Value} {j : Nat} {c : List Value} (h : (chunks sz n inner)[j]? = some c) : c = (inner.drop (j * sz)).take sz := by
  have hj : j < n := by have := (List.getElem?_eq_some_iff.1 h).1; rwa [chunks_length] at this
  rw [chunks_at hj] at h
  injection h with h
  exact h.symm
theorem reps_raw {α : Type} {Rr : α → List Value → Prop} {sz : Nat} {xs : List α} {inner : List Value} (h : Reps Rr sz xs inner) (hR : ∀ x c, Rr x c → c.length = sz ∧ ∀ u ∈ c, u.oneCell' = true) : Reps (fun x cs => cs = x ∧ cs.length = sz ∧ ∀ u ∈ cs, u.oneCell' = true) sz (chunks sz xs.length inner) inner := by
  refine ⟨by rw [chunks_length]; exact h.1, fun j p hj => ?_⟩
  have hjl : j < xs.length := by have := (List.getElem?_eq_some_iff.1 hj).1; rwa [chunks_length] at this
  have hp := chunks_get hj
  exact ⟨hp.symm, hR _ _ (h.2 j _ (List.getElem?_eq_getElem hjl))⟩
section
variable {α : Type} {d : Kd α} {e base n cc g : Nat} {ok ok' okp S : Nat → Prop} {w w1 W W1 : World} {A : Option Addr} {u v v1 : Value} {xs : List α} {x : α} {c : List Value}
def N {α : Type} (d : Kd α) (e : Nat) (w : World) (base : Nat) (ok : Nat → Prop) (v : Value) (xs : List α) : Prop :=
  (∀ k, v.ownBlock = some k → ok k) ∧ ∃ rows : List (List Value), rows.length = xs.length ∧ (raw d.sz).R e w base (fun k => some k = v.ownBlock) v rows ∧ ∀ (j : Nat) (x : α) (c : List Value), xs[j]? = some x → rows[j]? = some c → FK d w (fun k => ok k ∧ some k ≠ v.ownBlock) x c
theorem raw_tight {sz : Nat} {rows : List (List Value)} (h : (raw sz).R e w base ok v rows) : (raw sz).R e w base (fun k => some k = v.ownBlock) v rows := R_tight rfl h
theorem raw_any {sz : Nat} {rows : List (List Value)} (h : (raw sz).R e w base ok v rows) : (raw sz).R e w base (fun _ => True) v rows := R_mono h (fun _ _ => trivial)
theorem R_N (h : d.R e w base ok v xs) : N d e w base ok v xs := by
  obtain ⟨h0, inner, ho, hr⟩ := h
  refine ⟨h0, chunks d.sz xs.length inner, chunks_length _ _ _, ⟨fun k hk => hk.symm, inner, by rw [chunks_length]; exact ho, reps_raw hr (fun x c hp => ⟨d.K_len (d.K_of_M hp), d.K_one (d.K_of_M hp)⟩)⟩, fun j x c hx hc => ?_⟩
  rw [chunks_get hc]
  exact FK_of_M (hr.2 j x hx)
theorem N_nil (d : Kd α) (e : Nat) (w : World) (base : Nat) (ok : Nat → Prop) : N d e w base ok (.slice none 0 0) [] := R_N (R_nil _ _ _ _ _)
theorem N_mono (h : N d e w base ok v xs) (hok : ∀ k, ok k → ok' k) : N d e w base ok' v xs := by
  obtain ⟨h0, rows, hl, hR, hf⟩ := h
  exact ⟨fun k hk => hok k (h0 k hk), rows, hl, hR, fun j x c hx hc => FK_mono (hf j x c hx hc) (fun k hk => ⟨hok k hk.1, hk.2⟩)⟩
theorem N_base (h : N d e w base ok v xs) : ∀ k, v.ownBlock = some k → base ≤ k := by
  obtain ⟨_, rows, _, hR, _⟩ := h
  exact R_base hR
theorem N_lower {base' : Nat} (h : N d e w base ok v xs) (hb : base' ≤ base) : N d e w base' ok v xs := by
  obtain ⟨h0, rows, hl, hR, hf⟩ := h
  exact ⟨h0, rows, hl, R_lower hR hb, hf⟩
theorem N_step (h : N d e w base ok v xs) (hm : ∀ k, ok k → k < w.heap.size → w1.heap[k]? = w.heap[k]?) : N d e w1 base ok v xs := by
  obtain ⟨h0, rows, hl, hR, hf⟩ := h
  exact ⟨h0, rows, hl, R_step hR (fun k hk hlt => hm k (h0 k hk.symm) hlt), fun j x c hx hc => FK_step (hf j x c hx hc) (fun k hk hlt => hm k hk.1 hlt)⟩
theorem N_below (h : N d e w base ok v xs) (hb : Below w.heap.size w w1) : N d e w1 base ok v xs := N_step h (fun k _ hk => hb.block k hk)
theorem N_alloc (h : N d e w base ok v xs) (o : Obj) : N d e (w.alloc o) base ok v xs := N_below h (below_alloc (Below.refl _ _) o)
theorem N_drew (h : N d e w base ok v xs) : N d e w.drew base ok v xs := N_below h (below_drew (Below.refl _ _))
theorem N_drewN (h : N d e w base ok v xs) (m : Nat) : N d e (w.drewN m) base ok v xs := N_below h (pw_below_drewN (Below.refl _ _) m)
theorem N_slice (h : N d e w base ok v xs) : ∃ A c, v = .slice A xs.length c := by
  obtain ⟨_, rows, hl, hR, _⟩ := h
  obtain ⟨A, c, he⟩ := R_slice hR
  exact ⟨A, c, by rw [he, hl]⟩
theorem N_reads' {n c : Nat} (h : N d e w base ok (.slice A n c) xs) : n = xs.length ∧ n ≤ c ∧ d.C w A xs.length xs := by
  obtain ⟨_, rows, hl, hR, hf⟩ := h
  obtain ⟨hn, hc, hC⟩ := R_reads' hR
  refine ⟨by omega, hc, ?_⟩
  rw [hl] at hC
  refine ⟨rfl, hC.2.1, fun hp => ?_⟩
  obtain ⟨ad, he, hcell⟩ := hC.2.2 hp
  refine ⟨ad, he, fun j p hj => ?_⟩
  have hjl : j < rows.length := by have := (List.getElem?_eq_some_iff.1 hj).1; omega
  obtain ⟨c', hcl, hK, hcc⟩ := hcell j _ (List.getElem?_eq_getElem hjl)
  have hk := FK_now (hf j p _ hj (List.getElem?_eq_getElem hjl))
  refine ⟨c', hcl, ?_, hcc⟩
  rw [show c' = rows[j] from hK.1]
  exact hk
end
end Kd
end Go.Proofs.YtifkbghnmhineaaW.PrintWords
end
section
namespace Go.Proofs.YtifkbghnmhineaaW.PrintWords
open Go.RowKit
namespace Kd
section
variable {α : Type} {d : Kd α} {e base n cap g : Nat} {ok ok' okp : Nat → Prop} {w w1 W : World} {v v1 : Value} {xs ys : List α}
theorem N_appended {rows news : List (List Value)} (h0 : ∀ k, v.ownBlock = some k → ok k) (hl : rows.length = xs.length) (hf : ∀ (j : Nat) (x : α) (c : List Value), xs[j]? = some x → rows[j]? = some c → FK d W (fun k => ok k ∧ some k ≠ v.ownBlock) x c)
    (hl2 : news.length = ys.length) (hf2 : ∀ (j : Nat) (x : α) (c : List Value), ys[j]? = some x → news[j]? = some c → FK d W okp x c) (hokp : ∀ k, okp k → ok k ∧ some k ≠ v.ownBlock) (hfresh : ∀ k, W.heap.size ≤ k → ok k)
    (hR : (raw d.sz).R e w1 base (fun _ => True) v1 (rows ++ news)) (hg : W.grownBy w1 v.ownBlock) (hat : v1.ownBlock = v.ownBlock ∨ ∃ b, v1.ownBlock = some b ∧ W.heap.size ≤ b) : N d e w1 base ok v1 (xs ++ ys) := by
  have hne : ∀ k, some k ≠ v.ownBlock → k < W.heap.size → some k ≠ v1.ownBlock := by
    intro k hk hlt
    rcases hat with hat | ⟨b, hb, hle⟩
    · rw [hat]; exact hk
    · rw [hb]
      intro he
      injection he with he
      omega
  have step : ∀ {x : α} {c : List Value} {o : Nat → Prop}, FK d W o x c → (∀ k, o k → ok k ∧ some k ≠ v.ownBlock) → FK d w1 (fun k => ok k ∧ some k ≠ v1.ownBlock) x c := by
    intro x c o hq ho
    exact FK_mono (FK_step (FK_bound hq) (fun k hk hlt => hg.block k hlt (ho k hk.1).2)) (fun k hk => ⟨(ho k hk.1).1, hne k (ho k hk.1).2 hk.2⟩)
  refine ⟨fun k hk => ?_, rows ++ news, by rw [List.length_append, List.length_append, hl, hl2], raw_tight hR, fun j x c hx hc => ?_⟩
  · rcases hat with hat | ⟨b, hb, hle⟩
    · exact h0 k (hat ▸ hk)
    · rw [hb] at hk
      injection hk with hk
      exact hfresh k (by omega)
  · rcases Nat.lt_or_ge j xs.length with hlt | hge
    · rw [List.getElem?_append_left hlt] at hx
      rw [List.getElem?_append_left (by omega)] at hc
      exact step (hf j x c hx hc) (fun _ hk => hk)
    · rw [List.getElem?_append_right hge] at hx
      rw [List.getElem?_append_right (by omega), hl] at hc
      exact step (hf2 _ x c hx hc) hokp
theorem FK_raw {x : α} {c : List Value} (h : FK d W ok x c) : c = c ∧ c.length = d.sz ∧ ∀ u ∈ c, u.oneCell' = true := ⟨rfl, d.K_len (FK_now h), d.K_one (FK_now h)⟩
theorem N_made {rows : List (List Value)} (hR : (raw d.sz).R e w1 base (fun k => k = W.heap.size) v1 rows) (hg : W.grownBy w1 none) (hat : ∃ b, v1.ownBlock = some b ∧ W.heap.size ≤ b) (hl : rows.length = xs.length) (hf : ∀ (j : Nat) (x : α) (c : List Value), xs[j]? = some x → rows[j]? = some c → FK d W okp x c)
    (hok : ∀ k, okp k → ok k) (hfresh : ok W.heap.size) : N d e w1 base ok v1 xs := by
  obtain ⟨b, hb, hle⟩ := hat
  refine ⟨fun k hk => by rw [hR.1 k hk]; exact hfresh, rows, hl, raw_tight hR, fun j x c hx hc => ?_⟩
  refine FK_mono (FK_step (FK_bound (hf j x c hx hc)) (fun k hk hlt => hg.block k hlt (by simp))) (fun k hk => ⟨hok k hk.1, fun he => ?_⟩)
  rw [hb] at he
  injection he with he
  have := hk.2
  omega
end
section
variable {P : Program} {ops : Array Oper} {rest : List Oper} {o : Oper} {a : Act} {Q : Exit → Act → World → Prop} {Kc : Act → World → Prop} {α : Type}
theorem N_append (d : Kd α) {w0 W : World} (base : Nat) (hgd : o.guard = none) (s x : Operand) (t e : TypeId) (z : Value) (bytes : Nat)
    (ho : o.op = .call { callee := .builtin .append, args := #[s, x], argTypes := #[t, t] })
    (ht : P.underlying t = some (.slice e)) (hinfo : (P.info? e).map (fun i => (i.zero, i.size, i.bytes)) = some (some z, d.sz, bytes)) (hz : z.cells.size = d.sz) (hs0 : 0 < d.sz) (hb0 : 0 < bytes)
    (v : Value) (xs : List α) (p : α) (cs : List Value) (ok okp : Nat → Prop) (hs : a.eval s = v) (hx : a.eval x = .slice (some ⟨W.heap.size, 0, none⟩) 1 1) (hp : FK d W okp p cs) (hokp : ∀ k, okp k → ok k ∧ some k ≠ v.ownBlock) (hfresh : ∀ k, W.heap.size ≤ k → ok k)
    (HO : N d e W base ok v xs) (HB : Below base w0 W) (hbase : base ≤ W.heap.size) (hl : (xs.length + 1) * bytes ≤ 140737488355328)
    (h : ∀ v1 w1, N d e w1 base ok v1 (xs ++ [p]) → Below base w0 w1 → W.grownBy w1 v.ownBlock → (v1.ownBlock = v.ownBlock ∨ ∃ b, v1.ownBlock = some b ∧ W.heap.size ≤ b) → wpList P ops Q rest (a.put o.dst v1) w1) :
    wpList P ops Q (o :: rest) a (W.alloc (.cells cs.toArray e)) := by
  obtain ⟨h0, rows, hlr, hR, hf⟩ := HO
  refine R_append (raw d.sz) base hgd s x t e z bytes ho ht hinfo hz hs0 hb0 v rows cs cs (fun _ => True) (fun _ => False) hs hx (FK_raw hp) (fun _ hk => hk.elim) (fun _ _ => trivial) (raw_any hR) HB hbase (by rw [hlr]; exact hl) ?_
  intro v1 w1 hr hb hg hat
  exact h v1 w1 (N_appended h0 hlr hf (ys := [p]) (news := [cs]) rfl (fun j y c hy hc => by
    rcases j with _ | j
    · simp only [List.getElem?_cons_zero, Option.some.injEq] at hy hc
      rw [← hy, ← hc]; exact hp
    · simp at hy) hokp hfresh hr hg hat) hb hg hat
theorem N_lit (d : Kd α) {w0 W : World} (base e : Nat) (hgd : o.guard = none) {N' : Tmp} (_hd : o.dst = some N') {xs : List α} {inner : List Value} {ok okp : Nat → Prop}
    (hrun : (execOp a.eval o).run P W = .ok (.value (.slice (some ⟨W.heap.size, 0, none⟩) xs.length xs.length)) (W.alloc (.cells inner.toArray e)))
    (hrep : Reps (FK d W okp) d.sz xs inner) (hok : ∀ k, okp k → ok k) (hfresh : ok W.heap.size) (HB : Below base w0 W) (hbase : base ≤ W.heap.size) (hm : xs.length ≤ 9223372036854775807)
    (h : ∀ v1 w1, N d e w1 base ok v1 xs → Below base w0 w1 → W.grownBy w1 none → (∃ b, v1.ownBlock = some b ∧ W.heap.size ≤ b) → wpList P ops Q rest (a.put o.dst v1) w1) :
    wpList P ops Q (o :: rest) a W := by
  refine R_lit (raw d.sz) base e hgd _hd (xs := chunks d.sz xs.length inner) (inner := inner) (ok := fun k => k = W.heap.size) (okp := fun _ => False) (by rw [chunks_length]; exact hrun) (reps_raw hrep (fun y c hk => ⟨d.K_len (FK_now hk), d.K_one (FK_now hk)⟩)) (fun _ hk => hk.elim) rfl HB hbase (by rw [chunks_length]; exact hm) ?_
  intro v1 w1 hr hb hg hat
  exact h v1 w1 (N_made hr hg hat (chunks_length _ _ _) (fun j y c hy hc => by rw [chunks_get hc]; exact hrep.2 j y hy) hok hfresh) hb hg hat
end
end Kd
end Go.Proofs.YtifkbghnmhineaaW.PrintWords
end
section
namespace Go.Proofs.YtifkbghnmhineaaW.PrintMore
open Go.RowKit Go.Proofs.YtifkbghnmhineaaW.PrintWords
theorem max2_int (k k' : IntKind) (x y : Int) : Builtin.max2 (.int k x) (.int k' y) = pure (.int k (if x < y then y else x)) := by simp only [Builtin.max2, gt_iff_lt]
theorem min2_int (k k' : IntKind) (x y : Int) : Builtin.min2 (.int k x) (.int k' y) = pure (.int k (if y < x then y else x)) := by simp only [Builtin.min2]
theorem max_two (ats : Array TypeId) (ty : TypeId) (a b : Value) : Builtin.max_ ats ty #[a, b] = (Builtin.max2 a b >>= fun s => pure s) := by simp only [Builtin.max_, List.foldlM_cons, List.foldlM_nil]
theorem min_two (ats : Array TypeId) (ty : TypeId) (a b : Value) : Builtin.min_ ats ty #[a, b] = (Builtin.min2 a b >>= fun s => pure s) := by simp only [Builtin.min_, List.foldlM_cons, List.foldlM_nil]
theorem max_three (ats : Array TypeId) (ty : TypeId) (a b c : Value) : Builtin.max_ ats ty #[a, b, c] = (Builtin.max2 a b >>= fun s => Builtin.max2 s c >>= fun s => pure s) := by simp only [Builtin.max_, List.foldlM_cons, List.foldlM_nil]
theorem min_three (ats : Array TypeId) (ty : TypeId) (a b c : Value) : Builtin.min_ ats ty #[a, b, c] = (Builtin.min2 a b >>= fun s => Builtin.min2 s c >>= fun s => pure s) := by simp only [Builtin.min_, List.foldlM_cons, List.foldlM_nil]
theorem max_four (ats : Array TypeId) (ty : TypeId) (a b c d : Value) : Builtin.max_ ats ty #[a, b, c, d] = (Builtin.max2 a b >>= fun s => Builtin.max2 s c >>= fun s => Builtin.max2 s d >>= fun s => pure s) := by simp only [Builtin.max_, List.foldlM_cons, List.foldlM_nil]
theorem min_four (ats : Array TypeId) (ty : TypeId) (a b c d : Value) : Builtin.min_ ats ty #[a, b, c, d] = (Builtin.min2 a b >>= fun s => Builtin.min2 s c >>= fun s => Builtin.min2 s d >>= fun s => pure s) := by simp only [Builtin.min_, List.foldlM_cons, List.foldlM_nil]
end Go.Proofs.YtifkbghnmhineaaW.PrintMore
namespace Go.Proofs.YtifkbghnmhineaaW.PrintWords
open Go.RowKit
section
variable {P : Program} {ops : Array Oper} {rest : List Oper} {o : Oper} {a : Act} {Q : Exit → Act → World → Prop} {W : World}
theorem gate_builtin {b : Builtin} {xs : Array Operand} {ts : Array TypeId} (_ho : o.op = .call { callee := .builtin b, args := xs, argTypes := ts }) (h : wpList P ops Q (o :: rest) a W) : wpList P ops Q (o :: rest) a W := h
end
def mn (a b : Int) : Int := if b < a then b else a
def shl (k : IntKind) (x y : Int) : Int := k.wrap (x * 2 ^ min y.toNat k.bits)
theorem shl_small {k : IntKind} {x y j : Int} (h : shl k x y = j) (hy : y ≤ k.bits) : k.wrap (x * 2 ^ y.toNat) = j := by rw [← h]; unfold shl; rw [Nat.min_eq_left (by omega)]
end Go.Proofs.YtifkbghnmhineaaW.PrintWords
namespace Go.Proofs.YtifkbghnmhineaaW.PrintWords
open Go.RowKit
namespace Kd
def V {α : Type} (d : Kd α) (_e : Nat) (W : World) (_base : Nat) (ok : Nat → Prop) (v : Value) (xs : List α) : Prop := ∃ A c, v = .slice A xs.length c ∧ xs.length ≤ c ∧ F d W ok A xs.length xs
section
variable {α β : Type} {d : Kd α} {e base base' n m c g N' lo hi : Nat} {ok ok' S : Nat → Prop} {w W w1 : World} {A : Option Addr} {ad : Addr} {u v v1 : Value} {xs : List α}
theorem V_map (h : V d e W base ok v xs) (hF : ∀ A, F d W ok A xs.length xs → F d w1 ok' A xs.length xs) : V d e w1 base' ok' v xs := by
  obtain ⟨A, c, hv, hl, hf⟩ := h
  exact ⟨A, c, hv, hl, hF A hf⟩
theorem V_mk (hl : xs.length ≤ c) (hf : F d W ok A xs.length xs) : V d e W base ok (.slice A xs.length c) xs := ⟨A, c, rfl, hl, hf⟩
theorem V_slice (h : V d e W base ok v xs) : ∃ A c, v = .slice A xs.length c := by
  obtain ⟨A, c, hv, _⟩ := h
  exact ⟨A, c, hv⟩
theorem V_at (h : V d e W base ok (.slice A n c) xs) : n = xs.length ∧ n ≤ c ∧ F d W ok A xs.length xs := by
  obtain ⟨A', c', hv, hl, hf⟩ := h
  injection hv with ha hn hc
  subst ha; subst hc
  exact ⟨hn, by rw [hn]; exact hl, hf⟩
theorem V_reads' (h : V d e W base ok (.slice A n c) xs) : n = xs.length ∧ n ≤ c ∧ d.C W A xs.length xs := ⟨(V_at h).1, (V_at h).2.1, F_now (V_at h).2.2⟩
theorem V_nil (d : Kd α) (e : Nat) (W : World) (base : Nat) (ok : Nat → Prop) : V d e W base ok (.slice none 0 0) [] := ⟨none, 0, rfl, Nat.le_refl _, F_nil d W ok⟩
theorem R_V (h : d.R e W base ok v xs) : V d e W base' ok v xs := by
  obtain ⟨A, c, rfl⟩ := R_slice h
  exact ⟨A, c, rfl, (R_reads' h).2.1, R_F h⟩
theorem V_mono (h : V d e W base ok v xs) (hok : ∀ k, ok k → ok' k) : V d e W base ok' v xs := V_map h (fun _ hf => F_mono hf hok)
theorem V_lower (h : V d e W base ok v xs) (_ : base' ≤ base) : V d e W base' ok v xs := h
theorem V_below (h : V d e W base ok v xs) (hb : Below W.heap.size W w1) : V d e w1 base ok v xs := V_map h (fun _ hf => F_below hf hb)
theorem V_alloc (h : V d e W base ok v xs) (o : Obj) : V d e (W.alloc o) base ok v xs := V_map h (fun _ hf => F_alloc hf o)
theorem V_drew (h : V d e W base ok v xs) : V d e W.drew base ok v xs := V_map h (fun _ hf => F_drew hf)
theorem V_drewN (h : V d e W base ok v xs) (m : Nat) : V d e (W.drewN m) base ok v xs := V_map h (fun _ hf => F_drewN hf m)
theorem V_after (h : V d e W base (fun k => ok k ∧ some k ≠ u.ownBlock) v xs) (hg : W.grownBy w1 u.ownBlock) (hat : v1.ownBlock = u.ownBlock ∨ ∃ b, v1.ownBlock = some b ∧ W.heap.size ≤ b) : V d e w1 base (fun k => ok k ∧ some k ≠ v1.ownBlock) v xs := V_map h (fun _ hf => F_after hf hg hat)
theorem V_afterv (h : V d e W base (fun k => ok k ∧ some k ≠ v.ownBlock) u xs) (hg : W.grownBy w1 v.ownBlock) (hat : v1.ownBlock = v.ownBlock ∨ ∃ b, v1.ownBlock = some b ∧ W.heap.size ≤ b) : V d e w1 base (fun k => ok k ∧ some k ≠ v1.ownBlock) u xs := V_after h hg hat
theorem V_apart_nil (h : V d e W base ok v xs) : V d e W base (fun k => ok k ∧ some k ≠ (Value.slice none 0 0).ownBlock) v xs := V_map h (fun _ hf => F_apart_nil hf)
theorem V_elder' (h : V d e W base ok v xs) (hbase : ∀ k, u.ownBlock = some k → W.heap.size ≤ k) (hb : Below W.heap.size W w1) : V d e w1 base (fun k => ok k ∧ some k ≠ u.ownBlock) v xs := V_map h (fun _ hf => F_elder' hf hbase hb)
theorem F_take (h : F d W ok A xs.length xs) (hm : m ≤ xs.length) : F d W ok A (xs.take m).length (xs.take m) := F_imp h (fun _ hC => C_take hC hm)
theorem FK_slice_mk {l : List α} (hl : l.length ≤ c) (hf : F d W ok A l.length l) : FK (Kd.slice e d) W ok l [.slice A l.length c] := fun W' hW => ⟨A, c, rfl, hl, hf W' hW⟩
theorem R_newM {M : Nat → Prop} (h : d.R e w1 W.heap.size ok v xs) (hle : w.heap.size ≤ W.heap.size) (hM : ∀ k, w.heap.size ≤ k → M k) : d.R e w1 W.heap.size (fun k => M k ∧ ok k) v xs := R_mono (R_bound h) (fun k hk => ⟨hM k (Nat.le_trans hle hk.2.1), hk.1⟩)
end
end Kd
end Go.Proofs.YtifkbghnmhineaaW.PrintWords
end
section
namespace Mw
open Go Go.RowKit Go.Proofs.YtifkbghnmhineaaW.PrintWords Go.Proofs.YtifkbghnmhineaaW.PrintLast Go.Proofs.YtifkbghnmhineaaW.PrintMore
theorem FK_of_R {α : Type} {d : Kd α} {e e0 base n c : Nat} {ok : Nat → Prop} {W : World} {A : Option Addr} {xs : List α} (h : d.R e0 W base ok (.slice A n c) xs) : Kd.FK (Kd.slice e d) W ok xs [.slice A n c] := by
  obtain ⟨h1, h2, _⟩ := Kd.R_reads' h
  have h3 := Kd.R_F h
  subst h1
  exact Kd.FK_slice_mk h2 h3
end Mw
end
section
namespace Go.Proofs.YtifkbghnmhineaaW.PrintWords
theorem Reps.one {α : Type} {R : α → List Value → Prop} {ps : List α} {cs : List Value} {p : α} {v : Value} (hp : R p [v]) (h : Reps R 1 ps cs) : Reps R 1 (p :: ps) (v :: cs) := by
  refine ⟨by simp [h.1], fun j q hq => ?_⟩
  cases j with
  | zero =>
    simp only [List.getElem?_cons_zero, Option.some.injEq] at hq
    subst hq
    simpa using hp
  | succ j =>
    simp only [List.getElem?_cons_succ] at hq
    have h1 := h.2 j q hq
    simpa [Nat.mul_one] using h1
theorem Reps.front {α : Type} {R : α → List Value → Prop} {size : Nat} {ps : List α} {cs c all : List Value} {p : α} (hp : R p c) (hc : c.length = size) (h : Reps R size ps cs) (ha : c ++ cs = all) : Reps R size (p :: ps) all := by
  subst ha
  refine ⟨by rw [List.length_append, hc, h.1, List.length_cons, Nat.succ_mul, Nat.add_comm], fun j q hq => ?_⟩
  cases j with
  | zero =>
    simp only [List.getElem?_cons_zero, Option.some.injEq] at hq
    subst hq
    rw [Nat.zero_mul, List.drop_zero, List.take_append_of_le_length (by omega), List.take_of_length_le (by omega)]
    exact hp
  | succ j =>
    simp only [List.getElem?_cons_succ] at hq
    have h1 := h.2 j q hq
    rw [Nat.succ_mul, List.drop_append, List.drop_of_length_le (by rw [hc]; exact Nat.le_add_left _ _), List.nil_append, hc, Nat.add_sub_cancel]
    exact h1
theorem Reps.c2 {α : Type} {R : α → List Value → Prop} {ps : List α} {cs : List Value} {p : α} {va vb : Value} (hp : R p [va, vb]) (h : Reps R 2 ps cs) : Reps R 2 (p :: ps) (va :: vb :: cs) := Reps.front hp rfl h rfl
theorem Reps.c3 {α : Type} {R : α → List Value → Prop} {ps : List α} {cs : List Value} {p : α} {va vb vc : Value} (hp : R p [va, vb, vc]) (h : Reps R 3 ps cs) : Reps R 3 (p :: ps) (va :: vb :: vc :: cs) := Reps.front hp rfl h rfl
theorem Reps.c4 {α : Type} {R : α → List Value → Prop} {ps : List α} {cs : List Value} {p : α} {va vb vc vd : Value} (hp : R p [va, vb, vc, vd]) (h : Reps R 4 ps cs) : Reps R 4 (p :: ps) (va :: vb :: vc :: vd :: cs) := Reps.front hp rfl h rfl
theorem Reps.c5 {α : Type} {R : α → List Value → Prop} {ps : List α} {cs : List Value} {p : α} {va vb vc vd ve : Value} (hp : R p [va, vb, vc, vd, ve]) (h : Reps R 5 ps cs) : Reps R 5 (p :: ps) (va :: vb :: vc :: vd :: ve :: cs) := Reps.front hp rfl h rfl
theorem Reps.c6 {α : Type} {R : α → List Value → Prop} {ps : List α} {cs : List Value} {p : α} {va vb vc vd ve vf : Value} (hp : R p [va, vb, vc, vd, ve, vf]) (h : Reps R 6 ps cs) : Reps R 6 (p :: ps) (va :: vb :: vc :: vd :: ve :: vf :: cs) := Reps.front hp rfl h rfl
theorem Reps.c7 {α : Type} {R : α → List Value → Prop} {ps : List α} {cs : List Value} {p : α} {va vb vc vd ve vf vg : Value} (hp : R p [va, vb, vc, vd, ve, vf, vg]) (h : Reps R 7 ps cs) : Reps R 7 (p :: ps) (va :: vb :: vc :: vd :: ve :: vf :: vg :: cs) := Reps.front hp rfl h rfl
theorem Reps.c8 {α : Type} {R : α → List Value → Prop} {ps : List α} {cs : List Value} {p : α} {va vb vc vd ve vf vg vh : Value} (hp : R p [va, vb, vc, vd, ve, vf, vg, vh]) (h : Reps R 8 ps cs) : Reps R 8 (p :: ps) (va :: vb :: vc :: vd :: ve :: vf :: vg :: vh :: cs) := Reps.front hp rfl h rfl
theorem Reps.c10 {α : Type} {R : α → List Value → Prop} {ps : List α} {cs : List Value} {p : α} {va vb vc vd ve vf vg vh vi vj : Value} (hp : R p [va, vb, vc, vd, ve, vf, vg, vh, vi, vj]) (h : Reps R 10 ps cs) : Reps R 10 (p :: ps) (va :: vb :: vc :: vd :: ve :: vf :: vg :: vh :: vi :: vj :: cs) := Reps.front hp rfl h rfl
end Go.Proofs.YtifkbghnmhineaaW.PrintWords
end
section
namespace Go.Proofs.YtifkbghnmhineaaW.PrintWords
open Go.RowKit
section
variable {P : Program} {ops : Array Oper} {rest : List Oper} {o : Oper} {a : Act} {Q : Exit → Act → World → Prop} {W : World}
theorem gate_guard (hw : Region.wanted o (yielded ops a.tmps) = true) (h : wpList P ops Q ({ o with guard := none } :: rest) a W) : wpList P ops Q (o :: rest) a W := by
  have h1 : Region.wanted { o with guard := none } (yielded ops a.tmps) = true := rfl
  unfold wpList at h ⊢
  rw [if_pos h1] at h
  rw [if_pos hw]
  exact h
end
end Go.Proofs.YtifkbghnmhineaaW.PrintWords
end
namespace Go.Proofs.Ytifkbghnmhineaa.PAll
open Go.RowKit Go.Proofs.YtifkbghnmhineaaW.PrintWords Go.Proofs.YtifkbghnmhineaaW.PrintLast Go.Proofs.YtifkbghnmhineaaW.PrintMore
attribute [local go_sem] max2_int min2_int max_two min_two max_three min_three max_four min_four
set_option linter.unusedVariables false
set_option linter.unusedSimpArgs false
def errW : Option Int → Value
  | none => .nilIface
  | some c => .iface 0 (.int .i64 c)
theorem errW_none : errW none = .nilIface := rfl
theorem errW_some (c : Int) : errW (some c) = .iface 0 (.int .i64 c) := rfl
theorem info22 : (Try.prog.info? 22).map (fun i => (i.zero, i.size, i.bytes)) = some (some (.slice none 0 0), 1, 24) := by kernel_rfl
theorem info97 : (Try.prog.info? 97).map (fun i => (i.zero, i.size, i.bytes)) = some (some (.int .u32 0), 1, 4) := by kernel_rfl
def rd_L1 (xs : List (List Int)) (i : Int) : (List Int) := xs.getD i.toNat ([] : List Int)
theorem at_L1 {w : World} {A : Option Addr} {n : Nat} {xs : List (List Int)} (h : Kd.C (Kd.slice 3 (Kd.int .i64)) w A n xs) (i : Int) (h0 : 0 ≤ i) (h1 : i < n) : ∃ ad A0 c0, A = some ad ∧ w.cell? (ad.add i.toNat) = some (.slice A0 (rd_L1 xs i).length c0) ∧ (rd_L1 xs i).length ≤ c0 ∧ (Kd.int .i64).C w A0 (rd_L1 xs i).length (rd_L1 xs i) := by
  obtain ⟨ad, c, e, _, hK, hc0⟩ := Kd.C_get h ([] : List Int) i h0 h1
  have hc : ∀ j u, c[j]? = some u → w.cell? (ad.add (i.toNat * 1 + j)) = some u := hc0
  obtain ⟨A0, c0, rfl, l0, g0⟩ := hK
  exact ⟨ad, A0, c0, e, by have hq := hc 0 _ rfl; rwa [Nat.mul_one, Nat.add_zero] at hq, l0, g0⟩
end Go.Proofs.Ytifkbghnmhineaa.PAll
section
set_option linter.unusedVariables false
set_option maxRecDepth 100000
namespace Go.Proofs.Ytifkbghnmhineaa.PAll
open Go Go.RowKit Go.Proofs.YtifkbghnmhineaaW.PrintWords Go.Proofs.YtifkbghnmhineaaW.PrintLast Go.Proofs.YtifkbghnmhineaaW.PrintMore
theorem zk {p : Prop} (h : p) : Aside0 p := ⟨h⟩
theorem zR {P Q : Prop} (h : P) (f : P → Q := by intro h; (with_reducible repeat (first | apply Kd.R_alloc | apply Kd.R_drewN | apply Kd.R_drew)); exact h) : Q := f h
theorem zV {P Q : Prop} (h : P) (f : P → Q := by intro h; (with_reducible repeat (first | apply Kd.V_alloc | apply Kd.V_drewN | apply Kd.V_drew)); exact h) : Q := f h
theorem zN {P Q : Prop} (h : P) (f : P → Q := by intro h; (with_reducible repeat (first | apply Kd.N_alloc | apply Kd.N_drewN | apply Kd.N_drew)); exact h) : Q := f h
theorem zB {P Q : Prop} (h : P) (f : P → Q := by intro h; repeat (first | (with_reducible first | exact h | apply below_alloc | apply pw_below_drewN | apply below_drew1) | exact h)) : Q := f h
theorem zC {P Q : Prop} (h : P) (f : P → Q := by intro h; repeat (first | exact h | (with_reducible refine Kd.C_alloc ?_ _) | (with_reducible refine Kd.C_drewN ?_ _) | (with_reducible refine Kd.C_drew ?_))) : Q := f h
theorem zE {Q : Prop} (f : Q := by first | rfl | (simp [errW_none, errW_some] <;> rfl) | (simp [*, errW_none, errW_some] <;> rfl)) : Q := f
theorem zF {Q : Prop} (f : Q := by first | rfl | (simp; done) | (simp [*]; done)) : Q := f
theorem zO {Q : Prop} (f : Q := by first | omega | exact Nat.le_refl _) : Q := f
theorem z0 {Q : Prop} (f : Q := by first | exact Kd.R_nil _ _ _ _ _ | exact Kd.N_nil _ _ _ _ _ | exact Kd.V_nil _ _ _ _ _ | exact Kd.Q_nil _ _ _ _ _ | exact Kd.S_nil _ _ _ _ _) : Q := f
theorem zo1 {P Q : Prop} (h : Aside0 P) (f : P → Q := by intro h; omega) : Q := f h.out
theorem zo2 {P P1 Q : Prop} (h : Aside0 P) (h1 : Aside0 P1) (f : P → P1 → Q := by intro h h1; omega) : Q := f h.out h1.out
theorem zY {α β : Type} {y l : α} {x r : Option β} {Q : Prop} (hy : y = l) (H : x = r) (f : y = l → x = r → Q := by intro hy H; first | (rw [hy]; with_reducible exact H) | (have H2_ := (Option.bind_some _ _).symm.trans H; rw [hy]; with_reducible exact H2_) | (have H2_ := (Option.bind_some _ _).symm.trans H; with_reducible exact H2_) | with_reducible exact H | (rw [hy]; exact H) | exact H) : Q := f hy H
theorem zb {α β : Type} {x : Option α} {f : α → Option β} {r : β} (h : x.bind f = some r) : ∃ t, Aside0 (x = some t) ∧ f t = some r := by
  obtain ⟨t, h1, h2⟩ := Option.bind_eq_some_iff.mp h
  exact ⟨t, ⟨h1⟩, h2⟩
theorem zi {α : Type} {c : Prop} [Decidable c] {a b r : α} (h : (if c then a else b) = r) : (c ∧ a = r) ∨ (¬ c ∧ b = r) := by
  by_cases hc : c
  · rw [if_pos hc] at h; exact .inl ⟨hc, h⟩
  · rw [if_neg hc] at h; exact .inr ⟨hc, h⟩
theorem zg {α : Type} {c : Prop} [Decidable c] {a : Option α} {r : α} (h : (if c then a else none) = some r) : c ∧ a = some r := by
  by_cases hc : c
  · rw [if_pos hc] at h; exact ⟨hc, h⟩
  · rw [if_neg hc] at h; cases h
theorem zh {α : Type} {c : Prop} [Decidable c] {a : Option α} {r : α} (h : (if c then none else a) = some r) : ¬ c ∧ a = some r := by
  by_cases hc : c
  · rw [if_pos hc] at h; cases h
  · rw [if_neg hc] at h; exact ⟨hc, h⟩
theorem zid {α : Type} {c : Prop} [Decidable c] {a b r : α} (h : (if c then a else b) = r) : (decide c = true ∧ a = r) ∨ (decide c = false ∧ b = r) := by
  rcases zi h with ⟨hc, h⟩ | ⟨hc, h⟩
  · exact .inl ⟨decide_eq_true hc, h⟩
  · exact .inr ⟨decide_eq_false hc, h⟩
theorem zgd {α : Type} {c : Prop} [Decidable c] {a : Option α} {r : α} (h : (if c then a else none) = some r) : decide c = true ∧ a = some r := ⟨decide_eq_true (zg h).1, (zg h).2⟩
theorem zd {p : Prop} [Decidable p] (f : decide p = true := by first | (with_reducible assumption) | assumption) : p := of_decide_eq_true f
theorem gC {P : Program} {ops : Array Oper} {Q : Exit → Act → World → Prop} {rest : List Oper} {o : Oper} {a : Act} {W : World} (f : FuncId) {xs : Array Operand} {ts : Array TypeId} (h : wpList P ops Q (o :: rest) a W) (_ho : o.op = .call { callee := .value (.func f), args := xs, argTypes := ts } := by exact rfl) : wpList P ops Q (o :: rest) a W := h
section
variable {P : Prop} {α β : Type} {d : Kd α} {d' : Kd β} {w W w1 : World} {e e' base base' n : Nat} {ok ok' : Nat → Prop} {v u u' : Value} {xs : List α} {ys : List β}
theorem yS (h : Aside0 P) (k : Below W.heap.size W w1) (f : P → Below w.heap.size w W := by intro h; repeat (first | (with_reducible first | exact h | apply below_alloc | apply pw_below_drewN | apply below_drew1) | exact h)) : Aside0 (Below w.heap.size w w1) := ⟨below_step (f h.out) k⟩
theorem yRe (h : Aside0 P) (h0 : d'.R e' w1 W.heap.size ok' v ys) (hb : Below W.heap.size W w1) (f : P → d.R e W base ok u xs := by intro h; (with_reducible repeat (first | apply Kd.R_alloc | apply Kd.R_drewN | apply Kd.R_drew)); exact h) : Aside0 (d.R e w1 base (fun k => ok k ∧ some k ≠ v.ownBlock) u xs) := ⟨Kd.R_elder' (f h.out) (Kd.R_base h0) hb⟩
theorem yVe (h : Aside0 P) (h0 : d'.R e' w1 W.heap.size ok' v ys) (hb : Below W.heap.size W w1) (f : P → d.V e W base ok u xs := by intro h; (with_reducible repeat (first | apply Kd.V_alloc | apply Kd.V_drewN | apply Kd.V_drew)); exact h) : Aside0 (d.V e w1 base (fun k => ok k ∧ some k ≠ v.ownBlock) u xs) := ⟨Kd.V_elder' (f h.out) (Kd.R_base h0) hb⟩
theorem yRb (h : Aside0 P) (hb : Below W.heap.size W w1) (f : P → d.R e W base ok u xs := by intro h; (with_reducible repeat (first | apply Kd.R_alloc | apply Kd.R_drewN | apply Kd.R_drew)); exact h) : Aside0 (d.R e w1 base ok u xs) := ⟨Kd.R_below (f h.out) hb⟩
theorem yVb (h : Aside0 P) (hb : Below W.heap.size W w1) (f : P → d.V e W base ok u xs := by intro h; (with_reducible repeat (first | apply Kd.V_alloc | apply Kd.V_drewN | apply Kd.V_drew)); exact h) : Aside0 (d.V e w1 base ok u xs) := ⟨Kd.V_below (f h.out) hb⟩
theorem yNb (h : Aside0 P) (hb : Below W.heap.size W w1) (f : P → d.N e W base ok u xs := by intro h; (with_reducible repeat (first | apply Kd.N_alloc | apply Kd.N_drewN | apply Kd.N_drew)); exact h) : Aside0 (d.N e w1 base ok u xs) := ⟨Kd.N_below (f h.out) hb⟩
theorem yRl (h : d.R e w1 W.heap.size ok v xs) (hb : Aside0 P) (f : P → Below w.heap.size w W := by intro h; repeat (first | (with_reducible first | exact h | apply below_alloc | apply pw_below_drewN | apply below_drew1) | exact h)) : Aside0 (d.R e w1 w.heap.size ok v xs) := ⟨Kd.R_lower h (below_size (f hb.out))⟩
theorem yVm (h : d.V e w1 W.heap.size ok v xs) (hb : Aside0 P) (f : P → Below w.heap.size w W := by intro h; repeat (first | (with_reducible first | exact h | apply below_alloc | apply pw_below_drewN | apply below_drew1) | exact h)) : Aside0 (d.V e w1 w.heap.size (fun _ => True) v xs) := ⟨Kd.V_lower (Kd.V_mono h (fun _ _ => trivial)) (below_size (f hb.out))⟩
theorem yn (h : d.R e w1 W.heap.size ok v xs) (hb : Aside0 P) (f : P → d'.R e' W base ok' u ys := by intro h; (with_reducible repeat (first | apply Kd.R_alloc | apply Kd.R_drewN | apply Kd.R_drew)); exact h) : d.R e w1 W.heap.size (fun k => ok k ∧ some k ≠ u.ownBlock) v xs := Kd.R_new' h (Kd.R_lt (f hb.out))
end
theorem zG {P : Program} {ops : Array Oper} {Q : Exit → Act → World → Prop} {rest : List Oper} {oi : Oper} {a : Act} {w : World} (N : Option Tmp) {f : FuncId} {fn : Func} {xs : Array Operand} {ts : Array TypeId} (hf : P.funcs[f]? = some fn) (args : Array Value)
    (h : Calls P f args w fun e w' => ∃ v, e = .returned v ∧ wpList P ops Q rest (a.put N v) w')
    (hd : oi.dst = N := by exact rfl) (hg : oi.guard = none := by exact rfl) (hname : (fn.name == "runtime.NumGoroutine") = false := by kernel_rfl) (hb : fn.body.isSome = true := by exact rfl)
    (hop : oi.op = .call { callee := .value (.func f), args := xs, argTypes := ts } := by exact rfl)
    (hargs : xs.map a.eval = args := by (try simp only [List.map_toArray, List.map_cons, List.map_nil]); first | done | rfl | (simp only [List.length_drop, List.length_take]; rfl)) : wpList P ops Q (oi :: rest) a w :=
  goesL_ N hd hg hf hname hb args hop hargs h
end Go.Proofs.Ytifkbghnmhineaa.PAll
end
namespace Go.Proofs.Ytifkbghnmhineaa.PAll
open Go.RowKit Go.Proofs.YtifkbghnmhineaaW.PrintWords Go.Proofs.YtifkbghnmhineaaW.PrintLast Go.Proofs.YtifkbghnmhineaaW.PrintMore
set_option linter.unusedVariables false
set_option linter.unusedSimpArgs false
def nat_short.l0 : Nat → List Int → Int → Option (List Int)
  | 0, _, _ => none
  | k + 1, x0, x3 => if x3 > 0 then (if 0 ≤ (wrap64 (x3 - 1)) then (if (wrap64 (x3 - 1)) < (x0.length : Int) then (if (rd x0 (wrap64 (x3 - 1))) = 0 then (nat_short.l0 k x0 (wrap64 (x3 - 1))) else (if 0 ≤ x3 then (if x3 ≤ (x0.length : Int) then (some (x0.take (x3 : Int).toNat)) else (none)) else (none))) else (none)) else (none)) else (if 0 ≤ x3 then (if x3 ≤ (x0.length : Int) then (some (x0.take (x3 : Int).toNat)) else (none)) else (none))
def nat_short.f (k : Nat) (l0 : List Int) : Option (List Int) := nat_short.l0 k l0 (l0.length : Int)
def nat_Trim.f (k : Nat) (l0 : List Int) : Option (List Int) := (nat_short.f k l0).bind fun t101 => (if ([] : List Int).length + t101.length < 35184372088832 then (some (([] : List Int) ++ t101)) else (none))
def nat_Cmp.l0 : Nat → List Int → List Int → Int → Option (Int)
  | 0, _, _, _ => none
  | k + 1, x0, x1, x5 => if x5 ≥ 0 then (if 0 ≤ x5 then (if x5 < (x0.length : Int) then (if x5 < (x1.length : Int) then (if (rd x0 x5) < (rd x1 x5) then (some (-1)) else (if (rd x0 x5) > (rd x1 x5) then (some 1) else (nat_Cmp.l0 k x0 x1 (wrap64 (x5 - 1))))) else (none)) else (none)) else (none)) else (some 0)
def nat_Cmp.f (k : Nat) (l0 : List Int) (l1 : List Int) : Option (Int) := (nat_short.f k l0).bind fun t101 => ((nat_short.f k l1).bind fun t104 => (if (t101.length : Int) = (t104.length : Int) then (nat_Cmp.l0 k t101 t104 (wrap64 ((t101.length : Int) - 1))) else (if (t101.length : Int) < (t104.length : Int) then (some (-1)) else (some 1))))
def nat_Of.f (k : Nat) (a0 : Int) : Option (List Int) := (nat_Trim.f k (([(a0) % 4294967296, (a0 / 4294967296) % 4294967296] : List Int))).bind fun t104 => (some t104)
mutual
def nat_times.l0 : Nat → List Int → List Int → List Int → Int → Int → Option (List Int)
  | 0, _, _, _, _, _ => none
  | k + 1, x1, x5, x18, x19, x20 => if x20 < x19 then (if 0 ≤ x20 then (if x20 < (x18.length : Int) then (nat_times.l1 k x1 x5 x20 (rd x18 x20) 0 x18 x19 x20 x1 (x1.length : Int) 0) else (none)) else (none)) else ((nat_short.f k x5).bind fun t104 => (some t104))
def nat_times.l1 : Nat → List Int → List Int → Int → Int → Int → List Int → Int → Int → List Int → Int → Int → Option (List Int)
  | 0, _, _, _, _, _, _, _, _, _, _, _ => none
  | k + 1, x1, x5, x6, x7, x8, x18, x19, x20, x25, x26, x27 => if x27 < x26 then (if 0 ≤ x27 then (if x27 < (x25.length : Int) then (if 0 ≤ (wrap64 (x6 + x27)) then (if (wrap64 (x6 + x27)) < (x5.length : Int) then (nat_times.l1 k x1 (x5.set ((wrap64 (x6 + x27)) : Int).toNat ((IntKind.u64.wrap ((IntKind.u64.wrap ((IntKind.u64.wrap ((IntKind.u64.wrap (x7)) * (IntKind.u64.wrap (rd x25 x27)))) + (IntKind.u64.wrap (rd x5 (wrap64 (x6 + x27)))))) + x8)) % 4294967296)) x6 x7 ((IntKind.u64.wrap ((IntKind.u64.wrap ((IntKind.u64.wrap ((IntKind.u64.wrap (x7)) * (IntKind.u64.wrap (rd x25 x27)))) + (IntKind.u64.wrap (rd x5 (wrap64 (x6 + x27)))))) + x8)) / 4294967296) x18 x19 x20 x25 x26 (wrap64 (x27 + 1))) else (none)) else (none)) else (none)) else (none)) else (if 0 ≤ (wrap64 (x6 + (x1.length : Int))) then (if (wrap64 (x6 + (x1.length : Int))) < (x5.length : Int) then (nat_times.l0 k x1 (x5.set ((wrap64 (x6 + (x1.length : Int))) : Int).toNat ((x8) % 4294967296)) x18 x19 (wrap64 (x20 + 1))) else (none)) else (none))
end
def nat_times.f (k : Nat) (l0 : List Int) (l1 : List Int) : Option (List Int) := if 0 ≤ (wrap64 ((l0.length : Int) + (l1.length : Int))) then (if (wrap64 ((l0.length : Int) + (l1.length : Int)) : Int).toNat ≤ 70368744177664 then (nat_times.l0 k l1 (List.replicate (wrap64 ((l0.length : Int) + (l1.length : Int)) : Int).toNat 0) l0 (l0.length : Int) 0) else (none)) else (none)
def nat_digit.l0 : Nat → List Int → Int → List Int → Int → Int → Option (List Int × Int)
  | 0, _, _, _, _, _ => none
  | k + 1, x0, x1, x6, x7, x8 => if x8 ≥ 0 then (if 0 ≤ x8 then (if x8 < (x0.length : Int) then (if (IntKind.u64.wrap (x1)) = 0 then (none) else (if x8 < (x6.length : Int) then (nat_digit.l0 k x0 x1 (x6.set (x8 : Int).toNat ((IntKind.u64.wrap (Int.tdiv (Go.bits .or .u64 (IntKind.u64.wrap (x7 * 4294967296)) (IntKind.u64.wrap (rd x0 x8))) (IntKind.u64.wrap (x1)))) % 4294967296)) (Int.tmod (Go.bits .or .u64 (IntKind.u64.wrap (x7 * 4294967296)) (IntKind.u64.wrap (rd x0 x8))) (IntKind.u64.wrap (x1))) (wrap64 (x8 - 1))) else (none))) else (none)) else (none)) else ((nat_short.f k x6).bind fun t106 => (some (t106, (x7) % 4294967296)))
def nat_digit.f (k : Nat) (l0 : List Int) (a1 : Int) : Option (List Int × Int) := if 0 ≤ (l0.length : Int) then (if ((l0.length : Int) : Int).toNat ≤ 70368744177664 then (nat_digit.l0 k l0 a1 (List.replicate ((l0.length : Int) : Int).toNat 0) 0 (wrap64 ((l0.length : Int) - 1))) else (none)) else (none)
mutual
def nat_Binomial.j0 : Nat → Int → Int → Bool → Option (List Int × Int)
  | 0, _, _, _ => none
  | k + 1, x0, x1, x13 => if x13 = true then (some (([] : List Int), 6)) else (if x1 < 0 then (nat_Binomial.j1 k x0 x1 true) else (nat_Binomial.j1 k x0 x1 (decide (x1 > x0))))
def nat_Binomial.j1 : Nat → Int → Int → Bool → Option (List Int × Int)
  | 0, _, _, _ => none
  | k + 1, x0, x1, x20 => if x20 = true then (some (([] : List Int), 0)) else (nat_Binomial.l0 k x0 (([1] : List Int)) (mn x1 (wrap64 (x0 - x1))) 0)
def nat_Binomial.l0 : Nat → Int → List Int → Int → Int → Option (List Int × Int)
  | 0, _, _, _, _ => none
  | k + 1, x0, x6, x26, x27 => if x27 < x26 then ((nat_times.f k x6 (([(wrap64 (x0 - x27)) % 4294967296] : List Int))).bind fun t107 => ((nat_digit.f k t107 ((wrap64 (x27 + 1)) % 4294967296)).bind fun bt110 => (nat_Binomial.l0 k x0 bt110.1 x26 (wrap64 (x27 + 1))))) else ((nat_Trim.f k x6).bind fun t114 => (some (t114, 0)))
end
def nat_Binomial.f (k : Nat) (a0 : Int) (a1 : Int) : Option (List Int × Int) := if a0 < 0 then (nat_Binomial.j0 k a0 a1 true) else (nat_Binomial.j0 k a0 a1 (decide (a0 > 4096)))
def w24_crowded.l0 : Nat → List (List Int) → Int → Option (Bool)
  | 0, _, _ => none
  | k + 1, x0, x3 => if x3 < (x0.length : Int) then (if 0 ≤ x3 then (if ((rd_L1 x0 x3).length : Int) > 100 then (some true) else (w24_crowded.l0 k x0 (wrap64 (x3 + 1)))) else (none)) else (some (decide ((x0.length : Int) > 300)))
def w24_crowded.f (k : Nat) (l0 : List (List Int)) : Option (Bool) := w24_crowded.l0 k l0 0
def r24_Block.l0 : Nat → Int → List Int → Int → Option (Bool)
  | 0, _, _, _ => none
  | k + 1, x0, x1, x5 => if x5 < (x1.length : Int) then (if 0 ≤ x5 then (if (rd x1 x5) < 0 then (some false) else (if (rd x1 x5) ≥ x0 then (some false) else (if x5 > 0 then (if 0 ≤ (wrap64 (x5 - 1)) then (if (wrap64 (x5 - 1)) < (x1.length : Int) then (if (rd x1 x5) ≤ (rd x1 (wrap64 (x5 - 1))) then (some false) else (r24_Block.l0 k x0 x1 (wrap64 (x5 + 1)))) else (none)) else (none)) else (r24_Block.l0 k x0 x1 (wrap64 (x5 + 1)))))) else (none)) else (some true)
def r24_Block.f (k : Nat) (a0 : Int) (l1 : List Int) : Option (Bool) := r24_Block.l0 k a0 l1 0
end Go.Proofs.Ytifkbghnmhineaa.PAll
namespace Go.Proofs.Ytifkbghnmhineaa.PAll
open Go.RowKit Go.Proofs.YtifkbghnmhineaaW.PrintWords Go.Proofs.YtifkbghnmhineaaW.PrintLast Go.Proofs.YtifkbghnmhineaaW.PrintMore
attribute [local go_sem] max2_int min2_int max_two min_two max_three min_three max_four min_four
set_option linter.unusedVariables false
set_option linter.unusedSimpArgs false
set_option maxHeartbeats 8000000 in
set_option maxRecDepth 100000 in
theorem w24_crowded.calls (k : Nat) (A0 : Option Addr) (c0 : Nat) (l0 : List (List Int)) (r : Bool) (w : World) (hr0 : Kd.C (Kd.slice 3 (Kd.int .i64)) w A0 l0.length l0) (hc0 : l0.length ≤ c0) (h : w24_crowded.f k l0 = some r) :
    Calls Try.prog 28 #[.slice A0 l0.length c0] w fun e w' => e = .returned (.bool r) ∧ Drawn0 w w' := by
 have HR0 := zk hr0
 have HC0 := zk hc0
 clear hr0 hc0
 have H := h
 clear h
 unfold w24_crowded.f at H
 have H' := zk H
 clear H
 go_enter Try.func28, Try.ntmps28
 go_wp2
 go_loopg [3] k (fun kq v3 w' => ∃ (x3_1 : Int), v3 = .int .i64 x3_1 ∧ Aside0 (w24_crowded.l0 kq l0 x3_1 = some r) ∧ Aside0 (kq ≤ k) ∧ Drawn0 w w')
 case atStart => exact ⟨(0), zF, H', ⟨Nat.le_refl _⟩, by repeat (first | exact Drawn0.refl _ | apply Drawn0.step)⟩
 clear H'
 obtain ⟨x3_1, rfl, HA, HK1, ⟨m1, rfl⟩⟩ := hrel
 cases gk with | zero => exact absurd HA.out (by simp [w24_crowded.l0]) | succ k1 => ?_
 have H := HA.out
 clear HA
 simp only [w24_crowded.l0] at H
 replace H := zid H
 rcases H with ⟨c2b0, H⟩ | ⟨c2b0, H⟩
 · replace H := zgd H
   obtain ⟨c3b0, H⟩ := H
   replace H := zi H
   rcases H with ⟨c4, H⟩ | ⟨c4, H⟩
   · have c4b0 : decide (100 < ((rd_L1 l0 x3_1).length : Int)) = true := decide_eq_true c4
     have c4b1 : decide (100 < (rd_L1 l0 x3_1).length) = true := decide_eq_true (by omega)
     clear c4
     obtain rfl := Option.some.inj H
     have pa1 : 0 ≤ (x3_1 : Int) := zd
     have qa1 : x3_1 < (l0.length : Int) := zd
     obtain ⟨ada1, Aa1_0, ca1_0, ea1, hxa1_0, hla1_0, hia1_0⟩ := at_L1 HR0.out x3_1 pa1 qa1
     cases ea1
     have HRa1_0 := zk hia1_0
     have HCa1_0 := zk hla1_0
     clear hia1_0 hla1_0
     replace pa1 := eq_true pa1
     replace qa1 := eq_true qa1
     go_wp2
     go_ret
     exact ⟨zF, by repeat (first | exact Drawn0.refl _ | apply Drawn0.step)⟩
   have c4b0 : decide (100 < ((rd_L1 l0 x3_1).length : Int)) = false := decide_eq_false c4
   have c4b1 : decide (100 < (rd_L1 l0 x3_1).length) = false := decide_eq_false (by omega)
   clear c4
   have H' := zk H
   clear H
   have pa1 : 0 ≤ (x3_1 : Int) := zd
   have qa1 : x3_1 < (l0.length : Int) := zd
   obtain ⟨ada1, Aa1_0, ca1_0, ea1, hxa1_0, hla1_0, hia1_0⟩ := at_L1 HR0.out x3_1 pa1 qa1
   cases ea1
   have HRa1_0 := zk hia1_0
   have HCa1_0 := zk hla1_0
   clear hia1_0 hla1_0
   replace pa1 := eq_true pa1
   replace qa1 := eq_true qa1
   go_wp2
   go_roundg k1
   case measure => have := HK1.out; omega
   case rel => exact ⟨(wrap64 (x3_1 + 1)), zF, H', ⟨zo1 HK1⟩, by repeat (first | exact Drawn0.refl _ | apply Drawn0.step)⟩
 obtain rfl := Option.some.inj H
 go_wp2
 go_ret
 exact ⟨zF, by repeat (first | exact Drawn0.refl _ | apply Drawn0.step)⟩
end Go.Proofs.Ytifkbghnmhineaa.PAll
section
set_option linter.unusedVariables false
set_option linter.unusedSimpArgs false
namespace Go.Proofs.Ytifkbghnmhineaa.PAll
open Go Go.RowKit Go.Proofs.YtifkbghnmhineaaW.PrintWords Go.Proofs.YtifkbghnmhineaaW.PrintLast Go.Proofs.YtifkbghnmhineaaW.PrintMore
structure Kept2 (w w' : World) (a b : Nat) : Prop where
  os : w'.os = w.os
  tape : w'.tape = w.tape
  output : w'.output = w.output
  size : w.heap.size ≤ w'.heap.size
  block : ∀ k, k < w.heap.size → k ≠ a → k ≠ b → w'.heap[k]? = w.heap[k]?
theorem Kept2.refl (w : World) (a b : Nat) : Kept2 w w a b := ⟨rfl, rfl, rfl, Nat.le_refl _, fun _ _ _ _ => rfl⟩
theorem Kept2.trans {a b : Nat} {w w1 w2 : World} (h : Kept2 w w1 a b) (k : Kept2 w1 w2 a b) : Kept2 w w2 a b :=
  ⟨k.os.trans h.os, k.tape.trans h.tape, k.output.trans h.output, Nat.le_trans h.size k.size, fun i hi h1 h2 => (k.block i (Nat.lt_of_lt_of_le hi h.size) h1 h2).trans (h.block i hi h1 h2)⟩
theorem Kept2.of_below {a b : Nat} {w w' : World} (h : Below w.heap.size w w') : Kept2 w w' a b := ⟨h.os, h.tape, h.output, h.size, fun k hk _ _ => h.block k hk⟩
theorem Kept2.kept {a b : Nat} {w w' : World} (h : Kept2 w w' a b) : Kept w w' (fun k => k = a ∨ k = b) := ⟨h.size, fun i hi hn => h.block i hi (fun e => hn (.inl e)) (fun e => hn (.inr e))⟩
theorem Kept2.below {a b : Nat} {w w1 w2 : World} (h : Below w.heap.size w w1) (k : Kept2 w1 w2 a b) (ha : w.heap.size ≤ a) (hb : w.heap.size ≤ b) : Below w.heap.size w w2 :=
  h.trans ⟨k.os, k.tape, k.output, k.size, fun i hi => k.block i (Nat.lt_of_lt_of_le hi h.size) (by omega) (by omega)⟩
theorem Kept2.setA {a b : Nat} {w w1 : World} (h : Kept2 w w1 a b) (j : Nat) (u : Value) : Kept2 w (w1.setCell ⟨a, j, none⟩ u) a b :=
  h.trans ⟨rfl, rfl, rfl, by simp [World.setCell], fun k _ h1 _ => Below.heap_setCell _ _ _ _ h1⟩
theorem Kept2.setB {a b : Nat} {w w1 : World} (h : Kept2 w w1 a b) (j : Nat) (u : Value) : Kept2 w (w1.setCell ⟨b, j, none⟩ u) a b :=
  h.trans ⟨rfl, rfl, rfl, by simp [World.setCell], fun k _ _ h2 => Below.heap_setCell _ _ _ _ h2⟩
theorem Kept2.drewN {a b : Nat} {w w1 : World} (h : Kept2 w w1 a b) (m : Nat) : Kept2 w (w1.drewN m) a b := ⟨h.os, h.tape, h.output, h.size, h.block⟩
theorem Kept2.drew {a b : Nat} {w w1 : World} (h : Kept2 w w1 a b) : Kept2 w w1.drew a b := ⟨h.os, h.tape, h.output, h.size, h.block⟩
def mw_visit.l0 : Nat → Int → List Int → Int → Int → Option Int
  | 0, _, _, _, _ => none
  | k + 1, x0, x9, x6, x11 => if x11 < (x9.length : Int) then (if 0 ≤ x11 then (if (Go.bits .and .u64 (rd x9 x11) x0) = x0 then (mw_visit.l0 k x0 x9 (wrap64 (x6 + 1)) (wrap64 (x11 + 1))) else (mw_visit.l0 k x0 x9 x6 (wrap64 (x11 + 1)))) else (none)) else (some x6)
def mw_visit.f (k : Nat) (x0 : Int) (x9 : List Int) (cnt : Int) : Option (Bool × Int) := (mw_visit.l0 k x0 x9 0 0).bind fun t => (if cnt < 0 then (some (true, t)) else (some (t == cnt, t)))
mutual
def mw_subsets.l0 : Nat → Int → Int → Int → List Int → Int → Int → Bool → Option (Bool × Int × Bool)
  | 0, _, _, _, _, _, _, _ => none
  | k + 1, n, t, set, l, p, cnt, sm => if p ≤ wrap64 (n - t) then (if 0 ≤ p then ((mw_subsets.f k n (wrap64 (t - 1)) (wrap64 (p + 1)) (Go.bits .or .u64 set (shl .u64 1 p)) l cnt sm).bind fun r => (if r.1 = true then (mw_subsets.l0 k n t set l (wrap64 (p + 1)) r.2.1 r.2.2) else (some (false, r.2)))) else (none)) else (some (true, cnt, sm))
def mw_subsets.f : Nat → Int → Int → Int → Int → List Int → Int → Bool → Option (Bool × Int × Bool)
  | 0, _, _, _, _, _, _, _ => none
  | k + 1, n, t, low, set, l, cnt, sm => if t = 0 then ((mw_visit.f k set l cnt).bind fun r => (some (r.1, r.2, r.1))) else (mw_subsets.l0 k n t set l low cnt sm)
end
structure Cap (w : World) (Bm Bc Bs : Nat) (A : Option Addr) (c : Nat) (l : List Int) (cnt : Int) (sm : Bool) : Prop where
  m : w.heap[Bm]? = some (.cells #[.slice A l.length c] 101 (0, 0))
  c_ : w.heap[Bc]? = some (.cells #[.int .i64 cnt] 3 (0, 0))
  s : w.heap[Bs]? = some (.cells #[.bool sm] 4 (0, 0))
  row : ∀ W', Kept w W' (fun k => k = Bc ∨ k = Bs) → Kd.C (Kd.int .u64) W' A l.length l
  le : l.length ≤ c
theorem Cap.step {w w' : World} {Bm Bc Bs : Nat} {A : Option Addr} {c : Nat} {l : List Int} {cnt cnt' : Int} {sm sm' : Bool} (h : Cap w Bm Bc Bs A c l cnt sm) (k : Kept2 w w' Bc Bs)
    (hc : w'.heap[Bc]? = some (.cells #[.int .i64 cnt'] 3 (0, 0))) (hs : w'.heap[Bs]? = some (.cells #[.bool sm'] 4 (0, 0))) : Cap w' Bm Bc Bs A c l cnt' sm' := by
  refine ⟨(k.block Bm (lt_of_block h.m) (fun e => ?_) (fun e => ?_)).trans h.m, hc, hs, fun W' hk => h.row W' (k.kept.then_ hk (fun _ h2 => .inl h2)), h.le⟩
  · have h1 := h.m; have h2 := h.c_; rw [e, h2] at h1; simp at h1
  · have h1 := h.m; have h2 := h.s; rw [e, h2] at h1; simp at h1
theorem visit_end {w W : World} {Bc Bs : Nat} {v u : Value} (hne : ¬ Bc = Bs) (HB : Below w.heap.size w W) (HC : W.heap[Bc]? = some (.cells #[v] 3 (0, 0))) (HS : W.heap[Bs]? = some (.cells #[u] 4 (0, 0))) (x y : Value) :
    ((W.setCell ⟨Bs, 0, none⟩ x).setCell ⟨Bc, 0, none⟩ y).heap[Bc]? = some (.cells #[y] 3 (0, 0)) ∧ ((W.setCell ⟨Bs, 0, none⟩ x).setCell ⟨Bc, 0, none⟩ y).heap[Bs]? = some (.cells #[x] 4 (0, 0)) ∧ Kept2 w ((W.setCell ⟨Bs, 0, none⟩ x).setCell ⟨Bc, 0, none⟩ y) Bc Bs :=
  ⟨one_setCell ((Below.heap_setCell _ _ _ _ hne).trans HC), (Below.heap_setCell _ _ _ _ (fun e => hne e.symm)).trans (one_setCell HS), ((Kept2.of_below HB).setB 0 x).setA 0 y⟩
set_option maxHeartbeats 8000000 in
set_option maxRecDepth 100000 in
theorem mw_visit.calls (k : Nat) (Bm Bc Bs : Nat) (A : Option Addr) (c : Nat) (l : List Int) (set cnt : Int) (sm : Bool) (r1 : Bool) (r2 : Int) (w : World) (hcap : Cap w Bm Bc Bs A c l cnt sm) (h : mw_visit.f k set l cnt = some (r1, r2)) :
    Calls Try.prog 82 #[.int .u64 set, .pointer (some ⟨Bm, 0, none⟩), .pointer (some ⟨Bc, 0, none⟩), .pointer (some ⟨Bs, 0, none⟩)] w fun e w' => e = .returned (.bool r1) ∧ w'.heap[Bc]? = some (.cells #[.int .i64 r2] 3 (0, 0)) ∧ w'.heap[Bs]? = some (.cells #[.bool r1] 4 (0, 0)) ∧ Kept2 w w' Bc Bs := by
 have HCap := Aside0.mk hcap
 have cm := cell_of_one hcap.m
 have hcC := Aside0.mk hcap.c_
 have hcS := Aside0.mk hcap.s
 have hne : ¬ Bc = Bs := fun e => by have h1 := hcap.c_; rw [e, hcap.s] at h1; simp at h1
 have hne' : ¬ Bs = Bc := fun e => hne e.symm
 have HR := Aside0.mk (hcap.row w (Kept.refl _ _))
 clear hcap
 have HB := Aside0.mk (Below.refl w.heap.size w)
 obtain ⟨t, H0, H⟩ := Option.bind_eq_some_iff.mp h
 clear h
 have HF := Aside0.mk H
 have H' := Aside0.mk H0
 clear H H0
 go_enter Try.func82, Try.ntmps82
 go_wp2
 go_loopg [6, 11] k (fun kq v6 v11 w' => ∃ (x6_1 : Int) (x11_1 : Int), v6 = .int .i64 x6_1 ∧ v11 = .int .i64 x11_1 ∧ Aside0 (mw_visit.l0 kq set l x6_1 x11_1 = some t) ∧ Aside0 (kq ≤ k) ∧ Aside0 (Below w.heap.size w w'))
 case atStart => exact ⟨0, 0, zF, zF, H', ⟨Nat.le_refl _⟩, ⟨zB HB.out⟩⟩
 clear H'
 obtain ⟨x6_1, x11_1, rfl, rfl, HA, HK1, HB⟩ := hrel
 cases gk with | zero => exact absurd HA.out (by simp [mw_visit.l0]) | succ k1 => ?_
 have H := HA.out
 clear HA cm
 simp only [mw_visit.l0] at H
 replace H := zid H
 rcases H with ⟨c3b0, H⟩ | ⟨c3b0, H⟩
 · replace H := zgd H
   obtain ⟨c4b0, H⟩ := H
   replace H := zi H
   have p102 : 0 ≤ (x11_1 : Int) := zd
   have q102 : x11_1 < (l.length : Int) := zd
   obtain ⟨ad102, e102, hx102_0⟩ := Kd.at_int HR.out x11_1 p102 q102
   cases e102
   replace hx102_0 := (HB.out.cell (World.block_lt_of_cell? w _ hx102_0)).trans hx102_0
   replace p102 := eq_true p102
   replace q102 := eq_true q102
   rcases H with ⟨c7, H⟩ | ⟨c7, H⟩
   · have c7b0 := beq_iff_eq.mpr c7
     clear c7
     have H' := Aside0.mk H
     clear H
     go_wp2
     go_roundg k1
     case measure => have := HK1.out; omega
     case rel => exact ⟨(wrap64 (x6_1 + 1)), (wrap64 (x11_1 + 1)), zF, zF, H', ⟨zo1 HK1⟩, ⟨zB HB.out⟩⟩
   have c7b0 := beq_eq_false_iff_ne.mpr c7
   clear c7
   have H' := Aside0.mk H
   clear H
   go_wp2
   go_roundg k1
   case measure => have := HK1.out; omega
   case rel => exact ⟨x6_1, (wrap64 (x11_1 + 1)), zF, zF, H', ⟨zo1 HK1⟩, ⟨zB HB.out⟩⟩
 obtain rfl := Option.some.inj H
 have hC := (HB.out.block Bc (lt_of_block hcC.out)).trans hcC.out
 have hS := (HB.out.block Bs (lt_of_block hcS.out)).trans hcS.out
 have cC := cell_of_one hC
 have fC := free_of_one hC
 have cS := cell_of_one hS
 have fS := free_of_one hS
 have HC := Aside0.mk hC
 have HS := Aside0.mk hS
 clear hC hS
 have H := HF.out
 replace H := zid H
 rcases H with ⟨c8b0, H⟩ | ⟨c8b0, H⟩
 · simp only [Option.some.injEq, Prod.mk.injEq] at H
   obtain ⟨rfl, rfl⟩ := H
   go_wp2
   go_ret
   exact ⟨zE, visit_end hne HB.out HC.out HS.out _ _⟩
 simp only [Option.some.injEq, Prod.mk.injEq] at H
 obtain ⟨rfl, rfl⟩ := H
 go_wp2
 go_ret
 exact ⟨zE, visit_end hne HB.out HC.out HS.out _ _⟩
set_option maxHeartbeats 8000000 in
set_option maxRecDepth 100000 in
theorem mw_subsets.calls (k : Nat) (Bm Bc Bs : Nat) (A : Option Addr) (c : Nat) (l : List Int) : ∀ (n t low set cnt : Int) (sm : Bool) (r1 : Bool) (r2 : Int) (r3 : Bool) (w : World) (hcap : Cap w Bm Bc Bs A c l cnt sm) (h : mw_subsets.f k n t low set l cnt sm = some (r1, r2, r3)),
    Calls Try.prog 81 #[.int .i64 n, .int .i64 t, .int .i64 low, .int .u64 set, .func (.func 82) #[] #[.pointer (some ⟨Bm, 0, none⟩), .pointer (some ⟨Bc, 0, none⟩), .pointer (some ⟨Bs, 0, none⟩)]] w fun e w' => e = .returned (.bool r1) ∧ w'.heap[Bc]? = some (.cells #[.int .i64 r2] 3 (0, 0)) ∧ w'.heap[Bs]? = some (.cells #[.bool r3] 4 (0, 0)) ∧ Kept2 w w' Bc Bs := by
 induction k using Nat.strongRecOn with
 | _ k ih =>
 intro n t low set cnt sm r1 r2 r3 w hcap h
 cases k with
 | zero => exact absurd h (by simp [mw_subsets.f])
 | succ k =>
 simp only [mw_subsets.f] at h
 have HCap := Aside0.mk hcap
 clear hcap
 replace h := zi h
 rcases h with ⟨c4, H⟩ | ⟨c4, H⟩
 · have c4b0 := beq_iff_eq.mpr c4
   have c4b1 := bne_eq_false_iff_eq.mpr c4
   clear c4
   obtain ⟨⟨t1, t2⟩, A5, H⟩ := Option.bind_eq_some_iff.mp H
   have A6 := Aside0.mk A5
   clear A5
   simp only [Option.some.injEq, Prod.mk.injEq] at H
   obtain ⟨rfl, rfl, rfl⟩ := H
   go_enter Try.func81, Try.ntmps81
   go_wp2_with (first | (go_at_call 82; refine (mw_visit.calls k Bm Bc Bs A c l set cnt sm t1 t2 _ HCap.out A6.out).mono ?_; rintro e w2 ⟨rfl, h1, h2, h3⟩; have K1 := Aside0.mk h1; have K2 := Aside0.mk h2; have K3 := Aside0.mk h3; clear h1 h2 h3))
   go_ret
   exact ⟨zE, K1.out, K2.out, K3.out⟩
 have c4b0 := beq_eq_false_iff_ne.mpr c4
 have c4b1 := bne_iff_ne.mpr c4
 have H' := Aside0.mk H
 clear H
 go_enter Try.func81, Try.ntmps81
 go_wp2
 go_loopg [11] k (fun kq v11 w' => ∃ (p : Int) (cn : Int) (s : Bool), v11 = .int .i64 p ∧ Aside0 (mw_subsets.l0 kq n t set l p cn s = some (r1, r2, r3)) ∧ Aside0 (kq ≤ k) ∧ Aside0 (Cap w' Bm Bc Bs A c l cn s) ∧ Aside0 (Kept2 w w' Bc Bs))
 case atStart => exact ⟨low, cnt, sm, zF, H', ⟨Nat.le_refl _⟩, HCap, ⟨Kept2.refl _ _ _⟩⟩
 clear H' HCap
 obtain ⟨p, cn, s, rfl, HA, HK1, HCap, HK2⟩ := hrel
 cases gk with | zero => exact absurd HA.out (by simp [mw_subsets.l0]) | succ k1 => ?_
 have H := HA.out
 clear HA
 simp only [mw_subsets.l0] at H
 replace H := zid H
 rcases H with ⟨c10b0, H⟩ | ⟨c10b0, H⟩
 · replace H := zgd H
   obtain ⟨c11b0, H⟩ := H
   have c11b1 := of_decide_eq_true c11b0
   have c11b2 := eq_true c11b1
   clear c11b1
   obtain ⟨ji16, hji16⟩ : ∃ j_ : Int, (shl .u64 1 p) = j_ := ⟨_, rfl⟩
   rw [hji16] at H
   have hji16_ : (IntKind.u64.wrap (1 * 2 ^ min p.toNat 64)) = ji16 := hji16
   have hji16z : p ≤ 64 → (IntKind.u64.wrap (1 * 2 ^ p.toNat)) = ji16 := shl_small hji16
   have hji16u : (IntKind.u64.wrap (2 ^ min p.toNat 64)) = ji16 := by have h_ := hji16_; rw [Int.one_mul] at h_; exact h_
   have hji16v : p ≤ 64 → (IntKind.u64.wrap (2 ^ p.toNat)) = ji16 := fun hle_ => by have h_ := hji16z hle_; rw [Int.one_mul] at h_; exact h_
   obtain ⟨⟨t1, t2, t3⟩, A5, H⟩ := Option.bind_eq_some_iff.mp H
   have A6 := Aside0.mk A5
   clear A5
   cases t1 with
   | true =>
     rw [if_pos rfl] at H
     have H' := Aside0.mk H
     clear H
     go_wp2_with (first | ((with_reducible refine gC 81 ?_); refine zG (some 35) Try.func81 #[.int .i64 n, .int .i64 (wrap64 (t - 1)), .int .i64 (wrap64 (p + 1)), .int .u64 (Go.bits .or .u64 set ji16), .func (.func 82) #[] #[.pointer (some ⟨Bm, 0, none⟩), .pointer (some ⟨Bc, 0, none⟩), .pointer (some ⟨Bs, 0, none⟩)]] ?_; (with_reducible refine (ih k1 (zo1 HK1) n (wrap64 (t - 1)) (wrap64 (p + 1)) (Go.bits .or .u64 set ji16) cn s true t2 t3 _ HCap.out A6.out).mono ?_); rintro e w12 ⟨rfl, h1, h2, h3⟩; refine ⟨_, rfl, ?_⟩; replace HCap := Aside0.mk (HCap.out.step h3 h1 h2); replace HK2 := Aside0.mk (HK2.out.trans h3); clear h1 h2 h3))
     go_roundg k1
     case measure => have := HK1.out; omega
     case rel => exact ⟨(wrap64 (p + 1)), t2, t3, zF, H', ⟨zo1 HK1⟩, HCap, HK2⟩
   | false =>
     rw [if_neg Bool.false_ne_true] at H
     simp only [Option.some.injEq, Prod.mk.injEq] at H
     obtain ⟨rfl, rfl, rfl⟩ := H
     go_wp2_with (first | ((with_reducible refine gC 81 ?_); refine zG (some 35) Try.func81 #[.int .i64 n, .int .i64 (wrap64 (t - 1)), .int .i64 (wrap64 (p + 1)), .int .u64 (Go.bits .or .u64 set ji16), .func (.func 82) #[] #[.pointer (some ⟨Bm, 0, none⟩), .pointer (some ⟨Bc, 0, none⟩), .pointer (some ⟨Bs, 0, none⟩)]] ?_; (with_reducible refine (ih k1 (zo1 HK1) n (wrap64 (t - 1)) (wrap64 (p + 1)) (Go.bits .or .u64 set ji16) cn s false t2 t3 _ HCap.out A6.out).mono ?_); rintro e w12 ⟨rfl, h1, h2, h3⟩; refine ⟨_, rfl, ?_⟩; replace HCap := Aside0.mk (HCap.out.step h3 h1 h2); replace HK2 := Aside0.mk (HK2.out.trans h3); clear h1 h2 h3))
     go_ret
     exact ⟨zE, HCap.out.c_, HCap.out.s, HK2.out⟩
 simp only [Option.some.injEq, Prod.mk.injEq] at H
 obtain ⟨rfl, rfl, rfl⟩ := H
 go_wp2
 go_ret
 exact ⟨zE, HCap.out.c_, HCap.out.s, HK2.out⟩
end Go.Proofs.Ytifkbghnmhineaa.PAll
end
namespace Go.Proofs.Ytifkbghnmhineaa.PAll
open Go.RowKit Go.Proofs.YtifkbghnmhineaaW.PrintWords Go.Proofs.YtifkbghnmhineaaW.PrintLast Go.Proofs.YtifkbghnmhineaaW.PrintMore
attribute [local go_sem] max2_int min2_int max_two min_two max_three min_three max_four min_four
set_option linter.unusedVariables false
set_option linter.unusedSimpArgs false
set_option maxHeartbeats 8000000 in
set_option maxRecDepth 100000 in
theorem nat_short.calls (k : Nat) (P0_ : Nat → Prop) (A0 : Option Addr) (c0 : Nat) (l0 : List Int) (r : List Int) (w : World) (hs0 : Kd.V (Kd.int .u32) 97 w w.heap.size (fun k_ => P0_ k_) (.slice A0 l0.length c0) l0) (h : nat_short.f k l0 = some r) :
    Calls Try.prog 118 #[.slice A0 l0.length c0] w fun e w' => ∃ v0_ : Value, e = .returned (v0_) ∧ Kd.V (Kd.int .u32) 97 w' w.heap.size (fun k_ => (P0_ k_ ∨ w.heap.size ≤ k_)) v0_ r ∧ Below w.heap.size w w' := by
 have HO0 := zk (show Kd.V (Kd.int .u32) 97 w w.heap.size (fun k_ => (P0_ k_ ∨ w.heap.size ≤ k_)) (.slice A0 l0.length c0) l0 from Kd.V_mono hs0 (fun k_ hk => .inl hk))
 have HB := zk (Below.refl w.heap.size w)
 have H := h
 clear h
 unfold nat_short.f at H
 have H' := zk H
 clear H
 go_enter Try.func118, Try.ntmps118
 go_wp2
 go_loopg [3] k (fun kq v3 w' => ∃ (x3_1 : Int), v3 = .int .i64 x3_1 ∧ Aside0 (nat_short.l0 kq l0 x3_1 = some r) ∧ Aside0 (kq ≤ k) ∧ Aside0 (Kd.V (Kd.int .u32) 97 w' w.heap.size (fun k_ => (P0_ k_ ∨ w.heap.size ≤ k_)) (.slice A0 l0.length c0) l0) ∧ Aside0 (Below w.heap.size w w'))
 case atStart => exact ⟨((l0.length : Int)), zF, H', ⟨Nat.le_refl _⟩, ⟨zV HO0.out⟩, ⟨zB HB.out⟩⟩
 clear H'
 obtain ⟨x3_1, rfl, HA, HK1, HO_0, HB⟩ := hrel
 cases gk with | zero => exact absurd HA.out (by simp [nat_short.l0]) | succ k1 => ?_
 have H := HA.out
 clear HA
 simp only [nat_short.l0] at H
 replace H := zi H
 rcases H with ⟨c2, H⟩ | ⟨c2, H⟩
 · have c2b0 : decide (0 < x3_1) = true := decide_eq_true c2
   clear c2
   obtain ⟨ji3, hji3⟩ : ∃ j_ : Int, (wrap64 (x3_1 - 1)) = j_ := ⟨_, rfl⟩
   replace H : (if 0 ≤ (ji3) then (if (ji3) < (l0.length : Int) then (if (rd l0 (ji3)) = 0 then (nat_short.l0 k1 l0 ji3) else (if 0 ≤ x3_1 then (if x3_1 ≤ (l0.length : Int) then (some (l0.take (x3_1 : Int).toNat)) else (none)) else (none))) else (none)) else (none)) = some r := by first | (rw [hji3] at H; exact H) | (simp only [hji3] at H ⊢; exact H)
   have hji3w : (IntKind.i64.wrap (x3_1 - 1)) = ji3 := (i64_w _).trans hji3
   replace H := zgd H
   obtain ⟨c4b0, H⟩ := H
   replace H := zgd H
   obtain ⟨c5b0, H⟩ := H
   replace H := zi H
   rcases H with ⟨c6, H⟩ | ⟨c6, H⟩
   · have c6b0 := beq_iff_eq.mpr c6
     have c6b1 := bne_eq_false_iff_eq.mpr c6
     clear c6
     have H' := zk H
     clear H
     have pa1 : 0 ≤ ((ji3) : Int) := zd
     have qa1 : (ji3) < (l0.length : Int) := zd
     obtain ⟨ada1, ea1, hxa1_0⟩ := Kd.at_int (Kd.V_reads' HO_0.out).2.2 (ji3) pa1 qa1
     cases ea1
     replace pa1 := eq_true pa1
     replace qa1 := eq_true qa1
     go_wp2
     go_roundg k1
     case measure => have := HK1.out; omega
     case rel => exact ⟨(ji3), (by first | rfl | (simp; done) | (simp only [← hji3] <;> (first | rfl | simp)) | (simp [*]; done)), H', ⟨zo1 HK1⟩, ⟨zV HO_0.out⟩, ⟨zB HB.out⟩⟩
   have c6b0 := beq_eq_false_iff_ne.mpr c6
   have c6b1 := bne_iff_ne.mpr c6
   replace H := zg H
   obtain ⟨c7, H⟩ := H
   have c7b0 := eq_true c7
   have c7b1 := decide_eq_true c7
   clear c7
   replace H := zg H
   obtain ⟨c8, H⟩ := H
   have c8b0 := eq_true c8
   have c8b1 := decide_eq_true c8
   clear c8
   obtain ⟨ya2, hya2⟩ : ∃ y_ : List Int, y_ = (l0.take (x3_1 : Int).toNat) := ⟨_, rfl⟩
   replace H : (some ya2) = some r := zY hya2 H
   have Nya2 := zk hya2
   clear hya2
   obtain rfl := Option.some.inj H
   have pa1 : 0 ≤ ((ji3) : Int) := zd
   have qa1 : (ji3) < (l0.length : Int) := zd
   obtain ⟨ada1, ea1, hxa1_0⟩ := Kd.at_int (Kd.V_reads' HO_0.out).2.2 (ji3) pa1 qa1
   cases ea1
   replace pa1 := eq_true pa1
   replace qa1 := eq_true qa1
   have q9 : (x3_1 : Int) ≤ ((l0.length : Int) : Int) := zd
   obtain ⟨i09, hi09, _, hsz9, _⟩ := info_parts info97
   have hroom9 : l0.length ≤ c0 := (Kd.V_reads' HO_0.out).2.1
   have hC9 : Kd.F (Kd.int .u32) _ _ (some ada1) l0.length l0 := (Kd.V_at (base := w.heap.size) HO_0.out).2.2
   have hcut9 := Mw.cut_to_max (P := Try.prog) 29 97 .i64 Try.underlying29 hi09 (some ada1) l0.length c0 x3_1 zd q9 hroom9
   have hr9 := Kd.F_take (m := (x3_1 : Int).toNat) hC9 (by omega)
   have hy9 : ya2.length = (x3_1 : Int).toNat := (by rw [Nya2.out, List.length_take]; omega)
   rw [← Nya2.out] at hr9
   rw [← hy9] at hcut9
   have HOa6 := zk (show Kd.V (Kd.int .u32) 97 _ w.heap.size _ (.slice (some ada1) ya2.length ya2.length) ya2 from Kd.V_mk (by omega) hr9)
   have HCa6 := zk (show ya2.length ≤ ya2.length from by omega)
   clear hr9 hC9 hroom9 hi09 hsz9
   have KY9 := zk hy9
   clear hy9
   replace q9 := eq_true q9
   go_wp2
   go_ret
   exact ⟨_, by first | rfl | (simp [errW_none, errW_some] <;> rfl) | (simp only [← hji3]; first | rfl | (simp [errW_none, errW_some] <;> rfl)) | (simp [*, errW_none, errW_some] <;> rfl), zV HOa6.out, zB HB.out⟩
 have c2b0 : decide (0 < x3_1) = false := decide_eq_false c2
 clear c2
 replace H := zg H
 obtain ⟨c10, H⟩ := H
 have c10b0 := eq_true c10
 have c10b1 := decide_eq_true c10
 clear c10
 replace H := zg H
 obtain ⟨c11, H⟩ := H
 have c11b0 := eq_true c11
 have c11b1 := decide_eq_true c11
 clear c11
 obtain ⟨ya7, hya7⟩ : ∃ y_ : List Int, y_ = (l0.take (x3_1 : Int).toNat) := ⟨_, rfl⟩
 replace H : (some ya7) = some r := zY hya7 H
 have Nya7 := zk hya7
 clear hya7
 obtain rfl := Option.some.inj H
 have q12 : (x3_1 : Int) ≤ ((l0.length : Int) : Int) := zd
 obtain ⟨i012, hi012, _, hsz12, _⟩ := info_parts info97
 have hroom12 : l0.length ≤ c0 := (Kd.V_reads' HO_0.out).2.1
 have hC12 : Kd.F (Kd.int .u32) _ _ A0 l0.length l0 := (Kd.V_at (base := w.heap.size) HO_0.out).2.2
 have hcut12 := Mw.cut_to_max (P := Try.prog) 29 97 .i64 Try.underlying29 hi012 A0 l0.length c0 x3_1 zd q12 hroom12
 have hr12 := Kd.F_take (m := (x3_1 : Int).toNat) hC12 (by omega)
 have hy12 : ya7.length = (x3_1 : Int).toNat := (by rw [Nya7.out, List.length_take]; omega)
 rw [← Nya7.out] at hr12
 rw [← hy12] at hcut12
 have HOb1 := zk (show Kd.V (Kd.int .u32) 97 _ w.heap.size _ (.slice A0 ya7.length ya7.length) ya7 from Kd.V_mk (by omega) hr12)
 have HCb1 := zk (show ya7.length ≤ ya7.length from by omega)
 clear hr12 hC12 hroom12 hi012 hsz12
 have KY12 := zk hy12
 clear hy12
 replace q12 := eq_true q12
 go_wp2
 go_ret
 exact ⟨_, zE, zV HOb1.out, zB HB.out⟩
set_option maxHeartbeats 8000000 in
set_option maxRecDepth 100000 in
theorem nat_Trim.calls (k : Nat) (A0 : Option Addr) (c0 : Nat) (l0 : List Int) (r : List Int) (w : World) (hr0 : Kd.C (Kd.int .u32) w A0 l0.length l0) (hc0 : l0.length ≤ c0) (h : nat_Trim.f k l0 = some r) :
    Calls Try.prog 103 #[.slice A0 l0.length c0] w fun e w' => ∃ v0_ : Value, e = .returned (v0_) ∧ Kd.R (Kd.int .u32) 97 w' w.heap.size (fun _ => True) v0_ r ∧ Below w.heap.size w w' := by
 have HR0 := zk hr0
 have HC0 := zk hc0
 clear hr0 hc0
 have HB := zk (Below.refl w.heap.size w)
 have H := h
 clear h
 unfold nat_Trim.f at H
 replace H := zb H
 obtain ⟨ta1, A2, H⟩ := H
 replace H := zg H
 obtain ⟨c3, H⟩ := H
 have LMc3 := zk c3
 clear c3
 obtain ⟨ya4, hya4⟩ : ∃ y_ : List Int, y_ = (([] : List Int) ++ ta1) := ⟨_, rfl⟩
 replace H : (some ya4) = some r := zY hya4 H
 have Nya4 := zk hya4
 clear hya4
 obtain rfl := Option.some.inj H
 go_enter Try.func103, Try.ntmps103
 go_wp2_with (first | ((with_reducible refine gC 118 ?_); refine zG (some 4) Try.func118 #[.slice A0 l0.length c0] ?_; (with_reducible refine (nat_short.calls k (fun k_ => k_ < w.heap.size) _ _ l0 ta1 _ ?side1 A2.out).mono ?_); (case side1 => exact Kd.V_mk HC0.out (Kd.F_below (Kd.C_F (Kd.heap_int .u32) HR0.out) (zB HB.out))); rintro e w4 ⟨va2, rfl, ho0, hb⟩; refine ⟨_, rfl, ?_⟩; have HOa3 := yVm ho0 HB; replace HB := yS HB hb; (try clear hb ho0); obtain ⟨Ao6, co6, rfl⟩ := Kd.V_slice HOa3.out) | ((with_reducible refine gate_builtin (b := .append) (xs := #[.const (.slice none 0 0), .tmp 4]) rfl ?_); at_builtin; refine Kd.R_append_rows (Kd.int .u32) (w0 := w) w.heap.size rfl (.const (.slice none 0 0)) (.tmp 4) 29 97 (.int .u32 0) 4 rfl Try.underlying29 info97 rfl (by decide) (by omega) (.slice none 0 0) ([] : List Int) ta1 _ _ _ (fun _ => True) (fun _ => False) rfl rfl ?aO ?aR (fun _ _ h => h) (fun _ h => h.elim) ?aF ?aB ?aS ?aL ?_; (case aR => repeat (first | exact (Kd.V_reads' HOa3.out).2.2 | (with_reducible refine Kd.C_alloc ?_ _) | (with_reducible refine Kd.C_drewN ?_ _) | (with_reducible refine Kd.C_drew ?_))); (case aB => exact (zB HB.out)); (case aF => exact (fun _ _ => trivial)); (case aO => exact ((Kd.R_nil _ _ _ _ (fun _ => True)))); (case aS => exact (below_size (zB HB.out))); (case aL => have := LMc3.out; omega); intro va5 w5 ho hb hg hat; rw [← Nya4.out] at ho; replace HOa3 := zk (Kd.V_afterv (Kd.V_apart_nil (zV HOa3.out)) hg hat); replace HB := zk (hb); have HOa6 := zk (ho); clear ho hb hg hat))
 go_ret
 exact ⟨_, zE, zR HOa6.out, zB HB.out⟩
set_option maxHeartbeats 8000000 in
set_option maxRecDepth 100000 in
theorem nat_digit.calls (k : Nat) (A0 : Option Addr) (c0 : Nat) (l0 : List Int) (a1 : Int) (r1 : List Int) (r2 : Int) (w : World) (hr0 : Kd.C (Kd.int .u32) w A0 l0.length l0) (hc0 : l0.length ≤ c0) (h : nat_digit.f k l0 a1 = some (r1, r2)) :
    Calls Try.prog 115 #[.slice A0 l0.length c0, .int .u32 a1] w fun e w' => ∃ v0_ : Value, e = .returned (.tuple #[v0_, .int .u32 r2]) ∧ Kd.V (Kd.int .u32) 97 w' w.heap.size (fun k_ => (w.heap.size ≤ k_)) v0_ r1 ∧ Below w.heap.size w w' := by
 have HR0 := zk hr0
 have HC0 := zk hc0
 clear hr0 hc0
 have HB := zk (Below.refl w.heap.size w)
 have H := h
 clear h
 unfold nat_digit.f at H
 replace H := zg H
 obtain ⟨c3, H⟩ := H
 have c3b0 := eq_true c3
 have c3b1 := decide_eq_true c3
 clear c3
 replace H := zg H
 obtain ⟨c4, H⟩ := H
 have c4b0 := eq_true c4
 have c4b1 := decide_eq_true c4
 clear c4
 obtain ⟨ya1, hya1⟩ : ∃ y_ : List Int, y_ = (List.replicate ((l0.length : Int) : Int).toNat 0) := ⟨_, rfl⟩
 replace H : (nat_digit.l0 k l0 a1 ya1 0 (wrap64 ((l0.length : Int) - 1))) = some (r1, r2) := zY hya1 H
 have Nya1 := zk hya1
 clear hya1
 have H' := zk H
 clear H
 go_enter Try.func115, Try.ntmps115
 go_wp2_with (first | ((with_reducible refine gate_dst (N := 11) rfl ?_); refine Kd.R_make (Kd.int .u32) _ 97 rfl (N := 11) rfl 29 _ _ rfl (l0.length : Int) rfl rfl Try.underlying29 (.int .u32 0) 4 info97 rfl (by decide) (by omega) 0 (ok := fun _ => True) (okp := fun _ => True) rfl (fun _ hk => hk) trivial zd (Nat.le_trans (Nat.mul_le_mul_right _ (zd : (l0.length : Int).toNat ≤ 70368744177664)) (by omega)) (Below.refl _ _) (Nat.le_refl _) ?_; intro va2 w5 ho6 hb hg_ hnew_; clear hg_ hnew_; (first | rw [← Nya1.out] at ho6 | (simp only [Int.reduceToNat] at ho6; rw [← Nya1.out] at ho6)); replace ho6 := Kd.R_newM (M := fun k_ => (w.heap.size ≤ k_)) ho6 (below_size (zB HB.out)) (fun k_ h_ => h_); have HOa3 := yRl ho6 HB; replace HB := yS HB hb; clear hb ho6))
 go_loopg [7, 8] k (fun kq v7 v8 w' => ∃ (x6_1 : List Int) (x7_1 : Int) (x8_1 : Int), v7 = .int .u64 x7_1 ∧ v8 = .int .i64 x8_1 ∧ Aside0 (nat_digit.l0 kq l0 a1 x6_1 x7_1 x8_1 = some (r1, r2)) ∧ Aside0 (kq ≤ k) ∧ Aside0 (Kd.R (Kd.int .u32) 97 w' w.heap.size (fun k_ => (w.heap.size ≤ k_)) va2 x6_1) ∧ Aside0 (Below w.heap.size w w'))
 case atStart => exact ⟨(ya1), (0), (wrap64 ((l0.length : Int) - 1)), zF, zF, H', ⟨Nat.le_refl _⟩, ⟨by (with_reducible repeat (first | apply Kd.R_alloc | apply Kd.R_drewN | apply Kd.R_drew)); exact Kd.R_mono HOa3.out (fun _ hk => hk.1)⟩, ⟨zB HB.out⟩⟩
 clear H'
 (try clear c3);(try clear c3b0);(try clear c3b1);(try clear c4);(try clear c4b0);(try clear c4b1)
 obtain ⟨x6_1, x7_1, x8_1, rfl, rfl, HA, HK1, HO_6, HB⟩ := hrel
 cases gk with | zero => exact absurd HA.out (by simp [nat_digit.l0]) | succ k1 => ?_
 have H := HA.out
 clear HA
 simp only [nat_digit.l0] at H
 replace H := zi H
 rcases H with ⟨c7, H⟩ | ⟨c7, H⟩
 · have c7b0 : decide (0 ≤ x8_1) = true := decide_eq_true c7
   clear c7
   replace H := zgd H
   obtain ⟨c8b0, H⟩ := H
   replace H := zgd H
   obtain ⟨c9b0, H⟩ := H
   replace H := zh H
   obtain ⟨c10, H⟩ := H
   have c10b0 := beq_eq_false_iff_ne.mpr c10
   have c10b1 := bne_iff_ne.mpr c10
   replace H := zgd H
   obtain ⟨c11b0, H⟩ := H
   obtain ⟨ya5, hya5⟩ : ∃ y_ : List Int, y_ = (x6_1.set (x8_1 : Int).toNat ((IntKind.u64.wrap (Int.tdiv (Go.bits .or .u64 (IntKind.u64.wrap (x7_1 * 4294967296)) (IntKind.u64.wrap (rd l0 x8_1))) (IntKind.u64.wrap (a1)))) % 4294967296)) := ⟨_, rfl⟩
   replace H : (nat_digit.l0 k1 l0 a1 ya5 (Int.tmod (Go.bits .or .u64 (IntKind.u64.wrap (x7_1 * 4294967296)) (IntKind.u64.wrap (rd l0 x8_1))) (IntKind.u64.wrap (a1))) (wrap64 (x8_1 - 1))) = some (r1, r2) := zY hya5 H
   have Nya5 := zk hya5
   clear hya5
   have H' := zk H
   clear H
   have pa4 : 0 ≤ (x8_1 : Int) := zd
   have qa4 : x8_1 < (l0.length : Int) := zd
   obtain ⟨ada4, ea4, hxa4_0⟩ := Kd.at_int HR0.out x8_1 pa4 qa4
   cases ea4
   replace hxa4_0 := (HB.out.cell (World.block_lt_of_cell? w _ hxa4_0)).trans hxa4_0
   replace pa4 := eq_true pa4
   replace qa4 := eq_true qa4
   have p12 : 0 ≤ (x8_1 : Int) := zd
   have q12 : (x8_1 : Int) < ((x6_1.length : Int) : Int) := zd
   obtain ⟨go12, co12, eo12, gb12, gl12, cl12, HG12⟩ := Kd.R_form HO_6.out (by omega)
   (first | cases eo12 | (injection eo12 with ea_ en_ ec_; (first | subst ea_ | (injection ea_ with ea_; subst ea_)); subst ec_; clear en_))
   have GB12 := zk gb12
   have GG12 := zk HG12
   clear gb12 gl12 HG12
   obtain ⟨hx12_0, hf12_0⟩ := Kd.R_celln 0 HO_6.out (x8_1 : Int) p12 q12
   replace p12 := eq_true p12
   replace q12 := eq_true q12
   have HP13 := Kd.R_putg HO_6.out (x8_1 : Int) ((IntKind.u64.wrap (Int.tdiv (Go.bits .or .u64 (IntKind.u64.wrap (x7_1 * 4294967296)) (IntKind.u64.wrap (rd l0 x8_1))) (IntKind.u64.wrap (a1)))) % 4294967296)
   go_wp2_with (first | ((with_reducible refine gate_store (t := 97) (p := 34) rfl ?_); refine store_event (t := 97) (p := 34) (v := ?vo_w14) (w1 := (wr.setCell ⟨go12, (x8_1 : Int).toNat, none⟩ (.int .u32 ((IntKind.u64.wrap (Int.tdiv (Go.bits .or .u64 (IntKind.u64.wrap (x7_1 * 4294967296)) (IntKind.u64.wrap (rd l0 x8_1))) (IntKind.u64.wrap (a1)))) % 4294967296)))) ?hg ?ho ?hn ?hr ?_; (case ho => rfl); (case hg => rfl); (case hn => rfl); (case hr => first | (go_simp; done) | (go_simp; rfl)); intro w14 hw; have hg : wr.grownBy w14 (some go12) := (by rw [hw]; exact HP13.2); have hp_ : Kd.R (Kd.int .u32) 97 w14 w.heap.size (fun k_ => (w.heap.size ≤ k_)) (.slice (some ⟨go12, 0, none⟩) x6_1.length co12) ya5 := (by rw [hw, Nya5.out]; exact HP13.1); clear HP13; replace HO_6 := zk (hp_); replace HB := zk ((by rw [hw]; exact below_set (HB.out) GB12.out : Below w.heap.size w w14)); clear hg hw hp_))
   go_roundg k1
   case measure => have := HK1.out; omega
   case rel => exact ⟨(ya5), (Int.tmod (Go.bits .or .u64 (IntKind.u64.wrap (x7_1 * 4294967296)) (IntKind.u64.wrap (rd l0 x8_1))) (IntKind.u64.wrap (a1))), (wrap64 (x8_1 - 1)), zF, zF, H', ⟨zo1 HK1⟩, ⟨zR HO_6.out⟩, ⟨zB HB.out⟩⟩
 have c7b0 : decide (0 ≤ x8_1) = false := decide_eq_false c7
 clear c7
 replace H := zb H
 obtain ⟨ta6, A15, H⟩ := H
 simp only [Option.some.injEq, Prod.mk.injEq] at H
 obtain ⟨rfl, rfl⟩ := H
 obtain ⟨Ao16, co16, rfl⟩ := Kd.R_slice HO_6.out
 go_wp2_with (first | ((with_reducible refine gC 118 ?_); refine zG (some 40) Try.func118 #[.slice Ao16 x6_1.length co16] ?_; (with_reducible refine (nat_short.calls k1 (fun k_ => some k_ = (.slice Ao16 x6_1.length co16 : Value).ownBlock) _ _ x6_1 ta6 _ ?side1 A15.out).mono ?_); (case side1 => exact Kd.R_V (Kd.R_tight rfl (HO_6.out))); rintro e w17 ⟨va7, rfl, ho0, hb⟩; refine ⟨_, rfl, ?_⟩; have HOa8 := zk (Kd.V_lower (Kd.V_mono (ok' := fun k_ => (w.heap.size ≤ k_)) ho0 (fun k_ hk_ => Or.elim hk_ (fun hs_ => ((HO_6.out).1 k_ hs_.symm)) (fun hn_ => (Nat.le_trans (below_size (zB HB.out)) hn_)))) (below_size (zB HB.out))); replace HO_6 := yRb HO_6 hb; replace HB := yS HB hb; (try clear hb ho0)))
 go_ret2
 exact ⟨_, zE, zV HOa8.out, zB HB.out⟩
set_option maxHeartbeats 8000000 in
set_option maxRecDepth 100000 in
theorem nat_times.calls (k : Nat) (A0 : Option Addr) (c0 : Nat) (l0 : List Int) (A1 : Option Addr) (c1 : Nat) (l1 : List Int) (r : List Int) (w : World) (hr0 : Kd.C (Kd.int .u32) w A0 l0.length l0) (hc0 : l0.length ≤ c0) (hr1 : Kd.C (Kd.int .u32) w A1 l1.length l1) (hc1 : l1.length ≤ c1) (h : nat_times.f k l0 l1 = some r) :
    Calls Try.prog 116 #[.slice A0 l0.length c0, .slice A1 l1.length c1] w fun e w' => ∃ v0_ : Value, e = .returned (v0_) ∧ Kd.V (Kd.int .u32) 97 w' w.heap.size (fun k_ => (w.heap.size ≤ k_)) v0_ r ∧ Below w.heap.size w w' := by
 have HR0 := zk hr0
 have HC0 := zk hc0
 clear hr0 hc0
 have HR1 := zk hr1
 have HC1 := zk hc1
 clear hr1 hc1
 have HB := zk (Below.refl w.heap.size w)
 have H := h
 clear h
 unfold nat_times.f at H
 obtain ⟨ji3, hji3⟩ : ∃ j_ : Int, (wrap64 ((l0.length : Int) + (l1.length : Int))) = j_ := ⟨_, rfl⟩
 replace H : (if 0 ≤ (ji3) then (if (ji3 : Int).toNat ≤ 70368744177664 then (nat_times.l0 k l1 (List.replicate (ji3 : Int).toNat 0) l0 (l0.length : Int) 0) else (none)) else (none)) = some r := by first | (rw [hji3] at H; exact H) | (simp only [hji3] at H ⊢; exact H)
 have hji3w : (IntKind.i64.wrap ((l0.length : Int) + (l1.length : Int))) = ji3 := (i64_w _).trans hji3
 replace H := zg H
 obtain ⟨c4, H⟩ := H
 have c4b0 := eq_true c4
 have c4b1 := decide_eq_true c4
 clear c4
 replace H := zg H
 obtain ⟨c5, H⟩ := H
 have c5b0 := eq_true c5
 have c5b1 := decide_eq_true c5
 clear c5
 obtain ⟨ya1, hya1⟩ : ∃ y_ : List Int, y_ = (List.replicate (ji3 : Int).toNat 0) := ⟨_, rfl⟩
 replace H : (nat_times.l0 k l1 ya1 l0 (l0.length : Int) 0) = some r := zY hya1 H
 have Nya1 := zk hya1
 clear hya1
 have H' := zk H
 clear H
 go_enter Try.func116, Try.ntmps116
 go_wp2_with (first | ((with_reducible refine gate_dst (N := 17) rfl ?_); refine Kd.R_make (Kd.int .u32) _ 97 rfl (N := 17) rfl 29 _ _ rfl ji3 rfl rfl Try.underlying29 (.int .u32 0) 4 info97 rfl (by decide) (by omega) 0 (ok := fun _ => True) (okp := fun _ => True) rfl (fun _ hk => hk) trivial zd (Nat.le_trans (Nat.mul_le_mul_right _ (zd : ji3.toNat ≤ 70368744177664)) (by omega)) (Below.refl _ _) (Nat.le_refl _) ?_; intro va2 w6 ho7 hb hg_ hnew_; clear hg_ hnew_; (first | rw [← Nya1.out] at ho7 | (simp only [Int.reduceToNat] at ho7; rw [← Nya1.out] at ho7)); replace ho7 := Kd.R_newM (M := fun k_ => (w.heap.size ≤ k_)) ho7 (below_size (zB HB.out)) (fun k_ h_ => h_); have HOa3 := yRl ho7 HB; replace HB := yS HB hb; clear hb ho7))
 go_loopg [20] k (fun kq v20 w' => ∃ (x5_1 : List Int) (x20_1 : Int), v20 = .int .i64 x20_1 ∧ Aside0 (nat_times.l0 kq l1 x5_1 l0 (l0.length : Int) x20_1 = some r) ∧ Aside0 (kq ≤ k) ∧ Aside0 (Kd.R (Kd.int .u32) 97 w' w.heap.size (fun k_ => (w.heap.size ≤ k_)) va2 x5_1) ∧ Aside0 (Below w.heap.size w w'))
 case atStart => exact ⟨(ya1), (0), zF, H', ⟨Nat.le_refl _⟩, ⟨by (with_reducible repeat (first | apply Kd.R_alloc | apply Kd.R_drewN | apply Kd.R_drew)); exact Kd.R_mono HOa3.out (fun _ hk => hk.1)⟩, ⟨zB HB.out⟩⟩
 clear H'
 (try clear c4);(try clear c4b0);(try clear c4b1);(try clear c5);(try clear c5b0);(try clear c5b1)
 obtain ⟨x5_1, x20_1, rfl, HA, HK1, HO_5, HB⟩ := hrel
 cases gk with | zero => exact absurd HA.out (by simp [nat_times.l0]) | succ k1 => ?_
 have H := HA.out
 clear HA
 simp only [nat_times.l0] at H
 replace H := zid H
 rcases H with ⟨c8b0, H⟩ | ⟨c8b0, H⟩
 · replace H := zgd H
   obtain ⟨c9b0, H⟩ := H
   replace H := zgd H
   obtain ⟨c10b0, H⟩ := H
   have H' := zk H
   clear H
   have pa7 : 0 ≤ (x20_1 : Int) := zd
   have qa7 : x20_1 < (l0.length : Int) := zd
   obtain ⟨ada7, ea7, hxa7_0⟩ := Kd.at_int HR0.out x20_1 pa7 qa7
   cases ea7
   replace hxa7_0 := (HB.out.cell (World.block_lt_of_cell? w _ hxa7_0)).trans hxa7_0
   replace pa7 := eq_true pa7
   replace qa7 := eq_true qa7
   go_wp2
   go_loopg [8, 27] k1 (fun kq v8 v27 w' => ∃ (x5_2 : List Int) (x8_2 : Int) (x27_2 : Int), v8 = .int .u64 x8_2 ∧ v27 = .int .i64 x27_2 ∧ Aside0 (nat_times.l1 kq l1 x5_2 x20_1 (rd l0 x20_1) x8_2 l0 (l0.length : Int) x20_1 l1 (l1.length : Int) x27_2 = some r) ∧ Aside0 (kq ≤ k1) ∧ Aside0 (Kd.R (Kd.int .u32) 97 w' w.heap.size (fun k_ => (w.heap.size ≤ k_)) va2 x5_2) ∧ Aside0 (Below w.heap.size w w'))
   case atStart => exact ⟨(x5_1), (0), (0), zF, zF, H', ⟨Nat.le_refl _⟩, ⟨zR HO_5.out⟩, ⟨zB HB.out⟩⟩
   clear H'
   (try clear c4);(try clear c4b0);(try clear c4b1);(try clear c5);(try clear c5b0);(try clear c5b1);(try clear c8b0);(try clear c9b0);(try clear c10b0);(try clear hxa7_0);(try clear pa7);(try clear qa7)
   obtain ⟨x5_2, x8_2, x27_2, rfl, rfl, HA, HK2, HO_5, HB⟩ := hrel
   cases gk with | zero => exact absurd HA.out (by simp [nat_times.l1]) | succ k2 => ?_
   have H := HA.out
   clear HA
   simp only [nat_times.l1] at H
   replace H := zid H
   rcases H with ⟨c11b0, H⟩ | ⟨c11b0, H⟩
   · replace H := zgd H
     obtain ⟨c12b0, H⟩ := H
     replace H := zgd H
     obtain ⟨c13b0, H⟩ := H
     obtain ⟨ji14, hji14⟩ : ∃ j_ : Int, (wrap64 (x20_1 + x27_2)) = j_ := ⟨_, rfl⟩
     replace H : (if 0 ≤ (ji14) then (if (ji14) < (x5_2.length : Int) then (nat_times.l1 k2 l1 (x5_2.set ((ji14) : Int).toNat ((IntKind.u64.wrap ((IntKind.u64.wrap ((IntKind.u64.wrap ((IntKind.u64.wrap ((rd l0 x20_1))) * (IntKind.u64.wrap (rd l1 x27_2)))) + (IntKind.u64.wrap (rd x5_2 (ji14))))) + x8_2)) % 4294967296)) x20_1 (rd l0 x20_1) ((IntKind.u64.wrap ((IntKind.u64.wrap ((IntKind.u64.wrap ((IntKind.u64.wrap ((rd l0 x20_1))) * (IntKind.u64.wrap (rd l1 x27_2)))) + (IntKind.u64.wrap (rd x5_2 (ji14))))) + x8_2)) / 4294967296) l0 (l0.length : Int) x20_1 l1 (l1.length : Int) (wrap64 (x27_2 + 1))) else (none)) else (none)) = some r := by first | (rw [hji14] at H; exact H) | (simp only [hji14] at H ⊢; exact H)
     have hji14w : (IntKind.i64.wrap (x20_1 + x27_2)) = ji14 := (i64_w _).trans hji14
     replace H := zgd H
     obtain ⟨c15b0, H⟩ := H
     replace H := zgd H
     obtain ⟨c16b0, H⟩ := H
     obtain ⟨yb0, hyb0⟩ : ∃ y_ : List Int, y_ = (x5_2.set ((ji14) : Int).toNat ((IntKind.u64.wrap ((IntKind.u64.wrap ((IntKind.u64.wrap ((IntKind.u64.wrap ((rd l0 x20_1))) * (IntKind.u64.wrap (rd l1 x27_2)))) + (IntKind.u64.wrap (rd x5_2 (ji14))))) + x8_2)) % 4294967296)) := ⟨_, rfl⟩
     replace H : (nat_times.l1 k2 l1 yb0 x20_1 (rd l0 x20_1) ((IntKind.u64.wrap ((IntKind.u64.wrap ((IntKind.u64.wrap ((IntKind.u64.wrap ((rd l0 x20_1))) * (IntKind.u64.wrap (rd l1 x27_2)))) + (IntKind.u64.wrap (rd x5_2 (ji14))))) + x8_2)) / 4294967296) l0 (l0.length : Int) x20_1 l1 (l1.length : Int) (wrap64 (x27_2 + 1))) = some r := zY hyb0 H
     have Nyb0 := zk hyb0
     clear hyb0
     have H' := zk H
     clear H
     have pa8 : 0 ≤ (x27_2 : Int) := zd
     have qa8 : x27_2 < (l1.length : Int) := zd
     obtain ⟨ada8, ea8, hxa8_0⟩ := Kd.at_int HR1.out x27_2 pa8 qa8
     cases ea8
     replace hxa8_0 := (HB.out.cell (World.block_lt_of_cell? w _ hxa8_0)).trans hxa8_0
     replace pa8 := eq_true pa8
     replace qa8 := eq_true qa8
     obtain ⟨Ao18, co18, rfl⟩ := Kd.R_slice HO_5.out
     have pa9 : 0 ≤ ((ji14) : Int) := zd
     have qa9 : (ji14) < (x5_2.length : Int) := zd
     obtain ⟨ada9, ea9, hxa9_0⟩ := Kd.at_int (Kd.R_reads' HO_5.out).2.2 (ji14) pa9 qa9
     cases ea9
     replace pa9 := eq_true pa9
     replace qa9 := eq_true qa9
     have p17 : 0 ≤ ((ji14) : Int) := zd
     have q17 : ((ji14) : Int) < ((x5_2.length : Int) : Int) := zd
     obtain ⟨go17, co17, eo17, gb17, gl17, cl17, HG17⟩ := Kd.R_form HO_5.out (by omega)
     (first | cases eo17 | (injection eo17 with ea_ en_ ec_; (first | subst ea_ | (injection ea_ with ea_; subst ea_)); subst ec_; clear en_))
     have GB17 := zk gb17
     have GG17 := zk HG17
     clear gb17 gl17 HG17
     (first | simp only [add_plain] at hxa9_0 | skip)
     obtain ⟨hx17_0, hf17_0⟩ := Kd.R_celln 0 HO_5.out ((ji14) : Int) p17 q17
     replace p17 := eq_true p17
     replace q17 := eq_true q17
     have HP19 := Kd.R_putg HO_5.out ((ji14) : Int) ((IntKind.u64.wrap ((IntKind.u64.wrap ((IntKind.u64.wrap ((IntKind.u64.wrap ((rd l0 x20_1))) * (IntKind.u64.wrap (rd l1 x27_2)))) + (IntKind.u64.wrap (rd x5_2 (ji14))))) + x8_2)) % 4294967296)
     go_wp2_with (first | ((with_reducible refine gate_store (t := 97) (p := 53) rfl ?_); refine store_event (t := 97) (p := 53) (v := ?vo_w20) (w1 := (wr.setCell ⟨go17, ((ji14) : Int).toNat, none⟩ (.int .u32 ((IntKind.u64.wrap ((IntKind.u64.wrap ((IntKind.u64.wrap ((IntKind.u64.wrap ((rd l0 x20_1))) * (IntKind.u64.wrap (rd l1 x27_2)))) + (IntKind.u64.wrap (rd x5_2 (ji14))))) + x8_2)) % 4294967296)))) ?hg ?ho ?hn ?hr ?_; (case ho => rfl); (case hg => rfl); (case hn => rfl); (case hr => first | (go_simp; done) | (go_simp; rfl)); intro w20 hw; have hg : wr.grownBy w20 (some go17) := (by rw [hw]; exact HP19.2); have hp_ : Kd.R (Kd.int .u32) 97 w20 w.heap.size (fun k_ => (w.heap.size ≤ k_)) (.slice (some ⟨go17, 0, none⟩) x5_2.length co18) yb0 := (by rw [hw, Nyb0.out]; exact HP19.1); clear HP19; replace HO_5 := zk (hp_); replace HB := zk ((by rw [hw]; exact below_set (HB.out) GB17.out : Below w.heap.size w w20)); clear hg hw hp_))
     go_roundg k2
     case measure => have := HK1.out; have := HK2.out; omega
     case rel => exact ⟨(yb0), ((IntKind.u64.wrap ((IntKind.u64.wrap ((IntKind.u64.wrap ((IntKind.u64.wrap ((rd l0 x20_1))) * (IntKind.u64.wrap (rd l1 x27_2)))) + (IntKind.u64.wrap (rd x5_2 (ji14))))) + x8_2)) / 4294967296), (wrap64 (x27_2 + 1)), (by first | rfl | (simp; done) | (simp only [← hji14] <;> (first | rfl | simp)) | (simp [*]; done)), zF, H', ⟨zo2 HK1 HK2⟩, ⟨zR HO_5.out⟩, ⟨zB HB.out⟩⟩
   obtain ⟨ji21, hji21⟩ : ∃ j_ : Int, (wrap64 (x20_1 + (l1.length : Int))) = j_ := ⟨_, rfl⟩
   replace H : (if 0 ≤ (ji21) then (if (ji21) < (x5_2.length : Int) then (nat_times.l0 k2 l1 (x5_2.set ((ji21) : Int).toNat ((x8_2) % 4294967296)) l0 (l0.length : Int) (wrap64 (x20_1 + 1))) else (none)) else (none)) = some r := by first | (rw [hji21] at H; exact H) | (simp only [hji21] at H ⊢; exact H)
   have hji21w : (IntKind.i64.wrap (x20_1 + (l1.length : Int))) = ji21 := (i64_w _).trans hji21
   replace H := zgd H
   obtain ⟨c22b0, H⟩ := H
   replace H := zgd H
   obtain ⟨c23b0, H⟩ := H
   obtain ⟨yb1, hyb1⟩ : ∃ y_ : List Int, y_ = (x5_2.set ((ji21) : Int).toNat ((x8_2) % 4294967296)) := ⟨_, rfl⟩
   replace H : (nat_times.l0 k2 l1 yb1 l0 (l0.length : Int) (wrap64 (x20_1 + 1))) = some r := zY hyb1 H
   have Nyb1 := zk hyb1
   clear hyb1
   have H' := zk H
   clear H
   have p24 : 0 ≤ ((ji21) : Int) := zd
   have q24 : ((ji21) : Int) < ((x5_2.length : Int) : Int) := zd
   obtain ⟨go24, co24, eo24, gb24, gl24, cl24, HG24⟩ := Kd.R_form HO_5.out (by omega)
   (first | cases eo24 | (injection eo24 with ea_ en_ ec_; (first | subst ea_ | (injection ea_ with ea_; subst ea_)); subst ec_; clear en_))
   have GB24 := zk gb24
   have GG24 := zk HG24
   clear gb24 gl24 HG24
   obtain ⟨hx24_0, hf24_0⟩ := Kd.R_celln 0 HO_5.out ((ji21) : Int) p24 q24
   replace p24 := eq_true p24
   replace q24 := eq_true q24
   have HP25 := Kd.R_putg HO_5.out ((ji21) : Int) ((x8_2) % 4294967296)
   go_wp2_with (first | ((with_reducible refine gate_store (t := 97) (p := 64) rfl ?_); refine store_event (t := 97) (p := 64) (v := ?vo_w26) (w1 := (wr.setCell ⟨go24, ((ji21) : Int).toNat, none⟩ (.int .u32 ((x8_2) % 4294967296)))) ?hg ?ho ?hn ?hr ?_; (case ho => rfl); (case hg => rfl); (case hn => rfl); (case hr => first | (go_simp; done) | (go_simp; rfl)); intro w26 hw; have hg : wr.grownBy w26 (some go24) := (by rw [hw]; exact HP25.2); have hp_ : Kd.R (Kd.int .u32) 97 w26 w.heap.size (fun k_ => (w.heap.size ≤ k_)) (.slice (some ⟨go24, 0, none⟩) x5_2.length co24) yb1 := (by rw [hw, Nyb1.out]; exact HP25.1); clear HP25; replace HO_5 := zk (hp_); replace HB := zk ((by rw [hw]; exact below_set (HB.out) GB24.out : Below w.heap.size w w26)); clear hg hw hp_))
   go_roundg k2
   case measure => have := HK1.out; have := HK2.out; omega
   case rel => exact ⟨(yb1), (wrap64 (x20_1 + 1)), zF, H', ⟨zo2 HK1 HK2⟩, ⟨zR HO_5.out⟩, ⟨zB HB.out⟩⟩
 replace H := zb H
 obtain ⟨ta4, A27, H⟩ := H
 obtain rfl := Option.some.inj H
 obtain ⟨Ao28, co28, rfl⟩ := Kd.R_slice HO_5.out
 go_wp2_with (first | ((with_reducible refine gC 118 ?_); refine zG (some 67) Try.func118 #[.slice Ao28 x5_1.length co28] ?_; (with_reducible refine (nat_short.calls k1 (fun k_ => some k_ = (.slice Ao28 x5_1.length co28 : Value).ownBlock) _ _ x5_1 ta4 _ ?side1 A27.out).mono ?_); (case side1 => exact Kd.R_V (Kd.R_tight rfl (HO_5.out))); rintro e w29 ⟨va5, rfl, ho0, hb⟩; refine ⟨_, rfl, ?_⟩; have HOa6 := zk (Kd.V_lower (Kd.V_mono (ok' := fun k_ => (w.heap.size ≤ k_)) ho0 (fun k_ hk_ => Or.elim hk_ (fun hs_ => ((HO_5.out).1 k_ hs_.symm)) (fun hn_ => (Nat.le_trans (below_size (zB HB.out)) hn_)))) (below_size (zB HB.out))); replace HO_5 := yRb HO_5 hb; replace HB := yS HB hb; (try clear hb ho0)))
 go_ret
 exact ⟨_, by first | rfl | (simp [errW_none, errW_some] <;> rfl) | (simp only [← hji3]; first | rfl | (simp [errW_none, errW_some] <;> rfl)) | (simp [*, errW_none, errW_some] <;> rfl), zV HOa6.out, zB HB.out⟩
set_option maxHeartbeats 8000000 in
set_option maxRecDepth 100000 in
theorem nat_Binomial.calls (k : Nat) (a0 : Int) (a1 : Int) (r1 : List Int) (r2 : Int) (w : World) (h : nat_Binomial.f k a0 a1 = some (r1, r2)) :
    Calls Try.prog 72 #[.int .i64 a0, .int .i64 a1] w fun e w' => ∃ v0_ : Value, e = .returned (.tuple #[v0_, .int .i64 r2]) ∧ Kd.R (Kd.int .u32) 97 w' w.heap.size (fun _ => True) v0_ r1 ∧ Below w.heap.size w w' := by
 have HB := zk (Below.refl w.heap.size w)
 have H := h
 clear h
 unfold nat_Binomial.f at H
 have HC3 := zk H
 clear H
 go_enter Try.func72, Try.ntmps72
 go_upto_region 1 with (fail)
 go_cut [13] (fun v13 wc => ∃ (kq : Nat) (x13_2 : Bool), v13 = .bool x13_2 ∧ Aside0 (nat_Binomial.j0 kq a0 a1 x13_2 = some (r1, r2)) ∧ Aside0 (kq ≤ k) ∧ Aside0 (Below w.heap.size w wc))
 case first =>
  have H := HC3.out
  clear HC3
  replace H := zid H
  rcases H with ⟨c4b0, H⟩ | ⟨c4b0, H⟩
  · (first | rw [c4b0] | (simp only [i64_w, i32_w]; rw [c4b0]) | rw [c4b1] | skip)
    have H' := zk H
    clear H
    go_wp2
    go_meet
    case rel => exact ⟨_, (true), zF, H', ⟨zO⟩, ⟨zB HB.out⟩⟩
  (first | rw [c4b0] | (simp only [i64_w, i32_w]; rw [c4b0]) | rw [c4b1] | skip)
  have H' := zk H
  clear H
  go_wp2
  go_meet
  case rel => exact ⟨_, (decide (a0 > 4096)), zF, H', ⟨zO⟩, ⟨zB HB.out⟩⟩
 clear HC3
 (try clear c4b0)
 obtain ⟨kq, x13_2, rfl, HA, HJ2, HB⟩ := hcut
 cases kq with | zero => exact absurd HA.out (by simp [nat_Binomial.j0]) | succ kj2 => ?_
 have H := HA.out
 clear HA
 simp only [nat_Binomial.j0] at H
 by_cases c5 : x13_2 = true
 · subst c5
   rw [if_pos rfl] at H
   simp only [Option.some.injEq, Prod.mk.injEq] at H
   obtain ⟨rfl, rfl⟩ := H
   go_wp2
   go_ret2
   exact ⟨_, zE, z0, zB HB.out⟩
 replace c5 := Bool.eq_false_iff.mpr c5
 subst c5
 rw [if_neg Bool.false_ne_true] at H
 have HC6 := zk H
 clear H
 go_upto_region 3 with (fail)
 go_cut [20] (fun v20 wc => ∃ (kq : Nat) (x20_5 : Bool), v20 = .bool x20_5 ∧ Aside0 (nat_Binomial.j1 kq a0 a1 x20_5 = some (r1, r2)) ∧ Aside0 (kq ≤ kj2) ∧ Aside0 (Below w.heap.size w wc))
 case first =>
  have H := HC6.out
  clear HC6
  replace H := zid H
  rcases H with ⟨c7b0, H⟩ | ⟨c7b0, H⟩
  · (first | rw [c7b0] | (simp only [i64_w, i32_w]; rw [c7b0]) | rw [c7b1] | skip)
    have H' := zk H
    clear H
    go_wp2
    go_meet
    case rel => exact ⟨_, (true), zF, H', ⟨by have := HJ2.out; first | omega | exact Nat.le_refl _⟩, ⟨zB HB.out⟩⟩
  (first | rw [c7b0] | (simp only [i64_w, i32_w]; rw [c7b0]) | rw [c7b1] | skip)
  have H' := zk H
  clear H
  go_wp2
  go_meet
  case rel => exact ⟨_, (decide (a1 > a0)), zF, H', ⟨by have := HJ2.out; first | omega | exact Nat.le_refl _⟩, ⟨zB HB.out⟩⟩
 clear HC6
 (try clear c4b0);(try clear c5);(try clear c7b0)
 obtain ⟨kq, x20_5, rfl, HA, HJ5, HB⟩ := hcut
 cases kq with | zero => exact absurd HA.out (by simp [nat_Binomial.j1]) | succ kj5 => ?_
 have H := HA.out
 clear HA
 simp only [nat_Binomial.j1] at H
 by_cases c8 : x20_5 = true
 · subst c8
   rw [if_pos rfl] at H
   simp only [Option.some.injEq, Prod.mk.injEq] at H
   obtain ⟨rfl, rfl⟩ := H
   go_wp2
   go_ret2
   exact ⟨_, zE, z0, zB HB.out⟩
 replace c8 := Bool.eq_false_iff.mpr c8
 subst c8
 rw [if_neg Bool.false_ne_true] at H
 obtain ⟨ya1, hya1⟩ : ∃ y_ : List Int, y_ = (([1] : List Int)) := ⟨_, rfl⟩
 replace H : (nat_Binomial.l0 kj5 a0 ya1 (mn a1 (wrap64 (a0 - a1))) 0) = some (r1, r2) := zY hya1 H
 have Nya1 := zk hya1
 clear hya1
 obtain ⟨ji9, hji9⟩ : ∃ j_ : Int, (mn a1 (wrap64 (a0 - a1))) = j_ := ⟨_, rfl⟩
 replace H : (nat_Binomial.l0 kj5 a0 ya1 ji9 0) = some (r1, r2) := by first | (rw [hji9] at H; exact H) | (simp only [hji9] at H ⊢; exact H)
 have hji9_ : (if (wrap64 (a0 - a1)) < a1 then (wrap64 (a0 - a1)) else a1) = ji9 := hji9
 have H' := zk H
 clear H
 go_wp2_with (first | ((with_reducible refine gate_dst (N := 21) rfl ?_); refine Kd.R_lit (Kd.int .u32) _ 97 ?hg (N := 21) ?hd (xs := ([1] : List Int)) (inner := [.int .u32 1]) (ok := fun _ => True) (okp := fun _ => True) ?hr ?hp (fun _ hk => hk) trivial (Below.refl _ _) (Nat.le_refl _) (by simp) ?_; (case hd => rfl); (case hg => rfl); (case hr => first | (go_simp; done) | (go_simp; rfl)); (case hp => exact (Reps.one (show Kd.M (Kd.int .u32) _ _ _ 1 [.int .u32 1] from rfl) (Reps.none _ _))); intro va2 w10 ho11 hb hg_ hnew_; clear hg_ hnew_; (first | rw [← Nya1.out] at ho11 | (simp only [Int.reduceToNat] at ho11; rw [← Nya1.out] at ho11)); have HOa3 := yRl ho11 HB; replace HB := yS HB hb; clear hb ho11))
 go_loopg [6, 27] kj5 (fun kq v6 v27 w' => ∃ (x6_3 : List Int) (x27_3 : Int), v27 = .int .i64 x27_3 ∧ Aside0 (nat_Binomial.l0 kq a0 x6_3 ji9 x27_3 = some (r1, r2)) ∧ Aside0 (kq ≤ kj5) ∧ Aside0 (Kd.V (Kd.int .u32) 97 w' w.heap.size (fun _ => True) v6 x6_3) ∧ Aside0 (Below w.heap.size w w'))
 case atStart => exact ⟨(ya1), (0), zF, H', ⟨Nat.le_refl _⟩, ⟨Kd.R_V (zR HOa3.out)⟩, ⟨zB HB.out⟩⟩
 clear H'
 (try clear c4b0);(try clear c5);(try clear c7b0);(try clear c8)
 obtain ⟨x6_3, x27_3, rfl, HA, HK3, HO_6, HB⟩ := hrel
 cases gk with | zero => exact absurd HA.out (by simp [nat_Binomial.l0]) | succ k3 => ?_
 have H := HA.out
 clear HA
 simp only [nat_Binomial.l0] at H
 replace H := zid H
 rcases H with ⟨c12b0, H⟩ | ⟨c12b0, H⟩
 · obtain ⟨ya4, hya4⟩ : ∃ y_ : List Int, y_ = (([(wrap64 (a0 - x27_3)) % 4294967296] : List Int)) := ⟨_, rfl⟩
   replace H : ((nat_times.f k3 x6_3 ya4).bind fun ta7 => ((nat_digit.f k3 ta7 ((wrap64 (x27_3 + 1)) % 4294967296)).bind fun btb0 => (nat_Binomial.l0 k3 a0 btb0.1 ji9 (wrap64 (x27_3 + 1))))) = some (r1, r2) := zY hya4 H
   have Nya4 := zk hya4
   clear hya4
   replace H := zb H
   obtain ⟨ta7, A13, H⟩ := H
   replace H := zb H
   obtain ⟨⟨tb0, tb3⟩, A14, H⟩ := H
   dsimp only at H
   have H' := zk H
   clear H
   go_wp2_with (first | ((with_reducible refine gate_dst (N := 36) rfl ?_); refine Kd.R_lit (Kd.int .u32) _ 97 ?hg (N := 36) ?hd (xs := ([(wrap64 (a0 - x27_3)) % 4294967296] : List Int)) (inner := [.int .u32 ((wrap64 (a0 - x27_3)) % 4294967296)]) (ok := fun _ => True) (okp := fun _ => True) ?hr ?hp (fun _ hk => hk) trivial (Below.refl _ _) (Nat.le_refl _) (by simp) ?_; (case hd => rfl); (case hg => rfl); (case hr => first | (go_simp; done) | (go_simp; rfl)); (case hp => exact (Reps.one (show Kd.M (Kd.int .u32) _ _ _ ((wrap64 (a0 - x27_3)) % 4294967296) [.int .u32 ((wrap64 (a0 - x27_3)) % 4294967296)] from rfl) (Reps.none _ _))); intro va5 w15 ho16 hb hg_ hnew_; clear hg_ hnew_; (first | rw [← Nya4.out] at ho16 | (simp only [Int.reduceToNat] at ho16; rw [← Nya4.out] at ho16)); replace HO_6 := yVe HO_6 ho16 hb; have HOa6 := yRl ho16 HB; replace HB := yS HB hb; clear hb ho16; obtain ⟨Ao17, co17, rfl⟩ := Kd.V_slice HO_6.out; obtain ⟨Ao18, co18, rfl⟩ := Kd.R_slice HOa6.out) | ((with_reducible refine gC 116 ?_); refine zG (some 37) Try.func116 #[.slice Ao17 x6_3.length co17, .slice Ao18 ya4.length co18] ?_; (with_reducible refine (nat_times.calls k3 _ _ x6_3 _ _ ya4 ta7 _ ?side1 ?side2 ?side3 ?side4 A13.out).mono ?_); (case side1 => exact zC (Kd.V_reads' HO_6.out).2.2); (case side2 => exact (Kd.V_reads' HO_6.out).2.1); (case side3 => exact zC (Kd.R_reads' HOa6.out).2.2); (case side4 => exact (Kd.R_reads' HOa6.out).2.1); rintro e w19 ⟨va8, rfl, ho0, hb⟩; refine ⟨_, rfl, ?_⟩; replace HO_6 := yVb HO_6 hb; have HOa9 := zk (Kd.V_lower (Kd.V_mono (ok' := fun k_ => some k_ ≠ (.slice Ao18 ya4.length co18 : Value).ownBlock) ho0 (fun k_ hk_ => (Kd.fresh' (Kd.R_lt (zR HOa6.out)) k_ hk_))) (below_size (zB HB.out))); replace HOa6 := yRb HOa6 hb; replace HB := yS HB hb; (try clear hb ho0); obtain ⟨Ao20, co20, rfl⟩ := Kd.V_slice HOa9.out) | ((with_reducible refine gC 115 ?_); refine zG (some 41) Try.func115 #[.slice Ao20 ta7.length co20, .int .u32 ((wrap64 (x27_3 + 1)) % 4294967296)] ?_; (with_reducible refine (nat_digit.calls k3 _ _ ta7 ((wrap64 (x27_3 + 1)) % 4294967296) tb0 tb3 _ ?side1 ?side2 A14.out).mono ?_); (case side1 => exact zC (Kd.V_reads' HOa9.out).2.2); (case side2 => exact (Kd.V_reads' HOa9.out).2.1); rintro e w21 ⟨vb1, rfl, ho0, hb⟩; refine ⟨_, rfl, ?_⟩; replace HO_6 := yVb HO_6 hb; replace HOa9 := yVb HOa9 hb; have HOb2 := zk (Kd.V_lower (Kd.V_mono (ok' := fun k_ => some k_ ≠ (.slice Ao18 ya4.length co18 : Value).ownBlock) ho0 (fun k_ hk_ => (Kd.fresh' (Kd.R_lt (zR HOa6.out)) k_ hk_))) (below_size (zB HB.out))); replace HOa6 := yRb HOa6 hb; replace HB := yS HB hb; (try clear hb ho0)))
   go_roundg k3
   case measure => have := HJ2.out; have := HJ5.out; have := HK3.out; omega
   case rel => exact ⟨(tb0), (wrap64 (x27_3 + 1)), zF, H', ⟨by have := HJ2.out; have := HJ5.out; have := HK3.out; omega⟩, ⟨by (with_reducible repeat (first | apply Kd.V_alloc | apply Kd.V_drewN | apply Kd.V_drew)); exact Kd.V_mono HOb2.out (fun _ hk => trivial)⟩, ⟨zB HB.out⟩⟩
 replace H := zb H
 obtain ⟨tb4, A22, H⟩ := H
 simp only [Option.some.injEq, Prod.mk.injEq] at H
 obtain ⟨rfl, rfl⟩ := H
 obtain ⟨Ao23, co23, rfl⟩ := Kd.V_slice HO_6.out
 go_wp2_with (first | ((with_reducible refine gC 103 ?_); refine zG (some 46) Try.func103 #[.slice Ao23 x6_3.length co23] ?_; (with_reducible refine (nat_Trim.calls k3 _ _ x6_3 tb4 _ ?side1 ?side2 A22.out).mono ?_); (case side1 => exact zC (Kd.V_reads' HO_6.out).2.2); (case side2 => exact (Kd.V_reads' HO_6.out).2.1); rintro e w24 ⟨vb5, rfl, ho0, hb⟩; refine ⟨_, rfl, ?_⟩; replace HO_6 := yVe HO_6 ho0 hb; have HOb6 := yRl ho0 HB; replace HB := yS HB hb; (try clear hb ho0)))
 go_ret2
 exact ⟨_, by first | rfl | (simp [errW_none, errW_some] <;> rfl) | (simp only [← hji9]; first | rfl | (simp [errW_none, errW_some] <;> rfl)) | (simp [*, errW_none, errW_some] <;> rfl), zR HOb6.out, zB HB.out⟩
set_option maxHeartbeats 8000000 in
set_option maxRecDepth 100000 in
theorem nat_Cmp.calls (k : Nat) (A0 : Option Addr) (c0 : Nat) (l0 : List Int) (A1 : Option Addr) (c1 : Nat) (l1 : List Int) (r : Int) (w : World) (hr0 : Kd.C (Kd.int .u32) w A0 l0.length l0) (hc0 : l0.length ≤ c0) (hr1 : Kd.C (Kd.int .u32) w A1 l1.length l1) (hc1 : l1.length ≤ c1) (h : nat_Cmp.f k l0 l1 = some r) :
    Calls Try.prog 79 #[.slice A0 l0.length c0, .slice A1 l1.length c1] w fun e w' => e = .returned (.int .i64 r) ∧ Below w.heap.size w w' := by
 have HR0 := zk hr0
 have HC0 := zk hc0
 clear hr0 hc0
 have HR1 := zk hr1
 have HC1 := zk hc1
 clear hr1 hc1
 have HB := zk (Below.refl w.heap.size w)
 have H := h
 clear h
 unfold nat_Cmp.f at H
 replace H := zb H
 obtain ⟨ta1, A3, H⟩ := H
 replace H := zb H
 obtain ⟨ta4, A4, H⟩ := H
 replace H := zi H
 rcases H with ⟨c5, H⟩ | ⟨c5, H⟩
 · have c5b0 := beq_iff_eq.mpr c5
   have c5b1 := bne_eq_false_iff_eq.mpr c5
   have c5b2 : (ta1.length == ta4.length) = true := by first | simpa using c5 | (simp at c5 ⊢; omega)
   clear c5
   have H' := zk H
   clear H
   go_enter Try.func79, Try.ntmps79
   go_wp2_with (first | (go_at_call 118; (with_reducible refine (nat_short.calls k (fun k_ => k_ < w.heap.size) _ _ l0 ta1 _ ?side1 A3.out).mono ?_); (case side1 => exact Kd.V_mk HC0.out (Kd.F_below (Kd.C_F (Kd.heap_int .u32) HR0.out) (zB HB.out))); rintro e w6 ⟨va2, rfl, ho0, hb⟩; have HOa3 := yVm ho0 HB; replace HB := yS HB hb; (try clear hb ho0)) | (go_at_call 118; (with_reducible refine (nat_short.calls k (fun k_ => k_ < w.heap.size) _ _ l1 ta4 _ ?side1 A4.out).mono ?_); (case side1 => exact Kd.V_mk HC1.out (Kd.F_below (Kd.C_F (Kd.heap_int .u32) HR1.out) (zB HB.out))); rintro e w7 ⟨va5, rfl, ho0, hb⟩; replace HOa3 := yVb HOa3 hb; have HOa6 := yVm ho0 HB; replace HB := yS HB hb; (try clear hb ho0); obtain ⟨Ao8, co8, rfl⟩ := Kd.V_slice HOa3.out; obtain ⟨Ao9, co9, rfl⟩ := Kd.V_slice HOa6.out))
   repeat (go_quiet (first | (go_at_call 118; (with_reducible refine (nat_short.calls k (fun k_ => k_ < w.heap.size) _ _ l0 ta1 _ ?side1 A3.out).mono ?_); (case side1 => exact Kd.V_mk HC0.out (Kd.F_below (Kd.C_F (Kd.heap_int .u32) HR0.out) (zB HB.out))); rintro e w6 ⟨va2, rfl, ho0, hb⟩; have HOa3 := yVm ho0 HB; replace HB := yS HB hb; (try clear hb ho0)) | (go_at_call 118; (with_reducible refine (nat_short.calls k (fun k_ => k_ < w.heap.size) _ _ l1 ta4 _ ?side1 A4.out).mono ?_); (case side1 => exact Kd.V_mk HC1.out (Kd.F_below (Kd.C_F (Kd.heap_int .u32) HR1.out) (zB HB.out))); rintro e w7 ⟨va5, rfl, ho0, hb⟩; replace HOa3 := yVb HOa3 hb; have HOa6 := yVm ho0 HB; replace HB := yS HB hb; (try clear hb ho0); obtain ⟨Ao8, co8, rfl⟩ := Kd.V_slice HOa3.out; obtain ⟨Ao9, co9, rfl⟩ := Kd.V_slice HOa6.out)); try go_wp2_with (first | (go_at_call 118; (with_reducible refine (nat_short.calls k (fun k_ => k_ < w.heap.size) _ _ l0 ta1 _ ?side1 A3.out).mono ?_); (case side1 => exact Kd.V_mk HC0.out (Kd.F_below (Kd.C_F (Kd.heap_int .u32) HR0.out) (zB HB.out))); rintro e w6 ⟨va2, rfl, ho0, hb⟩; have n0_ := yVm ho0 HB; have n1_ := yS HB hb; clear HB; have HOa3 := n0_; have HB := n1_; clear n0_ n1_; (try clear hb); (try clear hb2); (try clear hk); (try clear hi); (try clear ho0)) | (go_at_call 118; (with_reducible refine (nat_short.calls k (fun k_ => k_ < w.heap.size) _ _ l1 ta4 _ ?side1 A4.out).mono ?_); (case side1 => exact Kd.V_mk HC1.out (Kd.F_below (Kd.C_F (Kd.heap_int .u32) HR1.out) (zB HB.out))); rintro e w7 ⟨va5, rfl, ho0, hb⟩; have n0_ := yVb HOa3 hb; have n1_ := yVm ho0 HB; have n2_ := yS HB hb; clear HOa3; clear HB; have HOa3 := n0_; have HOa6 := n1_; have HB := n2_; clear n0_ n1_ n2_; (try clear hb); (try clear hb2); (try clear hk); (try clear hi); (try clear ho0); obtain ⟨Ao8, co8, eo8⟩ := Kd.V_slice HOa3.out; subst eo8; obtain ⟨Ao9, co9, eo9⟩ := Kd.V_slice HOa6.out; subst eo9)))
   go_loopg [5] k (fun kq v5 w' => ∃ (x5_1 : Int), v5 = .int .i64 x5_1 ∧ Aside0 (nat_Cmp.l0 kq ta1 ta4 x5_1 = some r) ∧ Aside0 (kq ≤ k) ∧ Aside0 (Kd.V (Kd.int .u32) 97 w' w.heap.size (fun _ => True) (.slice Ao8 ta1.length co8) ta1) ∧ Aside0 (Kd.V (Kd.int .u32) 97 w' w.heap.size (fun _ => True) (.slice Ao9 ta4.length co9) ta4) ∧ Aside0 (Below w.heap.size w w'))
   case atStart => exact ⟨(wrap64 ((ta1.length : Int) - 1)), zF, H', ⟨Nat.le_refl _⟩, ⟨zV HOa3.out⟩, ⟨zV HOa6.out⟩, ⟨zB HB.out⟩⟩
   clear H'
   (try clear c5);(try clear c5b0);(try clear c5b1);(try clear c5b2)
   obtain ⟨x5_1, rfl, HA, HK1, HO_0, HO_1, HB⟩ := hrel
   cases gk with | zero => exact absurd HA.out (by simp [nat_Cmp.l0]) | succ k1 => ?_
   have H := HA.out
   clear HA
   simp only [nat_Cmp.l0] at H
   replace H := zi H
   rcases H with ⟨c10, H⟩ | ⟨c10, H⟩
   · have c10b0 : decide (0 ≤ x5_1) = true := decide_eq_true c10
     clear c10
     replace H := zgd H
     obtain ⟨c11b0, H⟩ := H
     replace H := zgd H
     obtain ⟨c12b0, H⟩ := H
     replace H := zgd H
     obtain ⟨c13b0, H⟩ := H
     replace H := zid H
     rcases H with ⟨c14b0, H⟩ | ⟨c14b0, H⟩
     · obtain rfl := Option.some.inj H
       have pa7 : 0 ≤ (x5_1 : Int) := zd
       have qa7 : x5_1 < (ta1.length : Int) := zd
       obtain ⟨ada7, ea7, hxa7_0⟩ := Kd.at_int (Kd.V_reads' HO_0.out).2.2 x5_1 pa7 qa7
       cases ea7
       replace pa7 := eq_true pa7
       replace qa7 := eq_true qa7
       have pa8 : 0 ≤ (x5_1 : Int) := zd
       have qa8 : x5_1 < (ta4.length : Int) := zd
       obtain ⟨ada8, ea8, hxa8_0⟩ := Kd.at_int (Kd.V_reads' HO_1.out).2.2 x5_1 pa8 qa8
       cases ea8
       replace pa8 := eq_true pa8
       replace qa8 := eq_true qa8
       go_wp2
       repeat (go_quiet (fail); try go_wp2)
       go_ret
       exact ⟨zE, zB HB.out⟩
     replace H := zi H
     rcases H with ⟨c15, H⟩ | ⟨c15, H⟩
     · have c15b0 : decide ((rd ta4 x5_1) < (rd ta1 x5_1)) = true := decide_eq_true c15
       clear c15
       obtain rfl := Option.some.inj H
       have pa7 : 0 ≤ (x5_1 : Int) := zd
       have qa7 : x5_1 < (ta1.length : Int) := zd
       obtain ⟨ada7, ea7, hxa7_0⟩ := Kd.at_int (Kd.V_reads' HO_0.out).2.2 x5_1 pa7 qa7
       cases ea7
       replace pa7 := eq_true pa7
       replace qa7 := eq_true qa7
       have pa8 : 0 ≤ (x5_1 : Int) := zd
       have qa8 : x5_1 < (ta4.length : Int) := zd
       obtain ⟨ada8, ea8, hxa8_0⟩ := Kd.at_int (Kd.V_reads' HO_1.out).2.2 x5_1 pa8 qa8
       cases ea8
       replace pa8 := eq_true pa8
       replace qa8 := eq_true qa8
       have pa9 : 0 ≤ (x5_1 : Int) := zd
       have qa9 : x5_1 < (ta1.length : Int) := zd
       obtain ⟨ada9, ea9, hxa9_0⟩ := Kd.at_int (Kd.V_reads' HO_0.out).2.2 x5_1 pa9 qa9
       obtain rfl : ada7 = ada9 := (by injection ea9)
       replace pa9 := eq_true pa9
       replace qa9 := eq_true qa9
       have pb0 : 0 ≤ (x5_1 : Int) := zd
       have qb0 : x5_1 < (ta4.length : Int) := zd
       obtain ⟨adb0, eb0, hxb0_0⟩ := Kd.at_int (Kd.V_reads' HO_1.out).2.2 x5_1 pb0 qb0
       obtain rfl : ada8 = adb0 := (by injection eb0)
       replace pb0 := eq_true pb0
       replace qb0 := eq_true qb0
       go_wp2
       repeat (go_quiet (fail); try go_wp2)
       go_ret
       exact ⟨zE, zB HB.out⟩
     have c15b0 : decide ((rd ta4 x5_1) < (rd ta1 x5_1)) = false := decide_eq_false c15
     clear c15
     have H' := zk H
     clear H
     have pa7 : 0 ≤ (x5_1 : Int) := zd
     have qa7 : x5_1 < (ta1.length : Int) := zd
     obtain ⟨ada7, ea7, hxa7_0⟩ := Kd.at_int (Kd.V_reads' HO_0.out).2.2 x5_1 pa7 qa7
     cases ea7
     replace pa7 := eq_true pa7
     replace qa7 := eq_true qa7
     have pa8 : 0 ≤ (x5_1 : Int) := zd
     have qa8 : x5_1 < (ta4.length : Int) := zd
     obtain ⟨ada8, ea8, hxa8_0⟩ := Kd.at_int (Kd.V_reads' HO_1.out).2.2 x5_1 pa8 qa8
     cases ea8
     replace pa8 := eq_true pa8
     replace qa8 := eq_true qa8
     have pa9 : 0 ≤ (x5_1 : Int) := zd
     have qa9 : x5_1 < (ta1.length : Int) := zd
     obtain ⟨ada9, ea9, hxa9_0⟩ := Kd.at_int (Kd.V_reads' HO_0.out).2.2 x5_1 pa9 qa9
     obtain rfl : ada7 = ada9 := (by injection ea9)
     replace pa9 := eq_true pa9
     replace qa9 := eq_true qa9
     have pb0 : 0 ≤ (x5_1 : Int) := zd
     have qb0 : x5_1 < (ta4.length : Int) := zd
     obtain ⟨adb0, eb0, hxb0_0⟩ := Kd.at_int (Kd.V_reads' HO_1.out).2.2 x5_1 pb0 qb0
     obtain rfl : ada8 = adb0 := (by injection eb0)
     replace pb0 := eq_true pb0
     replace qb0 := eq_true qb0
     go_wp2
     repeat (go_quiet (fail); try go_wp2)
     go_roundg k1
     case measure => have := HK1.out; omega
     case rel => exact ⟨(wrap64 (x5_1 - 1)), zF, H', ⟨zo1 HK1⟩, ⟨zV HO_0.out⟩, ⟨zV HO_1.out⟩, ⟨zB HB.out⟩⟩
   have c10b0 : decide (0 ≤ x5_1) = false := decide_eq_false c10
   clear c10
   obtain rfl := Option.some.inj H
   go_wp2
   repeat (go_quiet (fail); try go_wp2)
   go_ret
   exact ⟨zE, zB HB.out⟩
 have c5b0 := beq_eq_false_iff_ne.mpr c5
 have c5b1 := bne_iff_ne.mpr c5
 have c5b2 : (ta1.length == ta4.length) = false := by first | simpa using c5 | (simp at c5 ⊢; omega)
 replace H := zi H
 rcases H with ⟨c16, H⟩ | ⟨c16, H⟩
 · have c16b0 := decide_eq_true c16
   have c16b1 : decide (ta1.length < ta4.length) = true := decide_eq_true (Int.ofNat_lt.mp c16)
   clear c16
   obtain rfl := Option.some.inj H
   go_enter Try.func79, Try.ntmps79
   go_wp2_with (first | (go_at_call 118; (with_reducible refine (nat_short.calls k (fun k_ => k_ < w.heap.size) _ _ l0 ta1 _ ?side1 A3.out).mono ?_); (case side1 => exact Kd.V_mk HC0.out (Kd.F_below (Kd.C_F (Kd.heap_int .u32) HR0.out) (zB HB.out))); rintro e w17 ⟨va2, rfl, ho0, hb⟩; have HOa3 := yVm ho0 HB; replace HB := yS HB hb; (try clear hb ho0)) | (go_at_call 118; (with_reducible refine (nat_short.calls k (fun k_ => k_ < w.heap.size) _ _ l1 ta4 _ ?side1 A4.out).mono ?_); (case side1 => exact Kd.V_mk HC1.out (Kd.F_below (Kd.C_F (Kd.heap_int .u32) HR1.out) (zB HB.out))); rintro e w18 ⟨va5, rfl, ho0, hb⟩; replace HOa3 := yVb HOa3 hb; have HOa6 := yVm ho0 HB; replace HB := yS HB hb; (try clear hb ho0); obtain ⟨Ao19, co19, rfl⟩ := Kd.V_slice HOa3.out; obtain ⟨Ao20, co20, rfl⟩ := Kd.V_slice HOa6.out))
   repeat (go_quiet (first | (go_at_call 118; (with_reducible refine (nat_short.calls k (fun k_ => k_ < w.heap.size) _ _ l0 ta1 _ ?side1 A3.out).mono ?_); (case side1 => exact Kd.V_mk HC0.out (Kd.F_below (Kd.C_F (Kd.heap_int .u32) HR0.out) (zB HB.out))); rintro e w17 ⟨va2, rfl, ho0, hb⟩; have HOa3 := yVm ho0 HB; replace HB := yS HB hb; (try clear hb ho0)) | (go_at_call 118; (with_reducible refine (nat_short.calls k (fun k_ => k_ < w.heap.size) _ _ l1 ta4 _ ?side1 A4.out).mono ?_); (case side1 => exact Kd.V_mk HC1.out (Kd.F_below (Kd.C_F (Kd.heap_int .u32) HR1.out) (zB HB.out))); rintro e w18 ⟨va5, rfl, ho0, hb⟩; replace HOa3 := yVb HOa3 hb; have HOa6 := yVm ho0 HB; replace HB := yS HB hb; (try clear hb ho0); obtain ⟨Ao19, co19, rfl⟩ := Kd.V_slice HOa3.out; obtain ⟨Ao20, co20, rfl⟩ := Kd.V_slice HOa6.out)); try go_wp2_with (first | (go_at_call 118; (with_reducible refine (nat_short.calls k (fun k_ => k_ < w.heap.size) _ _ l0 ta1 _ ?side1 A3.out).mono ?_); (case side1 => exact Kd.V_mk HC0.out (Kd.F_below (Kd.C_F (Kd.heap_int .u32) HR0.out) (zB HB.out))); rintro e w17 ⟨va2, rfl, ho0, hb⟩; have n0_ := yVm ho0 HB; have n1_ := yS HB hb; clear HB; have HOa3 := n0_; have HB := n1_; clear n0_ n1_; (try clear hb); (try clear hb2); (try clear hk); (try clear hi); (try clear ho0)) | (go_at_call 118; (with_reducible refine (nat_short.calls k (fun k_ => k_ < w.heap.size) _ _ l1 ta4 _ ?side1 A4.out).mono ?_); (case side1 => exact Kd.V_mk HC1.out (Kd.F_below (Kd.C_F (Kd.heap_int .u32) HR1.out) (zB HB.out))); rintro e w18 ⟨va5, rfl, ho0, hb⟩; have n0_ := yVb HOa3 hb; have n1_ := yVm ho0 HB; have n2_ := yS HB hb; clear HOa3; clear HB; have HOa3 := n0_; have HOa6 := n1_; have HB := n2_; clear n0_ n1_ n2_; (try clear hb); (try clear hb2); (try clear hk); (try clear hi); (try clear ho0); obtain ⟨Ao19, co19, eo19⟩ := Kd.V_slice HOa3.out; subst eo19; obtain ⟨Ao20, co20, eo20⟩ := Kd.V_slice HOa6.out; subst eo20)))
   go_ret
   exact ⟨zE, zB HB.out⟩
 have c16b0 := decide_eq_false c16
 have c16b1 : decide (ta1.length < ta4.length) = false := decide_eq_false (fun h => c16 (Int.ofNat_lt.mpr h))
 clear c16
 obtain rfl := Option.some.inj H
 go_enter Try.func79, Try.ntmps79
 go_wp2_with (first | (go_at_call 118; (with_reducible refine (nat_short.calls k (fun k_ => k_ < w.heap.size) _ _ l0 ta1 _ ?side1 A3.out).mono ?_); (case side1 => exact Kd.V_mk HC0.out (Kd.F_below (Kd.C_F (Kd.heap_int .u32) HR0.out) (zB HB.out))); rintro e w21 ⟨va2, rfl, ho0, hb⟩; have HOa3 := yVm ho0 HB; replace HB := yS HB hb; (try clear hb ho0)) | (go_at_call 118; (with_reducible refine (nat_short.calls k (fun k_ => k_ < w.heap.size) _ _ l1 ta4 _ ?side1 A4.out).mono ?_); (case side1 => exact Kd.V_mk HC1.out (Kd.F_below (Kd.C_F (Kd.heap_int .u32) HR1.out) (zB HB.out))); rintro e w22 ⟨va5, rfl, ho0, hb⟩; replace HOa3 := yVb HOa3 hb; have HOa6 := yVm ho0 HB; replace HB := yS HB hb; (try clear hb ho0); obtain ⟨Ao23, co23, rfl⟩ := Kd.V_slice HOa3.out; obtain ⟨Ao24, co24, rfl⟩ := Kd.V_slice HOa6.out))
 repeat (go_quiet (first | (go_at_call 118; (with_reducible refine (nat_short.calls k (fun k_ => k_ < w.heap.size) _ _ l0 ta1 _ ?side1 A3.out).mono ?_); (case side1 => exact Kd.V_mk HC0.out (Kd.F_below (Kd.C_F (Kd.heap_int .u32) HR0.out) (zB HB.out))); rintro e w21 ⟨va2, rfl, ho0, hb⟩; have HOa3 := yVm ho0 HB; replace HB := yS HB hb; (try clear hb ho0)) | (go_at_call 118; (with_reducible refine (nat_short.calls k (fun k_ => k_ < w.heap.size) _ _ l1 ta4 _ ?side1 A4.out).mono ?_); (case side1 => exact Kd.V_mk HC1.out (Kd.F_below (Kd.C_F (Kd.heap_int .u32) HR1.out) (zB HB.out))); rintro e w22 ⟨va5, rfl, ho0, hb⟩; replace HOa3 := yVb HOa3 hb; have HOa6 := yVm ho0 HB; replace HB := yS HB hb; (try clear hb ho0); obtain ⟨Ao23, co23, rfl⟩ := Kd.V_slice HOa3.out; obtain ⟨Ao24, co24, rfl⟩ := Kd.V_slice HOa6.out)); try go_wp2_with (first | (go_at_call 118; (with_reducible refine (nat_short.calls k (fun k_ => k_ < w.heap.size) _ _ l0 ta1 _ ?side1 A3.out).mono ?_); (case side1 => exact Kd.V_mk HC0.out (Kd.F_below (Kd.C_F (Kd.heap_int .u32) HR0.out) (zB HB.out))); rintro e w21 ⟨va2, rfl, ho0, hb⟩; have n0_ := yVm ho0 HB; have n1_ := yS HB hb; clear HB; have HOa3 := n0_; have HB := n1_; clear n0_ n1_; (try clear hb); (try clear hb2); (try clear hk); (try clear hi); (try clear ho0)) | (go_at_call 118; (with_reducible refine (nat_short.calls k (fun k_ => k_ < w.heap.size) _ _ l1 ta4 _ ?side1 A4.out).mono ?_); (case side1 => exact Kd.V_mk HC1.out (Kd.F_below (Kd.C_F (Kd.heap_int .u32) HR1.out) (zB HB.out))); rintro e w22 ⟨va5, rfl, ho0, hb⟩; have n0_ := yVb HOa3 hb; have n1_ := yVm ho0 HB; have n2_ := yS HB hb; clear HOa3; clear HB; have HOa3 := n0_; have HOa6 := n1_; have HB := n2_; clear n0_ n1_ n2_; (try clear hb); (try clear hb2); (try clear hk); (try clear hi); (try clear ho0); obtain ⟨Ao23, co23, eo23⟩ := Kd.V_slice HOa3.out; subst eo23; obtain ⟨Ao24, co24, eo24⟩ := Kd.V_slice HOa6.out; subst eo24)))
 go_ret
 exact ⟨zE, zB HB.out⟩
set_option maxHeartbeats 8000000 in
set_option maxRecDepth 100000 in
theorem nat_Of.calls (k : Nat) (a0 : Int) (r : List Int) (w : World) (h : nat_Of.f k a0 = some r) :
    Calls Try.prog 80 #[.int .u64 a0] w fun e w' => ∃ v0_ : Value, e = .returned (v0_) ∧ Kd.R (Kd.int .u32) 97 w' w.heap.size (fun _ => True) v0_ r ∧ Below w.heap.size w w' := by
 have HB := zk (Below.refl w.heap.size w)
 have H := h
 clear h
 unfold nat_Of.f at H
 obtain ⟨ya1, hya1⟩ : ∃ y_ : List Int, y_ = (([(a0) % 4294967296, (a0 / 4294967296) % 4294967296] : List Int)) := ⟨_, rfl⟩
 replace H : ((nat_Trim.f k ya1).bind fun ta4 => (some ta4)) = some r := zY hya1 H
 have Nya1 := zk hya1
 clear hya1
 replace H := zb H
 obtain ⟨ta4, A2, H⟩ := H
 obtain rfl := Option.some.inj H
 go_enter Try.func80, Try.ntmps80
 go_wp2_with (first | ((with_reducible refine gate_dst (N := 8) rfl ?_); refine Kd.R_lit (Kd.int .u32) _ 97 ?hg (N := 8) ?hd (xs := ([(a0) % 4294967296, (a0 / 4294967296) % 4294967296] : List Int)) (inner := [.int .u32 ((a0) % 4294967296), .int .u32 ((a0 / 4294967296) % 4294967296)]) (ok := fun _ => True) (okp := fun _ => True) ?hr ?hp (fun _ hk => hk) trivial (Below.refl _ _) (Nat.le_refl _) (by simp) ?_; (case hd => rfl); (case hg => rfl); (case hr => first | (go_simp; done) | (go_simp; rfl)); (case hp => exact (Reps.one (show Kd.M (Kd.int .u32) _ _ _ ((a0) % 4294967296) [.int .u32 ((a0) % 4294967296)] from rfl) (Reps.one (show Kd.M (Kd.int .u32) _ _ _ ((a0 / 4294967296) % 4294967296) [.int .u32 ((a0 / 4294967296) % 4294967296)] from rfl) (Reps.none _ _)))); intro va2 w3 ho4 hb hg_ hnew_; clear hg_ hnew_; (first | rw [← Nya1.out] at ho4 | (simp only [Int.reduceToNat] at ho4; rw [← Nya1.out] at ho4)); have HOa3 := yRl ho4 HB; replace HB := yS HB hb; clear hb ho4; obtain ⟨Ao5, co5, rfl⟩ := Kd.R_slice HOa3.out) | ((with_reducible refine gC 103 ?_); refine zG (some 9) Try.func103 #[.slice Ao5 ya1.length co5] ?_; (with_reducible refine (nat_Trim.calls k _ _ ya1 ta4 _ ?side1 ?side2 A2.out).mono ?_); (case side1 => exact zC (Kd.R_reads' HOa3.out).2.2); (case side2 => exact (Kd.R_reads' HOa3.out).2.1); rintro e w6 ⟨va5, rfl, ho0, hb⟩; refine ⟨_, rfl, ?_⟩; replace ho0 := yn ho0 HOa3; have HOa6 := yRl ho0 HB; replace HOa3 := yRe HOa3 ho0 hb; replace HB := yS HB hb; (try clear hb ho0)))
 go_ret
 exact ⟨_, zE, by (with_reducible repeat (first | apply Kd.R_alloc | apply Kd.R_drewN | apply Kd.R_drew)); exact Kd.R_mono HOa6.out (fun _ hk => trivial), zB HB.out⟩
mutual
def mw_Design.j0 : Nat → Int → List (List Int) → Int → Bool → Option (Int × Int)
  | 0, _, _, _, _ => none
  | k + 1, x0, x1, x2, x24 => if x24 = true then (some (0, 6)) else (mw_Design.l0 k x0 x2 ([] : List Int) x1 (x1.length : Int) 0)
def mw_Design.l0 : Nat → Int → Int → List Int → List (List Int) → Int → Int → Option (Int × Int)
  | 0, _, _, _, _, _, _ => none
  | k + 1, x0, x2, x8, x25, x26, x27 => if x27 < x26 then (if 0 ≤ x27 then (if x27 < (x25.length : Int) then (mw_Design.l1 k x0 x2 x8 0 (-1) x25 x26 x27 (rd_L1 x25 x27) ((rd_L1 x25 x27).length : Int) 0) else (none)) else (none)) else (if x2 < 0 then (mw_Design.j3 k x0 x2 x8 true) else (mw_Design.j3 k x0 x2 x8 (decide (x2 > x0))))
def mw_Design.l1 : Nat → Int → Int → List Int → Int → Int → List (List Int) → Int → Int → List Int → Int → Int → Option (Int × Int)
  | 0, _, _, _, _, _, _, _, _, _, _, _ => none
  | k + 1, x0, x2, x8, x11, x12, x25, x26, x27, x31, x32, x33 => if x33 < x32 then (if 0 ≤ x33 then (if x33 < (x31.length : Int) then (if (rd x31 x33) ≤ x12 then (some (0, 5)) else (if (rd x31 x33) ≥ x0 then (some (0, 5)) else (if 0 ≤ (rd x31 x33) then (mw_Design.l1 k x0 x2 x8 (Go.bits .or .u64 x11 (shl .u64 1 (rd x31 x33))) (rd x31 x33) x25 x26 x27 x31 x32 (wrap64 (x33 + 1))) else (none)))) else (none)) else (none)) else (if x8.length < 17592186044416 then (mw_Design.l0 k x0 x2 (x8 ++ [x11]) x25 x26 (wrap64 (x27 + 1))) else (none))
def mw_Design.j3 : Nat → Int → Int → List Int → Bool → Option (Int × Int)
  | 0, _, _, _, _ => none
  | k + 1, x0, x2, x8, x62 => if x62 = true then (some (0, 6)) else ((nat_Binomial.f k x0 x2).bind fun bta6 => ((nat_Of.f k 65536).bind fun tb0 => ((nat_Cmp.f k bta6.1 tb0).bind fun tb3 => (if tb3 > 0 then (some (0, 8)) else ((mw_subsets.f k x0 x2 0 0 x8 (-1) true).bind fun r => (if r.2.2 = true then (some (r.2.1, 0)) else (some (0, 11))))))))
end
def mw_Design.f (k : Nat) (a0 : Int) (l1 : List (List Int)) (a2 : Int) : Option (Int × Int) := if a0 < 0 then (mw_Design.j0 k a0 l1 a2 true) else (mw_Design.j0 k a0 l1 a2 (decide (a0 > 64)))
theorem info37 : (Try.prog.info? 37).map (fun i => (i.zero, i.size, i.bytes)) = some (some (.int .u64 0), 1, 8) := by kernel_rfl
theorem yM {W w1 : World} {b : Nat} {o : Obj} (h : Aside0 (W.heap[b]? = some o)) (k : Below W.heap.size W w1) : Aside0 (w1.heap[b]? = some o) := ⟨(k.block b (lt_of_block h.out)).trans h.out⟩
theorem cap_new {W : World} {Bm base : Nat} {ok : Nat → Prop} {A : Option Addr} {c : Nat} {l : List Int} (HM : W.heap[Bm]? = some (.cells #[.slice A l.length c] 101 (0, 0))) (HO : Kd.R (Kd.int .u64) 37 W base ok (.slice A l.length c) l) :
    Cap ((W.alloc (.cells #[.int .i64 (-1)] 3)).alloc (.cells #[.bool true] 4)) Bm W.heap.size (W.heap.size + 1) A c l (-1) true := by
  have hs : (W.alloc (.cells #[.int .i64 (-1)] 3)).heap.size = W.heap.size + 1 := by simp
  have hlt := lt_of_block HM
  refine ⟨?_, ?_, ?_, ?_, (Kd.R_reads' HO).2.1⟩
  · rw [Below.heap_alloc _ _ _ (by omega), Below.heap_alloc _ _ _ hlt]; exact HM
  · rw [Below.heap_alloc _ _ _ (by omega)]; exact heap_alloc_new _ _
  · rw [← hs]; exact heap_alloc_new _ _
  · have h1 := Kd.R_mono (ok' := fun k => k < W.heap.size) (Kd.R_bound HO) (fun k hk => hk.2.2.1)
    have h2 := Kd.R_alloc (Kd.R_alloc h1 (.cells #[.int .i64 (-1)] 3)) (.cells #[.bool true] 4)
    exact Kd.C_kept_own h2 (fun k hk e => by rcases e with e | e <;> omega)
theorem sub_below {w W w1 : World} {o o' : Obj} (HB : Below w.heap.size w W) (k : Kept2 ((W.alloc o).alloc o') w1 W.heap.size (W.heap.size + 1)) : Below w.heap.size w w1 :=
  Kept2.below (below_alloc (below_alloc HB o) o') k HB.size (Nat.le_succ_of_le HB.size)
set_option maxHeartbeats 8000000 in
set_option maxRecDepth 100000 in
theorem mw_Design.calls (k : Nat) (a0 : Int) (A1 : Option Addr) (c1 : Nat) (l1 : List (List Int)) (a2 : Int) (r1 : Int) (r2 : Int) (w : World) (hr1 : Kd.C (Kd.slice 3 (Kd.int .i64)) w A1 l1.length l1) (hc1 : l1.length ≤ c1) (h : mw_Design.f k a0 l1 a2 = some (r1, r2)) :
    Calls Try.prog 30 #[.int .i64 a0, .slice A1 l1.length c1, .int .i64 a2] w fun e w' => e = .returned (.tuple #[.int .i64 r1, .int .i64 r2]) ∧ Below w.heap.size w w' := by
 have HR1 := zk hr1
 have HC1 := zk hc1
 clear hr1 hc1
 have HB := zk (Below.refl w.heap.size w)
 have H := h
 clear h
 unfold mw_Design.f at H
 have HC4 := zk H
 clear H
 go_enter Try.func30, Try.ntmps30
 go_upto_region 1 with (fail)
 go_cut [24] (fun v24 wc => ∃ (kq : Nat) (x24_3 : Bool), v24 = .bool x24_3 ∧ Aside0 (mw_Design.j0 kq a0 l1 a2 x24_3 = some (r1, r2)) ∧ Aside0 (kq ≤ k) ∧ Aside0 (Below w.heap.size w wc))
 case first =>
  have H := HC4.out
  clear HC4
  replace H := zid H
  rcases H with ⟨c5b0, H⟩ | ⟨c5b0, H⟩
  · (first | rw [c5b0] | (simp only [i64_w, i32_w]; rw [c5b0]) | rw [c5b1] | skip)
    have H' := zk H
    clear H
    go_wp2
    go_meet
    case rel => exact ⟨_, (true), zF, H', ⟨zO⟩, ⟨zB HB.out⟩⟩
  (first | rw [c5b0] | (simp only [i64_w, i32_w]; rw [c5b0]) | rw [c5b1] | skip)
  have H' := zk H
  clear H
  go_wp2
  go_meet
  case rel => exact ⟨_, (decide (a0 > 64)), zF, H', ⟨zO⟩, ⟨zB HB.out⟩⟩
 clear HC4
 (try clear c5b0)
 obtain ⟨kq, x24_3, rfl, HA, HJ3, HB⟩ := hcut
 cases kq with | zero => exact absurd HA.out (by simp [mw_Design.j0]) | succ kj3 => ?_
 have H := HA.out
 clear HA
 simp only [mw_Design.j0] at H
 by_cases c6 : x24_3 = true
 · subst c6
   rw [if_pos rfl] at H
   simp only [Option.some.injEq, Prod.mk.injEq] at H
   obtain ⟨rfl, rfl⟩ := H
   go_wp2
   go_ret2
   exact ⟨zE, zB HB.out⟩
 replace c6 := Bool.eq_false_iff.mpr c6
 subst c6
 rw [if_neg Bool.false_ne_true] at H
 have H' := zk H
 clear H
 go_wp2
 have HLe := zk HB.out.size
 go_loopg [27] kj3 (fun kq v27 w' => ∃ (x8_2 : List Int) (x27_2 : Int) (u8 : Value), v27 = .int .i64 x27_2 ∧ Aside0 (mw_Design.l0 kq a0 a2 x8_2 l1 (l1.length : Int) x27_2 = some (r1, r2)) ∧ Aside0 (kq ≤ kj3) ∧ Aside0 (w'.heap[wc.heap.size]? = some (.cells #[u8] 101 (0, 0))) ∧ Aside0 (Kd.R (Kd.int .u64) 37 w' w.heap.size (fun k_ => k_ ≠ wc.heap.size) u8 x8_2) ∧ Aside0 (Below w.heap.size w w'))
 case atStart => exact ⟨(([] : List Int)), (0), _, zF, H', ⟨Nat.le_refl _⟩, ⟨heap_alloc_new _ _⟩, ⟨Kd.R_nil _ _ _ _ _⟩, ⟨zB HB.out⟩⟩
 clear H'
 (try clear c5b0);(try clear c6)
 obtain ⟨x8_2, x27_2, u8, rfl, HA, HK2, HM, HO_8, HB⟩ := hrel
 cases gk with | zero => exact absurd HA.out (by simp [mw_Design.l0]) | succ k2 => ?_
 have H := HA.out
 clear HA
 simp only [mw_Design.l0] at H
 replace H := zid H
 rcases H with ⟨c7b0, H⟩ | ⟨c7b0, H⟩
 · replace H := zgd H
   obtain ⟨c8b0, H⟩ := H
   replace H := zgd H
   obtain ⟨c9b0, H⟩ := H
   have H' := zk H
   clear H
   have pa1 : 0 ≤ (x27_2 : Int) := zd
   have qa1 : x27_2 < (l1.length : Int) := zd
   obtain ⟨ada1, Aa1_0, ca1_0, ea1, hxa1_0, hla1_0, hia1_0⟩ := at_L1 HR1.out x27_2 pa1 qa1
   cases ea1
   replace hxa1_0 := (HB.out.cell (World.block_lt_of_cell? w _ hxa1_0)).trans hxa1_0
   have HRa1_0 := zk hia1_0
   have HCa1_0 := zk hla1_0
   clear hia1_0 hla1_0
   replace pa1 := eq_true pa1
   replace qa1 := eq_true qa1
   go_wp2
   go_loopg [11, 12, 33] k2 (fun kq v11 v12 v33 w' => ∃ (x11_3 : Int) (x12_3 : Int) (x33_3 : Int), v11 = .int .u64 x11_3 ∧ v12 = .int .i64 x12_3 ∧ v33 = .int .i64 x33_3 ∧ Aside0 (mw_Design.l1 kq a0 a2 x8_2 x11_3 x12_3 l1 (l1.length : Int) x27_2 (rd_L1 l1 x27_2) ((rd_L1 l1 x27_2).length : Int) x33_3 = some (r1, r2)) ∧ Aside0 (kq ≤ k2) ∧ Aside0 (w'.heap[wc.heap.size]? = some (.cells #[u8] 101 (0, 0))) ∧ Aside0 (Kd.R (Kd.int .u64) 37 w' w.heap.size (fun k_ => k_ ≠ wc.heap.size) u8 x8_2) ∧ Aside0 (Below w.heap.size w w'))
   case atStart => exact ⟨(0), ((-1)), (0), zF, zF, zF, H', ⟨Nat.le_refl _⟩, HM, ⟨zR HO_8.out⟩, ⟨zB HB.out⟩⟩
   clear H'
   (try clear c5b0);(try clear c6);(try clear c7b0);(try clear c8b0);(try clear c9b0);(try clear hxa1_0);(try clear pa1);(try clear qa1)
   obtain ⟨x11_3, x12_3, x33_3, rfl, rfl, rfl, HA, HK3, HM, HO_8, HB⟩ := hrel
   cases gk with | zero => exact absurd HA.out (by simp [mw_Design.l1]) | succ k3 => ?_
   have H := HA.out
   clear HA
   simp only [mw_Design.l1] at H
   replace H := zid H
   rcases H with ⟨c10b0, H⟩ | ⟨c10b0, H⟩
   · replace H := zgd H
     obtain ⟨c11b0, H⟩ := H
     replace H := zgd H
     obtain ⟨c12b0, H⟩ := H
     replace H := zid H
     rcases H with ⟨c13b0, H⟩ | ⟨c13b0, H⟩
     · simp only [Option.some.injEq, Prod.mk.injEq] at H
       obtain ⟨rfl, rfl⟩ := H
       have pa2 : 0 ≤ (x33_3 : Int) := zd
       have qa2 : x33_3 < ((rd_L1 l1 x27_2).length : Int) := zd
       obtain ⟨ada2, ea2, hxa2_0⟩ := Kd.at_int HRa1_0.out x33_3 pa2 qa2
       cases ea2
       replace hxa2_0 := (HB.out.cell (World.block_lt_of_cell? w _ hxa2_0)).trans hxa2_0
       replace pa2 := eq_true pa2
       replace qa2 := eq_true qa2
       go_wp2
       go_ret2
       exact ⟨zE, zB HB.out⟩
     replace H := zi H
     rcases H with ⟨c14, H⟩ | ⟨c14, H⟩
     · have c14b0 : decide (a0 ≤ (rd (rd_L1 l1 x27_2) x33_3)) = true := decide_eq_true c14
       clear c14
       simp only [Option.some.injEq, Prod.mk.injEq] at H
       obtain ⟨rfl, rfl⟩ := H
       have pa2 : 0 ≤ (x33_3 : Int) := zd
       have qa2 : x33_3 < ((rd_L1 l1 x27_2).length : Int) := zd
       obtain ⟨ada2, ea2, hxa2_0⟩ := Kd.at_int HRa1_0.out x33_3 pa2 qa2
       cases ea2
       replace hxa2_0 := (HB.out.cell (World.block_lt_of_cell? w _ hxa2_0)).trans hxa2_0
       replace pa2 := eq_true pa2
       replace qa2 := eq_true qa2
       go_wp2
       go_ret2
       exact ⟨zE, zB HB.out⟩
     have c14b0 : decide (a0 ≤ (rd (rd_L1 l1 x27_2) x33_3)) = false := decide_eq_false c14
     clear c14
     replace H := zg H
     obtain ⟨c15, H⟩ := H
     have c15b0 := eq_true c15
     have c15b1 := decide_eq_true c15
     clear c15
     obtain ⟨ji16, hji16⟩ : ∃ j_ : Int, (shl .u64 1 (rd (rd_L1 l1 x27_2) x33_3)) = j_ := ⟨_, rfl⟩
     replace H : (mw_Design.l1 k3 a0 a2 x8_2 (Go.bits .or .u64 x11_3 (ji16)) (rd (rd_L1 l1 x27_2) x33_3) l1 (l1.length : Int) x27_2 (rd_L1 l1 x27_2) ((rd_L1 l1 x27_2).length : Int) (wrap64 (x33_3 + 1))) = some (r1, r2) := by first | (rw [hji16] at H; exact H) | (simp only [hji16] at H ⊢; exact H)
     have hji16_ : (IntKind.u64.wrap (1 * 2 ^ min (rd (rd_L1 l1 x27_2) x33_3).toNat 64)) = ji16 := hji16
     have hji16z : (rd (rd_L1 l1 x27_2) x33_3) ≤ 64 → (IntKind.u64.wrap (1 * 2 ^ (rd (rd_L1 l1 x27_2) x33_3).toNat)) = ji16 := shl_small hji16
     have hji16u : (IntKind.u64.wrap (2 ^ min (rd (rd_L1 l1 x27_2) x33_3).toNat 64)) = ji16 := by have h_ := hji16_; rw [Int.one_mul] at h_; exact h_
     have hji16v : (rd (rd_L1 l1 x27_2) x33_3) ≤ 64 → (IntKind.u64.wrap (2 ^ (rd (rd_L1 l1 x27_2) x33_3).toNat)) = ji16 := fun hle_ => by have h_ := hji16z hle_; rw [Int.one_mul] at h_; exact h_
     have H' := zk H
     clear H
     have pa2 : 0 ≤ (x33_3 : Int) := zd
     have qa2 : x33_3 < ((rd_L1 l1 x27_2).length : Int) := zd
     obtain ⟨ada2, ea2, hxa2_0⟩ := Kd.at_int HRa1_0.out x33_3 pa2 qa2
     cases ea2
     replace hxa2_0 := (HB.out.cell (World.block_lt_of_cell? w _ hxa2_0)).trans hxa2_0
     replace pa2 := eq_true pa2
     replace qa2 := eq_true qa2
     go_wp2
     go_roundg k3
     case measure => have := HJ3.out; have := HK2.out; have := HK3.out; omega
     case rel => exact ⟨(Go.bits .or .u64 x11_3 (ji16)), (rd (rd_L1 l1 x27_2) x33_3), (wrap64 (x33_3 + 1)), (by first | rfl | (simp; done) | (simp only [← hji16] <;> (first | rfl | simp)) | (simp [*]; done)), zF, zF, H', ⟨by have := HJ3.out; have := HK2.out; have := HK3.out; omega⟩, HM, ⟨zR HO_8.out⟩, ⟨zB HB.out⟩⟩
   replace H := zg H
   obtain ⟨c17, H⟩ := H
   have LMc17 := zk c17
   clear c17
   obtain ⟨ya3, hya3⟩ : ∃ y_ : List Int, y_ = (x8_2 ++ [x11_3]) := ⟨_, rfl⟩
   replace H : (mw_Design.l0 k3 a0 a2 ya3 l1 (l1.length : Int) (wrap64 (x27_2 + 1))) = some (r1, r2) := zY hya3 H
   have Nya3 := zk hya3
   clear hya3
   have H' := zk H
   clear H
   have cM := cell_of_one HM.out
   go_wp2_with (first | ((with_reducible refine gate_builtin (b := .append) (xs := #[.tmp 51, .tmp 53]) rfl ?_); at_builtin; refine Kd.R_append (Kd.int .u64) (w0 := w) w.heap.size rfl (.tmp 51) (.tmp 53) 101 37 (.int .u64 0) 8 rfl Try.underlying101 info37 rfl (by decide) (by omega) u8 x8_2 x11_3 [.int .u64 x11_3] (fun k_ => k_ ≠ wc.heap.size) (fun _ => False) rfl rfl ?aP (fun _ hk => hk.elim) ?aF ?aO ?aB ?aS ?aL ?_; (case aP => exact rfl); (case aB => exact (zB HB.out)); (case aF => exact (fun k_ hk_ e_ => by have h_ := lt_of_block HM.out; omega)); (case aO => exact (zR HO_8.out)); (case aS => exact (below_size (zB HB.out))); (case aL => have := LMc17.out; omega); intro va4 w18 ho hb hg hat; rw [← Nya3.out] at ho; replace HB := zk (hb); have HOa5 := zk (ho); have HM2 := zk ((hg.block _ (lt_of_block HM.out) (fun e => HO_8.out.1 _ e.symm rfl)).trans HM.out); have fM := free_of_one HM2.out; have cM2 := cell_of_one HM2.out; clear HO_8; clear ho hb hg hat; obtain ⟨Aoa5, coa5, rfl⟩ := Kd.R_slice HOa5.out))
   go_roundg k3
   case measure => have := HJ3.out; have := HK2.out; have := HK3.out; omega
   case rel => exact ⟨(ya3), (wrap64 (x27_2 + 1)), _, zF, H', ⟨by have := HJ3.out; have := HK2.out; have := HK3.out; omega⟩, ⟨one_setCell HM2.out⟩, ⟨Kd.R_far HOa5.out (p := ⟨wc.heap.size, 0, none⟩) (fun k_ hk_ => hk_) _⟩, ⟨HB.out.setCell HLe.out _⟩⟩
 have HC19 := zk H
 clear H
 go_upto_region 18 with (fail)
 go_cut [62] (fun v62 wd => ∃ (kq : Nat) (x62_18 : Bool), v62 = .bool x62_18 ∧ Aside0 (mw_Design.j3 kq a0 a2 x8_2 x62_18 = some (r1, r2)) ∧ Aside0 (kq ≤ k2) ∧ Aside0 (wd.heap[wc.heap.size]? = some (.cells #[u8] 101 (0, 0))) ∧ Aside0 (Kd.R (Kd.int .u64) 37 wd w.heap.size (fun k_ => k_ ≠ wc.heap.size) u8 x8_2) ∧ Aside0 (Below w.heap.size w wd))
 case first =>
  have H := HC19.out
  clear HC19
  replace H := zid H
  rcases H with ⟨c20b0, H⟩ | ⟨c20b0, H⟩
  · (first | rw [c20b0] | (simp only [i64_w, i32_w]; rw [c20b0]) | rw [c20b1] | skip)
    have H' := zk H
    clear H
    go_wp2
    go_meet
    case rel => exact ⟨_, (true), zF, H', ⟨by have := HJ3.out; have := HK2.out; first | omega | exact Nat.le_refl _⟩, HM, ⟨zR HO_8.out⟩, ⟨zB HB.out⟩⟩
  (first | rw [c20b0] | (simp only [i64_w, i32_w]; rw [c20b0]) | rw [c20b1] | skip)
  have H' := zk H
  clear H
  go_wp2
  go_meet
  case rel => exact ⟨_, (decide (a2 > a0)), zF, H', ⟨by have := HJ3.out; have := HK2.out; first | omega | exact Nat.le_refl _⟩, HM, ⟨zR HO_8.out⟩, ⟨zB HB.out⟩⟩
 clear HC19
 (try clear c5b0);(try clear c6);(try clear c7b0);(try clear c8b0);(try clear c9b0);(try clear c10b0);(try clear c11b0);(try clear c12b0);(try clear c13b0);(try clear c14);(try clear c14b0);(try clear c15);(try clear c15b0);(try clear c15b1);(try clear c17);(try clear c20b0);(try clear hxa1_0);(try clear hxa2_0);(try clear pa1);(try clear pa2);(try clear qa1);(try clear qa2)
 obtain ⟨kq, x62_18, rfl, HA, HJ18, HM, HO_8, HB⟩ := hcut
 cases kq with | zero => exact absurd HA.out (by simp [mw_Design.j3]) | succ kj18 => ?_
 have H := HA.out
 clear HA
 simp only [mw_Design.j3] at H
 by_cases c21 : x62_18 = true
 · subst c21
   rw [if_pos rfl] at H
   simp only [Option.some.injEq, Prod.mk.injEq] at H
   obtain ⟨rfl, rfl⟩ := H
   go_wp2
   go_ret2
   exact ⟨zE, zB HB.out⟩
 replace c21 := Bool.eq_false_iff.mpr c21
 subst c21
 rw [if_neg Bool.false_ne_true] at H
 replace H := zb H
 obtain ⟨⟨ta6, ta7⟩, A22, H⟩ := H
 dsimp only at H
 replace H := zb H
 obtain ⟨tb0, A23, H⟩ := H
 replace H := zb H
 obtain ⟨tb3, A24, H⟩ := H
 replace H := zi H
 rcases H with ⟨c25, H⟩ | ⟨c25, H⟩
 · have c25b0 : decide (0 < tb3) = true := decide_eq_true c25
   clear c25
   simp only [Option.some.injEq, Prod.mk.injEq] at H
   obtain ⟨rfl, rfl⟩ := H
   go_wp2_with (first | ((with_reducible refine gC 72 ?_); refine zG (some 66) Try.func72 #[.int .i64 a0, .int .i64 a2] ?_; (with_reducible refine (nat_Binomial.calls kj18 a0 a2 ta6 ta7 _ A22.out).mono ?_); rintro e w26 ⟨va8, rfl, ho0, hb⟩; refine ⟨_, rfl, ?_⟩; replace HO_8 := yRb HO_8 hb; have HOa9 := yRl ho0 HB; replace HB := yS HB hb; (try clear hb ho0)) | ((with_reducible refine gC 80 ?_); refine zG (some 70) Try.func80 #[.int .u64 65536] ?_; (with_reducible refine (nat_Of.calls kj18 65536 tb0 _ A23.out).mono ?_); rintro e w27 ⟨vb1, rfl, ho0, hb⟩; refine ⟨_, rfl, ?_⟩; replace HO_8 := yRb HO_8 hb; replace ho0 := yn ho0 HOa9; have HOb2 := yRl ho0 HB; replace HOa9 := yRe HOa9 ho0 hb; replace HB := yS HB hb; (try clear hb ho0); obtain ⟨Ao28, co28, rfl⟩ := Kd.R_slice HOa9.out; obtain ⟨Ao29, co29, rfl⟩ := Kd.R_slice HOb2.out) | ((with_reducible refine gC 79 ?_); refine zG (some 71) Try.func79 #[.slice Ao28 ta6.length co28, .slice Ao29 tb0.length co29] ?_; (with_reducible refine (nat_Cmp.calls kj18 _ _ ta6 _ _ tb0 tb3 _ ?side1 ?side2 ?side3 ?side4 A24.out).mono ?_); (case side1 => exact zC (Kd.R_reads' HOa9.out).2.2); (case side2 => exact (Kd.R_reads' HOa9.out).2.1); (case side3 => exact zC (Kd.R_reads' HOb2.out).2.2); (case side4 => exact (Kd.R_reads' HOb2.out).2.1); rintro e w30 ⟨rfl, hb⟩; refine ⟨_, rfl, ?_⟩; replace HO_8 := yRb HO_8 hb; replace HOa9 := yRb HOa9 hb; replace HOb2 := yRb HOb2 hb; replace HB := yS HB hb; (try clear hb); (try clear hb2); (try clear hk); (try clear hi)))
   go_ret2
   exact ⟨zE, zB HB.out⟩
 have c25b0 : decide (0 < tb3) = false := decide_eq_false c25
 clear c25
 obtain ⟨⟨q1, q2, q3⟩, A36, H⟩ := Option.bind_eq_some_iff.mp H
 have A37 := zk A36
 clear A36
 dsimp only at H
 cases q3 with
 | true =>
  rw [if_pos rfl] at H
  simp only [Option.some.injEq, Prod.mk.injEq] at H
  obtain ⟨rfl, rfl⟩ := H
  go_wp2_with (first | ((with_reducible refine gC 72 ?_); refine zG (some 66) Try.func72 #[.int .i64 a0, .int .i64 a2] ?_; (with_reducible refine (nat_Binomial.calls kj18 a0 a2 ta6 ta7 _ A22.out).mono ?_); rintro e w31 ⟨va8, rfl, ho0, hb⟩; refine ⟨_, rfl, ?_⟩; replace HO_8 := yRb HO_8 hb; replace HM := yM HM hb; have HOa9 := yRl ho0 HB; replace HB := yS HB hb; (try clear hb ho0)) | ((with_reducible refine gC 80 ?_); refine zG (some 70) Try.func80 #[.int .u64 65536] ?_; (with_reducible refine (nat_Of.calls kj18 65536 tb0 _ A23.out).mono ?_); rintro e w32 ⟨vb1, rfl, ho0, hb⟩; refine ⟨_, rfl, ?_⟩; replace HO_8 := yRb HO_8 hb; replace HM := yM HM hb; replace ho0 := yn ho0 HOa9; have HOb2 := yRl ho0 HB; replace HOa9 := yRe HOa9 ho0 hb; replace HB := yS HB hb; (try clear hb ho0); obtain ⟨Ao33, co33, rfl⟩ := Kd.R_slice HOa9.out; obtain ⟨Ao34, co34, rfl⟩ := Kd.R_slice HOb2.out) | ((with_reducible refine gC 79 ?_); refine zG (some 71) Try.func79 #[.slice Ao33 ta6.length co33, .slice Ao34 tb0.length co34] ?_; (with_reducible refine (nat_Cmp.calls kj18 _ _ ta6 _ _ tb0 tb3 _ ?side1 ?side2 ?side3 ?side4 A24.out).mono ?_); (case side1 => exact zC (Kd.R_reads' HOa9.out).2.2); (case side2 => exact (Kd.R_reads' HOa9.out).2.1); (case side3 => exact zC (Kd.R_reads' HOb2.out).2.2); (case side4 => exact (Kd.R_reads' HOb2.out).2.1); rintro e w35 ⟨rfl, hb⟩; refine ⟨_, rfl, ?_⟩; replace HO_8 := yRb HO_8 hb; replace HM := yM HM hb; replace HOa9 := yRb HOa9 hb; replace HOb2 := yRb HOb2 hb; replace HB := yS HB hb; (try clear hb); (try clear hb2); (try clear hk); (try clear hi); obtain ⟨Ao36, co36, rfl⟩ := Kd.R_slice HO_8.out) | (go_at_call 81; refine (mw_subsets.calls kj18 _ _ _ Ao36 co36 x8_2 a0 a2 0 0 (-1) true q1 q2 true _ (cap_new HM.out HO_8.out) A37.out).mono ?_; rintro e w38 ⟨rfl, h1, h2, h3⟩; have cS := cell_of_one h2; have cC := cell_of_one h1; replace HB := zk (sub_below HB.out h3); clear h1 h2 h3))
  go_ret2
  exact ⟨zE, zB HB.out⟩
 | false =>
  rw [if_neg Bool.false_ne_true] at H
  simp only [Option.some.injEq, Prod.mk.injEq] at H
  obtain ⟨rfl, rfl⟩ := H
  go_wp2_with (first | ((with_reducible refine gC 72 ?_); refine zG (some 66) Try.func72 #[.int .i64 a0, .int .i64 a2] ?_; (with_reducible refine (nat_Binomial.calls kj18 a0 a2 ta6 ta7 _ A22.out).mono ?_); rintro e w31 ⟨va8, rfl, ho0, hb⟩; refine ⟨_, rfl, ?_⟩; replace HO_8 := yRb HO_8 hb; replace HM := yM HM hb; have HOa9 := yRl ho0 HB; replace HB := yS HB hb; (try clear hb ho0)) | ((with_reducible refine gC 80 ?_); refine zG (some 70) Try.func80 #[.int .u64 65536] ?_; (with_reducible refine (nat_Of.calls kj18 65536 tb0 _ A23.out).mono ?_); rintro e w32 ⟨vb1, rfl, ho0, hb⟩; refine ⟨_, rfl, ?_⟩; replace HO_8 := yRb HO_8 hb; replace HM := yM HM hb; replace ho0 := yn ho0 HOa9; have HOb2 := yRl ho0 HB; replace HOa9 := yRe HOa9 ho0 hb; replace HB := yS HB hb; (try clear hb ho0); obtain ⟨Ao33, co33, rfl⟩ := Kd.R_slice HOa9.out; obtain ⟨Ao34, co34, rfl⟩ := Kd.R_slice HOb2.out) | ((with_reducible refine gC 79 ?_); refine zG (some 71) Try.func79 #[.slice Ao33 ta6.length co33, .slice Ao34 tb0.length co34] ?_; (with_reducible refine (nat_Cmp.calls kj18 _ _ ta6 _ _ tb0 tb3 _ ?side1 ?side2 ?side3 ?side4 A24.out).mono ?_); (case side1 => exact zC (Kd.R_reads' HOa9.out).2.2); (case side2 => exact (Kd.R_reads' HOa9.out).2.1); (case side3 => exact zC (Kd.R_reads' HOb2.out).2.2); (case side4 => exact (Kd.R_reads' HOb2.out).2.1); rintro e w35 ⟨rfl, hb⟩; refine ⟨_, rfl, ?_⟩; replace HO_8 := yRb HO_8 hb; replace HM := yM HM hb; replace HOa9 := yRb HOa9 hb; replace HOb2 := yRb HOb2 hb; replace HB := yS HB hb; (try clear hb); (try clear hb2); (try clear hk); (try clear hi); obtain ⟨Ao36, co36, rfl⟩ := Kd.R_slice HO_8.out) | (go_at_call 81; refine (mw_subsets.calls kj18 _ _ _ Ao36 co36 x8_2 a0 a2 0 0 (-1) true q1 q2 false _ (cap_new HM.out HO_8.out) A37.out).mono ?_; rintro e w38 ⟨rfl, h1, h2, h3⟩; have cS := cell_of_one h2; have cC := cell_of_one h1; replace HB := zk (sub_below HB.out h3); clear h1 h2 h3))
  go_ret2
  exact ⟨zE, zB HB.out⟩
set_option maxHeartbeats 8000000 in
set_option maxRecDepth 100000 in
theorem r24_Block.calls (k : Nat) (a0 : Int) (A1 : Option Addr) (c1 : Nat) (l1 : List Int) (r : Bool) (w : World) (hr1 : Kd.C (Kd.int .i64) w A1 l1.length l1) (hc1 : l1.length ≤ c1) (h : r24_Block.f k a0 l1 = some r) :
    Calls Try.prog 32 #[.int .i64 a0, .slice A1 l1.length c1] w fun e w' => e = .returned (.bool r) ∧ Drawn0 w w' := by
 have HR1 := zk hr1
 have HC1 := zk hc1
 clear hr1 hc1
 have H := h
 clear h
 unfold r24_Block.f at H
 have H' := zk H
 clear H
 go_enter Try.func32, Try.ntmps32
 go_wp2
 repeat (go_quiet (fail); try go_wp2)
 go_loopg [5] k (fun kq v5 w' => ∃ (x5_1 : Int), v5 = .int .i64 x5_1 ∧ Aside0 (r24_Block.l0 kq a0 l1 x5_1 = some r) ∧ Aside0 (kq ≤ k) ∧ Drawn0 w w')
 case atStart => exact ⟨(0), zF, H', ⟨Nat.le_refl _⟩, by repeat (first | exact Drawn0.refl _ | apply Drawn0.step)⟩
 clear H'
 obtain ⟨x5_1, rfl, HA, HK1, ⟨m1, rfl⟩⟩ := hrel
 cases gk with | zero => exact absurd HA.out (by simp [r24_Block.l0]) | succ k1 => ?_
 have H := HA.out
 clear HA
 simp only [r24_Block.l0] at H
 replace H := zid H
 rcases H with ⟨c3b0, H⟩ | ⟨c3b0, H⟩
 · replace H := zgd H
   obtain ⟨c4b0, H⟩ := H
   replace H := zid H
   rcases H with ⟨c5b0, H⟩ | ⟨c5b0, H⟩
   · obtain rfl := Option.some.inj H
     have pa1 : 0 ≤ (x5_1 : Int) := zd
     have qa1 : x5_1 < (l1.length : Int) := zd
     obtain ⟨ada1, ea1, hxa1_0⟩ := Kd.at_int HR1.out x5_1 pa1 qa1
     cases ea1
     replace pa1 := eq_true pa1
     replace qa1 := eq_true qa1
     go_wp2
     repeat (go_quiet (fail); try go_wp2)
     go_ret
     exact ⟨zF, by repeat (first | exact Drawn0.refl _ | apply Drawn0.step)⟩
   replace H := zi H
   rcases H with ⟨c6, H⟩ | ⟨c6, H⟩
   · have c6b0 : decide (a0 ≤ (rd l1 x5_1)) = true := decide_eq_true c6
     clear c6
     obtain rfl := Option.some.inj H
     have pa1 : 0 ≤ (x5_1 : Int) := zd
     have qa1 : x5_1 < (l1.length : Int) := zd
     obtain ⟨ada1, ea1, hxa1_0⟩ := Kd.at_int HR1.out x5_1 pa1 qa1
     cases ea1
     replace pa1 := eq_true pa1
     replace qa1 := eq_true qa1
     have pa2 : 0 ≤ (x5_1 : Int) := zd
     have qa2 : x5_1 < (l1.length : Int) := zd
     obtain ⟨ada2, ea2, hxa2_0⟩ := Kd.at_int HR1.out x5_1 pa2 qa2
     obtain rfl : ada1 = ada2 := (by injection ea2)
     replace pa2 := eq_true pa2
     replace qa2 := eq_true qa2
     go_wp2
     repeat (go_quiet (fail); try go_wp2)
     go_ret
     exact ⟨zF, by repeat (first | exact Drawn0.refl _ | apply Drawn0.step)⟩
   have c6b0 : decide (a0 ≤ (rd l1 x5_1)) = false := decide_eq_false c6
   clear c6
   replace H := zi H
   rcases H with ⟨c7, H⟩ | ⟨c7, H⟩
   · have c7b0 : decide (0 < x5_1) = true := decide_eq_true c7
     clear c7
     obtain ⟨ji8, hji8⟩ : ∃ j_ : Int, (wrap64 (x5_1 - 1)) = j_ := ⟨_, rfl⟩
     replace H : (if 0 ≤ (ji8) then (if (ji8) < (l1.length : Int) then (if (rd l1 x5_1) ≤ (rd l1 (ji8)) then (some false) else (r24_Block.l0 k1 a0 l1 (wrap64 (x5_1 + 1)))) else (none)) else (none)) = some r := by first | (rw [hji8] at H; exact H) | (simp only [hji8] at H ⊢; exact H)
     have hji8w : (IntKind.i64.wrap (x5_1 - 1)) = ji8 := (i64_w _).trans hji8
     replace H := zgd H
     obtain ⟨c9b0, H⟩ := H
     replace H := zgd H
     obtain ⟨c10b0, H⟩ := H
     replace H := zid H
     rcases H with ⟨c11b0, H⟩ | ⟨c11b0, H⟩
     · obtain rfl := Option.some.inj H
       have pa1 : 0 ≤ (x5_1 : Int) := zd
       have qa1 : x5_1 < (l1.length : Int) := zd
       obtain ⟨ada1, ea1, hxa1_0⟩ := Kd.at_int HR1.out x5_1 pa1 qa1
       cases ea1
       replace pa1 := eq_true pa1
       replace qa1 := eq_true qa1
       have pa2 : 0 ≤ (x5_1 : Int) := zd
       have qa2 : x5_1 < (l1.length : Int) := zd
       obtain ⟨ada2, ea2, hxa2_0⟩ := Kd.at_int HR1.out x5_1 pa2 qa2
       obtain rfl : ada1 = ada2 := (by injection ea2)
       replace pa2 := eq_true pa2
       replace qa2 := eq_true qa2
       have pa3 : 0 ≤ (x5_1 : Int) := zd
       have qa3 : x5_1 < (l1.length : Int) := zd
       obtain ⟨ada3, ea3, hxa3_0⟩ := Kd.at_int HR1.out x5_1 pa3 qa3
       obtain rfl : ada1 = ada3 := (by injection ea3)
       replace pa3 := eq_true pa3
       replace qa3 := eq_true qa3
       have pa4 : 0 ≤ ((ji8) : Int) := zd
       have qa4 : (ji8) < (l1.length : Int) := zd
       obtain ⟨ada4, ea4, hxa4_0⟩ := Kd.at_int HR1.out (ji8) pa4 qa4
       obtain rfl : ada1 = ada4 := (by injection ea4)
       replace pa4 := eq_true pa4
       replace qa4 := eq_true qa4
       go_wp2
       repeat (go_quiet (fail); try go_wp2)
       go_ret
       exact ⟨by first | rfl | (simp; done) | (simp only [← hji8] <;> (first | rfl | simp)) | (simp [*]; done), by repeat (first | exact Drawn0.refl _ | apply Drawn0.step)⟩
     have H' := zk H
     clear H
     have pa1 : 0 ≤ (x5_1 : Int) := zd
     have qa1 : x5_1 < (l1.length : Int) := zd
     obtain ⟨ada1, ea1, hxa1_0⟩ := Kd.at_int HR1.out x5_1 pa1 qa1
     cases ea1
     replace pa1 := eq_true pa1
     replace qa1 := eq_true qa1
     have pa2 : 0 ≤ (x5_1 : Int) := zd
     have qa2 : x5_1 < (l1.length : Int) := zd
     obtain ⟨ada2, ea2, hxa2_0⟩ := Kd.at_int HR1.out x5_1 pa2 qa2
     obtain rfl : ada1 = ada2 := (by injection ea2)
     replace pa2 := eq_true pa2
     replace qa2 := eq_true qa2
     have pa3 : 0 ≤ (x5_1 : Int) := zd
     have qa3 : x5_1 < (l1.length : Int) := zd
     obtain ⟨ada3, ea3, hxa3_0⟩ := Kd.at_int HR1.out x5_1 pa3 qa3
     obtain rfl : ada1 = ada3 := (by injection ea3)
     replace pa3 := eq_true pa3
     replace qa3 := eq_true qa3
     have pa4 : 0 ≤ ((ji8) : Int) := zd
     have qa4 : (ji8) < (l1.length : Int) := zd
     obtain ⟨ada4, ea4, hxa4_0⟩ := Kd.at_int HR1.out (ji8) pa4 qa4
     obtain rfl : ada1 = ada4 := (by injection ea4)
     replace pa4 := eq_true pa4
     replace qa4 := eq_true qa4
     go_wp2
     repeat (go_quiet (fail); try go_wp2)
     go_roundg k1
     case measure => have := HK1.out; omega
     case rel => exact ⟨(wrap64 (x5_1 + 1)), zF, H', ⟨zo1 HK1⟩, by repeat (first | exact Drawn0.refl _ | apply Drawn0.step)⟩
   have c7b0 : decide (0 < x5_1) = false := decide_eq_false c7
   clear c7
   have H' := zk H
   clear H
   have pa1 : 0 ≤ (x5_1 : Int) := zd
   have qa1 : x5_1 < (l1.length : Int) := zd
   obtain ⟨ada1, ea1, hxa1_0⟩ := Kd.at_int HR1.out x5_1 pa1 qa1
   cases ea1
   replace pa1 := eq_true pa1
   replace qa1 := eq_true qa1
   have pa2 : 0 ≤ (x5_1 : Int) := zd
   have qa2 : x5_1 < (l1.length : Int) := zd
   obtain ⟨ada2, ea2, hxa2_0⟩ := Kd.at_int HR1.out x5_1 pa2 qa2
   obtain rfl : ada1 = ada2 := (by injection ea2)
   replace pa2 := eq_true pa2
   replace qa2 := eq_true qa2
   go_wp2
   repeat (go_quiet (fail); try go_wp2)
   go_roundg k1
   case measure => have := HK1.out; omega
   case rel => exact ⟨(wrap64 (x5_1 + 1)), zF, H', ⟨zo1 HK1⟩, by repeat (first | exact Drawn0.refl _ | apply Drawn0.step)⟩
 obtain rfl := Option.some.inj H
 go_wp2
 repeat (go_quiet (fail); try go_wp2)
 go_ret
 exact ⟨zF, by repeat (first | exact Drawn0.refl _ | apply Drawn0.step)⟩
mutual
def w24_MacwilliamsDerived.l0 : Nat → List (List Int) → Int → Int → Int → List (List Int) → Int → Option (Bool)
  | 0, _, _, _, _, _, _ => none
  | k + 1, x0, x9, x10, x11, x12, x13 => if x13 < (x0.length : Int) then (if 0 ≤ x13 then (if ((rd_L1 x0 x13).length : Int) = x10 then ((r24_Block.f k x9 (rd_L1 x0 x13)).bind fun ta4 => (if ta4 = true then (if x12.length < 5864062014805 then (w24_MacwilliamsDerived.l0 k x0 x9 x10 x11 (x12 ++ [(rd_L1 x0 x13)]) (wrap64 (x13 + 1))) else (none)) else (w24_MacwilliamsDerived.l0 k x0 x9 x10 x11 x12 (wrap64 (x13 + 1))))) else (w24_MacwilliamsDerived.l0 k x0 x9 x10 x11 x12 (wrap64 (x13 + 1)))) else (none)) else ((mw_Design.f k x9 x12 x11).bind fun btb2 => ((mw_Design.f k x9 x12 (wrap64 (x11 - 1))).bind fun btb4 => ((mw_Design.f k x9 x12 0).bind fun btb6 => (if btb6.2 = 0 then (w24_MacwilliamsDerived.j1 k x9 x10 x11 btb2.1 btb2.2 btb4.1 btb4.2 (btb6.1 != (x12.length : Int))) else (w24_MacwilliamsDerived.j1 k x9 x10 x11 btb2.1 btb2.2 btb4.1 btb4.2 true)))))
def w24_MacwilliamsDerived.j1 : Nat → Int → Int → Int → Int → Int → Int → Int → Bool → Option (Bool)
  | 0, _, _, _, _, _, _, _, _ => none
  | k + 1, x9, x10, x11, x14, x15, x16, x17, x94 => if x94 = true then (some false) else ((mw_Design.f k 2 (([(([0] : List Int)), (([1] : List Int))] : List (List Int))) 1).bind fun btc7 => (if btc7.2 = 0 then (w24_MacwilliamsDerived.j2 k x9 x10 x11 x14 x15 x16 x17 (btc7.1 != 1)) else (w24_MacwilliamsDerived.j2 k x9 x10 x11 x14 x15 x16 x17 true)))
def w24_MacwilliamsDerived.j2 : Nat → Int → Int → Int → Int → Int → Int → Int → Bool → Option (Bool)
  | 0, _, _, _, _, _, _, _, _ => none
  | k + 1, x9, x10, x11, x14, x15, x16, x17, xa7 => if xa7 = true then (some false) else (if x15 = 0 then (if x17 = 0 then (some ((wrap64 (x16 * (wrap64 ((wrap64 (x10 - x11)) + 1)))) == (wrap64 (x14 * (wrap64 ((wrap64 (x9 - x11)) + 1)))))) else (some false)) else (if x15 = 11 then (some (x14 == 0)) else (some false)))
end
def w24_MacwilliamsDerived.f (k : Nat) (l0 : List (List Int)) (a1 : Int) (a2 : Int) (a3 : Int) : Option (Bool) := (w24_crowded.f k l0).bind fun ta1 => (if ta1 = true then (some true) else (if (wrap64 ((Int.tmod (wrap64 (a1)) 9) + 1)) = 0 then (none) else (if (wrap64 ((Int.tmod (wrap64 (a2)) (wrap64 ((Int.tmod (wrap64 (a1)) 9) + 1))) + 1)) = 0 then (none) else (w24_MacwilliamsDerived.l0 k l0 (wrap64 ((Int.tmod (wrap64 (a1)) 9) + 1)) (wrap64 ((Int.tmod (wrap64 (a2)) (wrap64 ((Int.tmod (wrap64 (a1)) 9) + 1))) + 1)) (wrap64 ((Int.tmod (wrap64 (a3)) (wrap64 ((Int.tmod (wrap64 (a2)) (wrap64 ((Int.tmod (wrap64 (a1)) 9) + 1))) + 1))) + 1)) ([] : List (List Int)) 0))))
set_option maxHeartbeats 8000000 in
set_option maxRecDepth 100000 in
theorem w24_MacwilliamsDerived.calls (k : Nat) (A0 : Option Addr) (c0 : Nat) (l0 : List (List Int)) (a1 : Int) (a2 : Int) (a3 : Int) (r : Bool) (w : World) (hr0 : Kd.C (Kd.slice 3 (Kd.int .i64)) w A0 l0.length l0) (hc0 : l0.length ≤ c0) (h : w24_MacwilliamsDerived.f k l0 a1 a2 a3 = some r) :
    Calls Try.prog 5 #[.slice A0 l0.length c0, .int .u8 a1, .int .u8 a2, .int .u8 a3] w fun e w' => e = .returned (.bool r) ∧ Below w.heap.size w w' := by
 have HR0 := zk hr0
 have HC0 := zk hc0
 clear hr0 hc0
 have HB := zk (Below.refl w.heap.size w)
 have H := h
 clear h
 unfold w24_MacwilliamsDerived.f at H
 replace H := zb H
 obtain ⟨ta1, A5, H⟩ := H
 by_cases c6 : ta1 = true
 · subst c6
   rw [if_pos rfl] at H
   obtain rfl := Option.some.inj H
   go_enter Try.func5, Try.ntmps5
   go_wp2_with (first | ((with_reducible refine gC 28 ?_); refine zG (some 23) Try.func28 #[.slice A0 l0.length c0] ?_; (with_reducible refine (w24_crowded.calls k _ _ l0 true _ ?side1 ?side2 A5.out).mono ?_); (case side1 => exact zC HR0.out); (case side2 => exact HC0.out); rintro e w' ⟨rfl, ⟨nd, rfl⟩⟩; refine ⟨_, rfl, ?_⟩))
   go_ret
   exact ⟨zE, zB HB.out⟩
 replace c6 := Bool.eq_false_iff.mpr c6
 subst c6
 rw [if_neg Bool.false_ne_true] at H
 replace H := zh H
 obtain ⟨c7, H⟩ := H
 have c7b0 := beq_eq_false_iff_ne.mpr c7
 have c7b1 := bne_iff_ne.mpr c7
 replace H := zh H
 obtain ⟨c8, H⟩ := H
 have c8b0 := beq_eq_false_iff_ne.mpr c8
 have c8b1 := bne_iff_ne.mpr c8
 have H' := zk H
 clear H
 go_enter Try.func5, Try.ntmps5
 go_wp2_with (first | ((with_reducible refine gC 28 ?_); refine zG (some 23) Try.func28 #[.slice A0 l0.length c0] ?_; (with_reducible refine (w24_crowded.calls k _ _ l0 false _ ?side1 ?side2 A5.out).mono ?_); (case side1 => exact zC HR0.out); (case side2 => exact HC0.out); rintro e w' ⟨rfl, ⟨nd, rfl⟩⟩; refine ⟨_, rfl, ?_⟩))
 go_loopg [12, 13] k (fun kq v12 v13 w' => ∃ (x12_1 : List (List Int)) (x13_1 : Int), v13 = .int .i64 x13_1 ∧ Aside0 (w24_MacwilliamsDerived.l0 kq l0 (wrap64 ((Int.tmod (wrap64 (a1)) 9) + 1)) (wrap64 ((Int.tmod (wrap64 (a2)) (wrap64 ((Int.tmod (wrap64 (a1)) 9) + 1))) + 1)) (wrap64 ((Int.tmod (wrap64 (a3)) (wrap64 ((Int.tmod (wrap64 (a2)) (wrap64 ((Int.tmod (wrap64 (a1)) 9) + 1))) + 1))) + 1)) x12_1 x13_1 = some r) ∧ Aside0 (kq ≤ k) ∧ Aside0 (Kd.N (Kd.slice 3 (Kd.int .i64)) 22 w' w.heap.size (fun _ => True) v12 x12_1) ∧ Aside0 (Below w.heap.size w w'))
 case atStart => exact ⟨(([] : List (List Int))), (0), zF, H', ⟨Nat.le_refl _⟩, ⟨by first | exact Kd.S_nil _ _ _ _ _ | exact Kd.N_nil _ _ _ _ _ | exact Kd.V_nil _ _ _ _ _ | exact Kd.Q_nil _ _ _ _ _ | exact Kd.R_nil _ _ _ _ _⟩, ⟨zB HB.out⟩⟩
 clear H'
 (try clear c6);(try clear c7);(try clear c7b0);(try clear c7b1);(try clear c8);(try clear c8b0);(try clear c8b1)
 obtain ⟨x12_1, x13_1, rfl, HA, HK1, HO_12, HB⟩ := hrel
 cases gk with | zero => exact absurd HA.out (by simp [w24_MacwilliamsDerived.l0]) | succ k1 => ?_
 have H := HA.out
 clear HA
 simp only [w24_MacwilliamsDerived.l0] at H
 replace H := zid H
 rcases H with ⟨c9b0, H⟩ | ⟨c9b0, H⟩
 · replace H := zgd H
   obtain ⟨c10b0, H⟩ := H
   replace H := zi H
   rcases H with ⟨c11, H⟩ | ⟨c11, H⟩
   · have c11b0 := beq_iff_eq.mpr c11
     have c11b1 := bne_eq_false_iff_eq.mpr c11
     clear c11
     replace H := zb H
     obtain ⟨ta4, A12, H⟩ := H
     by_cases c13 : ta4 = true
     · subst c13
       rw [if_pos rfl] at H
       replace H := zg H
       obtain ⟨c14, H⟩ := H
       have LMc14 := zk c14
       clear c14
       obtain ⟨ya9, hya9⟩ : ∃ y_ : List (List Int), y_ = (x12_1 ++ [rd_L1 l0 x13_1]) := ⟨_, rfl⟩
       replace H : (w24_MacwilliamsDerived.l0 k1 l0 (wrap64 ((Int.tmod (wrap64 (a1)) 9) + 1)) (wrap64 ((Int.tmod (wrap64 (a2)) (wrap64 ((Int.tmod (wrap64 (a1)) 9) + 1))) + 1)) (wrap64 ((Int.tmod (wrap64 (a3)) (wrap64 ((Int.tmod (wrap64 (a2)) (wrap64 ((Int.tmod (wrap64 (a1)) 9) + 1))) + 1))) + 1)) ya9 (wrap64 (x13_1 + 1))) = some r := zY hya9 H
       have Nya9 := zk hya9
       clear hya9
       have H' := zk H
       clear H
       have pa2 : 0 ≤ (x13_1 : Int) := zd
       have qa2 : x13_1 < (l0.length : Int) := zd
       obtain ⟨ada2, Aa2_0, ca2_0, ea2, hxa2_0, hla2_0, hia2_0⟩ := at_L1 HR0.out x13_1 pa2 qa2
       cases ea2
       replace hxa2_0 := (HB.out.cell (World.block_lt_of_cell? w _ hxa2_0)).trans hxa2_0
       have HRa2_0 := zk hia2_0
       have HCa2_0 := zk hla2_0
       clear hia2_0 hla2_0
       replace pa2 := eq_true pa2
       replace qa2 := eq_true qa2
       have pa3 : 0 ≤ (x13_1 : Int) := zd
       have qa3 : x13_1 < (l0.length : Int) := zd
       obtain ⟨ada3, Aa3_0, ca3_0, ea3, hxa3_0, hla3_0, hia3_0⟩ := at_L1 HR0.out x13_1 pa3 qa3
       obtain rfl : ada2 = ada3 := (by injection ea3)
       replace hxa3_0 := (HB.out.cell (World.block_lt_of_cell? w _ hxa3_0)).trans hxa3_0
       have HRa3_0 := zk hia3_0
       have HCa3_0 := zk hla3_0
       clear hia3_0 hla3_0
       replace pa3 := eq_true pa3
       replace qa3 := eq_true qa3
       have ea_ := Option.some.inj (hxa2_0.symm.trans hxa3_0)
       injection ea_ with ea_ en_ ec_
       subst ea_
       subst ec_
       clear en_
       go_wp2_with (first | (go_at_call 32; (with_reducible refine (r24_Block.calls k1 (wrap64 ((Int.tmod (wrap64 (a1)) 9) + 1)) _ _ (rd_L1 l0 x13_1) true _ ?side1 ?side2 A12.out).mono ?_); (case side1 => exact zC (Kd.C_below HRa3_0.out HB.out)); (case side2 => exact HCa3_0.out); rintro e w' ⟨rfl, ⟨nd, rfl⟩⟩; have pa5 : 0 ≤ (x13_1 : Int) := zd; have qa5 : x13_1 < (l0.length : Int) := zd; obtain ⟨ada5, Aa5_0, ca5_0, ea5, hxa5_0, hla5_0, hia5_0⟩ := at_L1 HR0.out x13_1 pa5 qa5; obtain rfl : ada2 = ada5 := (by injection ea5); replace hxa5_0 := (HB.out.cell (World.block_lt_of_cell? w _ hxa5_0)).trans hxa5_0; have HRa5_0 := zk hia5_0; have HCa5_0 := zk hla5_0; clear hia5_0 hla5_0; replace pa5 := eq_true pa5; replace qa5 := eq_true qa5; have ea_ := Option.some.inj (hxa2_0.symm.trans hxa5_0); injection ea_ with ea_ en_ ec_; subst ea_; subst ec_; clear en_) | ((with_reducible refine gate_builtin (b := .append) (xs := #[.tmp 59, .tmp 64]) rfl ?_); (try (refine gate_guard (by rfl) ?_; dsimp only)); at_builtin; refine Kd.N_append (Kd.slice 3 (Kd.int .i64)) (w0 := w) w.heap.size rfl (.tmp 59) (.tmp 64) 25 22 (.slice none 0 0) 24 rfl Try.underlying25 info22 rfl (by decide) (by omega) u12 x12_1 (rd_L1 l0 x13_1) [.slice Aa2_0 (rd_L1 l0 x13_1).length ca2_0] (fun _ => True) (fun k_ => ((fun _ => True)) k_ ∧ some k_ ≠ (u12 : Value).ownBlock) rfl rfl ?aP (fun _ hk => hk) ?aF ?aO ?aB ?aS ?aL ?_; (case aP => exact Kd.FK_slice_mk HCa2_0.out (Kd.F_below (Kd.F_mono (Kd.C_F (Kd.heap_int .i64) HRa2_0.out) (fun k_ hk_ => ⟨trivial, fun e_ => by have h_ := Kd.N_base HO_12.out k_ e_.symm; omega⟩)) (zB HB.out))); (case aB => exact (zB HB.out)); (case aF => exact (fun _ _ => trivial)); (case aO => exact (by (with_reducible repeat (first | apply Kd.N_alloc | apply Kd.N_drewN | apply Kd.N_drew)); exact Kd.N_mono HO_12.out (fun _ hk => trivial))); (case aS => exact (below_size (zB HB.out))); (case aL => have := LMc14.out; omega); intro vb0 w17 ho hb hg hat; rw [← Nya9.out] at ho; replace HB := zk (hb); have HOb1 := zk (ho); clear HO_12; clear ho hb hg hat))
       go_roundg k1
       case measure => have := HK1.out; omega
       case rel => exact ⟨(ya9), (wrap64 (x13_1 + 1)), zF, H', ⟨zo1 HK1⟩, ⟨zN HOb1.out⟩, ⟨zB HB.out⟩⟩
     replace c13 := Bool.eq_false_iff.mpr c13
     subst c13
     rw [if_neg Bool.false_ne_true] at H
     have H' := zk H
     clear H
     have pa2 : 0 ≤ (x13_1 : Int) := zd
     have qa2 : x13_1 < (l0.length : Int) := zd
     obtain ⟨ada2, Aa2_0, ca2_0, ea2, hxa2_0, hla2_0, hia2_0⟩ := at_L1 HR0.out x13_1 pa2 qa2
     cases ea2
     replace hxa2_0 := (HB.out.cell (World.block_lt_of_cell? w _ hxa2_0)).trans hxa2_0
     have HRa2_0 := zk hia2_0
     have HCa2_0 := zk hla2_0
     clear hia2_0 hla2_0
     replace pa2 := eq_true pa2
     replace qa2 := eq_true qa2
     have pa3 : 0 ≤ (x13_1 : Int) := zd
     have qa3 : x13_1 < (l0.length : Int) := zd
     obtain ⟨ada3, Aa3_0, ca3_0, ea3, hxa3_0, hla3_0, hia3_0⟩ := at_L1 HR0.out x13_1 pa3 qa3
     obtain rfl : ada2 = ada3 := (by injection ea3)
     replace hxa3_0 := (HB.out.cell (World.block_lt_of_cell? w _ hxa3_0)).trans hxa3_0
     have HRa3_0 := zk hia3_0
     have HCa3_0 := zk hla3_0
     clear hia3_0 hla3_0
     replace pa3 := eq_true pa3
     replace qa3 := eq_true qa3
     have ea_ := Option.some.inj (hxa2_0.symm.trans hxa3_0)
     injection ea_ with ea_ en_ ec_
     subst ea_
     subst ec_
     clear en_
     go_wp2_with (first | (go_at_call 32; (with_reducible refine (r24_Block.calls k1 (wrap64 ((Int.tmod (wrap64 (a1)) 9) + 1)) _ _ (rd_L1 l0 x13_1) false _ ?side1 ?side2 A12.out).mono ?_); (case side1 => exact zC (Kd.C_below HRa3_0.out HB.out)); (case side2 => exact HCa3_0.out); rintro e w' ⟨rfl, ⟨nd, rfl⟩⟩))
     go_roundg k1
     case measure => have := HK1.out; omega
     case rel => exact ⟨(x12_1), (wrap64 (x13_1 + 1)), zF, H', ⟨zo1 HK1⟩, ⟨zN HO_12.out⟩, ⟨zB HB.out⟩⟩
   have c11b0 := beq_eq_false_iff_ne.mpr c11
   have c11b1 := bne_iff_ne.mpr c11
   have H' := zk H
   clear H
   have pa2 : 0 ≤ (x13_1 : Int) := zd
   have qa2 : x13_1 < (l0.length : Int) := zd
   obtain ⟨ada2, Aa2_0, ca2_0, ea2, hxa2_0, hla2_0, hia2_0⟩ := at_L1 HR0.out x13_1 pa2 qa2
   cases ea2
   replace hxa2_0 := (HB.out.cell (World.block_lt_of_cell? w _ hxa2_0)).trans hxa2_0
   have HRa2_0 := zk hia2_0
   have HCa2_0 := zk hla2_0
   clear hia2_0 hla2_0
   replace pa2 := eq_true pa2
   replace qa2 := eq_true qa2
   go_wp2
   go_roundg k1
   case measure => have := HK1.out; omega
   case rel => exact ⟨(x12_1), (wrap64 (x13_1 + 1)), zF, H', ⟨zo1 HK1⟩, ⟨zN HO_12.out⟩, ⟨zB HB.out⟩⟩
 replace H := zb H
 obtain ⟨⟨tb2, tb3⟩, A19, H⟩ := H
 dsimp only at H
 replace H := zb H
 obtain ⟨⟨tb4, tb5⟩, A20, H⟩ := H
 dsimp only at H
 replace H := zb H
 obtain ⟨⟨tb6, tb7⟩, A21, H⟩ := H
 dsimp only at H
 have HC22 := zk H
 clear H
 obtain ⟨Ao23, co23, rfl⟩ := Kd.N_slice HO_12.out
 go_upto_region 15 with (first | ((with_reducible refine gC 30 ?_); refine zG (some 70) Try.func30 #[.int .i64 (wrap64 ((Int.tmod (wrap64 (a1)) 9) + 1)), .slice Ao23 x12_1.length co23, .int .i64 (wrap64 ((Int.tmod (wrap64 (a3)) (wrap64 ((Int.tmod (wrap64 (a2)) (wrap64 ((Int.tmod (wrap64 (a1)) 9) + 1))) + 1))) + 1))] ?_; (with_reducible refine (mw_Design.calls k1 (wrap64 ((Int.tmod (wrap64 (a1)) 9) + 1)) _ _ x12_1 (wrap64 ((Int.tmod (wrap64 (a3)) (wrap64 ((Int.tmod (wrap64 (a2)) (wrap64 ((Int.tmod (wrap64 (a1)) 9) + 1))) + 1))) + 1)) tb2 tb3 _ ?side1 ?side2 A19.out).mono ?_); (case side1 => exact zC (Kd.N_reads' HO_12.out).2.2); (case side2 => exact (Kd.N_reads' HO_12.out).2.1); rintro e w24 ⟨rfl, hb⟩; refine ⟨_, rfl, ?_⟩; replace HO_12 := yNb HO_12 hb; replace HB := yS HB hb; (try clear hb); (try clear hb2); (try clear hk); (try clear hi)) | ((with_reducible refine gC 30 ?_); refine zG (some 78) Try.func30 #[.int .i64 (wrap64 ((Int.tmod (wrap64 (a1)) 9) + 1)), .slice Ao23 x12_1.length co23, .int .i64 (wrap64 ((wrap64 ((Int.tmod (wrap64 (a3)) (wrap64 ((Int.tmod (wrap64 (a2)) (wrap64 ((Int.tmod (wrap64 (a1)) 9) + 1))) + 1))) + 1)) - 1))] ?_; (with_reducible refine (mw_Design.calls k1 (wrap64 ((Int.tmod (wrap64 (a1)) 9) + 1)) _ _ x12_1 (wrap64 ((wrap64 ((Int.tmod (wrap64 (a3)) (wrap64 ((Int.tmod (wrap64 (a2)) (wrap64 ((Int.tmod (wrap64 (a1)) 9) + 1))) + 1))) + 1)) - 1)) tb4 tb5 _ ?side1 ?side2 A20.out).mono ?_); (case side1 => exact zC (Kd.N_reads' HO_12.out).2.2); (case side2 => exact (Kd.N_reads' HO_12.out).2.1); rintro e w25 ⟨rfl, hb⟩; refine ⟨_, rfl, ?_⟩; replace HO_12 := yNb HO_12 hb; replace HB := yS HB hb; (try clear hb); (try clear hb2); (try clear hk); (try clear hi)) | ((with_reducible refine gC 30 ?_); refine zG (some 84) Try.func30 #[.int .i64 (wrap64 ((Int.tmod (wrap64 (a1)) 9) + 1)), .slice Ao23 x12_1.length co23, .int .i64 0] ?_; (with_reducible refine (mw_Design.calls k1 (wrap64 ((Int.tmod (wrap64 (a1)) 9) + 1)) _ _ x12_1 0 tb6 tb7 _ ?side1 ?side2 A21.out).mono ?_); (case side1 => exact zC (Kd.N_reads' HO_12.out).2.2); (case side2 => exact (Kd.N_reads' HO_12.out).2.1); rintro e w26 ⟨rfl, hb⟩; refine ⟨_, rfl, ?_⟩; replace HO_12 := yNb HO_12 hb; replace HB := yS HB hb; (try clear hb); (try clear hb2); (try clear hk); (try clear hi)))
 (try simp only [Act.put, List.setIfInBounds_toArray, List.set_cons_zero, List.set_cons_succ])
 go_cut [94] (fun v94 wc => ∃ (kq : Nat) (x94_21 : Bool), v94 = .bool x94_21 ∧ Aside0 (w24_MacwilliamsDerived.j1 kq (wrap64 ((Int.tmod (wrap64 (a1)) 9) + 1)) (wrap64 ((Int.tmod (wrap64 (a2)) (wrap64 ((Int.tmod (wrap64 (a1)) 9) + 1))) + 1)) (wrap64 ((Int.tmod (wrap64 (a3)) (wrap64 ((Int.tmod (wrap64 (a2)) (wrap64 ((Int.tmod (wrap64 (a1)) 9) + 1))) + 1))) + 1)) tb2 tb3 tb4 tb5 x94_21 = some r) ∧ Aside0 (kq ≤ k1) ∧ Aside0 (Below w.heap.size w wc))
 case first =>
  have H := HC22.out
  clear HC22
  replace H := zi H
  rcases H with ⟨c27, H⟩ | ⟨c27, H⟩
  · have c27b0 := beq_iff_eq.mpr c27
    have c27b1 := bne_eq_false_iff_eq.mpr c27
    clear c27
    (first | rw [c27b0] | (simp only [i64_w, i32_w]; rw [c27b0]) | rw [c27b1] | skip)
    have H' := zk H
    clear H
    go_wp2
    go_meet
    case rel => exact ⟨_, ((tb6 != (x12_1.length : Int))), zF, H', ⟨by have := HK1.out; first | omega | exact Nat.le_refl _⟩, ⟨zB HB.out⟩⟩
  have c27b0 := beq_eq_false_iff_ne.mpr c27
  have c27b1 := bne_iff_ne.mpr c27
  (first | rw [c27b0] | (simp only [i64_w, i32_w]; rw [c27b0]) | rw [c27b1] | skip)
  have H' := zk H
  clear H
  go_wp2
  go_meet
  case rel => exact ⟨_, (true), zF, H', ⟨by have := HK1.out; first | omega | exact Nat.le_refl _⟩, ⟨zB HB.out⟩⟩
 clear HC22
 (try clear c6);(try clear c7);(try clear c7b0);(try clear c7b1);(try clear c8);(try clear c8b0);(try clear c8b1);(try clear c9b0);(try clear c10b0);(try clear c11);(try clear c11b0);(try clear c11b1);(try clear c13);(try clear c14);(try clear c27);(try clear c27b0);(try clear c27b1);(try clear hxa2_0);(try clear hxa3_0);(try clear hxa5_0);(try clear pa2);(try clear pa3);(try clear pa5);(try clear qa2);(try clear qa3);(try clear qa5)
 obtain ⟨kq, x94_21, rfl, HA, HJ21, HB⟩ := hcut
 cases kq with | zero => exact absurd HA.out (by simp [w24_MacwilliamsDerived.j1]) | succ kj21 => ?_
 have H := HA.out
 clear HA
 simp only [w24_MacwilliamsDerived.j1] at H
 by_cases c28 : x94_21 = true
 · subst c28
   rw [if_pos rfl] at H
   obtain rfl := Option.some.inj H
   go_wp2
   go_ret
   exact ⟨zE, zB HB.out⟩
 replace c28 := Bool.eq_false_iff.mpr c28
 subst c28
 rw [if_neg Bool.false_ne_true] at H
 obtain ⟨yb8, hyb8⟩ : ∃ y_ : List Int, y_ = (([0] : List Int)) := ⟨_, rfl⟩
 replace H : ((mw_Design.f kj21 2 (([yb8, (([1] : List Int))] : List (List Int))) 1).bind fun btc7 => (if btc7.2 = 0 then (w24_MacwilliamsDerived.j2 kj21 (wrap64 ((Int.tmod (wrap64 (a1)) 9) + 1)) (wrap64 ((Int.tmod (wrap64 (a2)) (wrap64 ((Int.tmod (wrap64 (a1)) 9) + 1))) + 1)) (wrap64 ((Int.tmod (wrap64 (a3)) (wrap64 ((Int.tmod (wrap64 (a2)) (wrap64 ((Int.tmod (wrap64 (a1)) 9) + 1))) + 1))) + 1)) tb2 tb3 tb4 tb5 (btc7.1 != 1)) else (w24_MacwilliamsDerived.j2 kj21 (wrap64 ((Int.tmod (wrap64 (a1)) 9) + 1)) (wrap64 ((Int.tmod (wrap64 (a2)) (wrap64 ((Int.tmod (wrap64 (a1)) 9) + 1))) + 1)) (wrap64 ((Int.tmod (wrap64 (a3)) (wrap64 ((Int.tmod (wrap64 (a2)) (wrap64 ((Int.tmod (wrap64 (a1)) 9) + 1))) + 1))) + 1)) tb2 tb3 tb4 tb5 true))) = some r := zY hyb8 H
 have Nyb8 := zk hyb8
 clear hyb8
 obtain ⟨yc1, hyc1⟩ : ∃ y_ : List Int, y_ = (([1] : List Int)) := ⟨_, rfl⟩
 replace H : ((mw_Design.f kj21 2 (([yb8, yc1] : List (List Int))) 1).bind fun btc7 => (if btc7.2 = 0 then (w24_MacwilliamsDerived.j2 kj21 (wrap64 ((Int.tmod (wrap64 (a1)) 9) + 1)) (wrap64 ((Int.tmod (wrap64 (a2)) (wrap64 ((Int.tmod (wrap64 (a1)) 9) + 1))) + 1)) (wrap64 ((Int.tmod (wrap64 (a3)) (wrap64 ((Int.tmod (wrap64 (a2)) (wrap64 ((Int.tmod (wrap64 (a1)) 9) + 1))) + 1))) + 1)) tb2 tb3 tb4 tb5 (btc7.1 != 1)) else (w24_MacwilliamsDerived.j2 kj21 (wrap64 ((Int.tmod (wrap64 (a1)) 9) + 1)) (wrap64 ((Int.tmod (wrap64 (a2)) (wrap64 ((Int.tmod (wrap64 (a1)) 9) + 1))) + 1)) (wrap64 ((Int.tmod (wrap64 (a3)) (wrap64 ((Int.tmod (wrap64 (a2)) (wrap64 ((Int.tmod (wrap64 (a1)) 9) + 1))) + 1))) + 1)) tb2 tb3 tb4 tb5 true))) = some r := zY hyc1 H
 have Nyc1 := zk hyc1
 clear hyc1
 obtain ⟨yc4, hyc4⟩ : ∃ y_ : List (List Int), y_ = (([yb8, yc1] : List (List Int))) := ⟨_, rfl⟩
 replace H : ((mw_Design.f kj21 2 yc4 1).bind fun btc7 => (if btc7.2 = 0 then (w24_MacwilliamsDerived.j2 kj21 (wrap64 ((Int.tmod (wrap64 (a1)) 9) + 1)) (wrap64 ((Int.tmod (wrap64 (a2)) (wrap64 ((Int.tmod (wrap64 (a1)) 9) + 1))) + 1)) (wrap64 ((Int.tmod (wrap64 (a3)) (wrap64 ((Int.tmod (wrap64 (a2)) (wrap64 ((Int.tmod (wrap64 (a1)) 9) + 1))) + 1))) + 1)) tb2 tb3 tb4 tb5 (btc7.1 != 1)) else (w24_MacwilliamsDerived.j2 kj21 (wrap64 ((Int.tmod (wrap64 (a1)) 9) + 1)) (wrap64 ((Int.tmod (wrap64 (a2)) (wrap64 ((Int.tmod (wrap64 (a1)) 9) + 1))) + 1)) (wrap64 ((Int.tmod (wrap64 (a3)) (wrap64 ((Int.tmod (wrap64 (a2)) (wrap64 ((Int.tmod (wrap64 (a1)) 9) + 1))) + 1))) + 1)) tb2 tb3 tb4 tb5 true))) = some r := zY hyc4 H
 have Nyc4 := zk hyc4
 clear hyc4
 replace H := zb H
 obtain ⟨⟨tc7, tc8⟩, A29, H⟩ := H
 dsimp only at H
 have HC30 := zk H
 clear H
 go_upto_region 18 with (first | ((with_reducible refine gate_dst (N := 96) rfl ?_); (try (refine gate_guard (by rfl) ?_; dsimp only)); refine Kd.R_lit (Kd.int .i64) _ 3 ?hg (N := 96) ?hd (xs := ([0] : List Int)) (inner := [.int .i64 0]) (ok := fun _ => True) (okp := fun _ => True) ?hr ?hp (fun _ hk => hk) trivial (Below.refl _ _) (Nat.le_refl _) (by simp) ?_; (case hd => rfl); (case hg => rfl); (case hr => first | (go_simp; done) | (go_simp; rfl)); (case hp => exact (Reps.one (show Kd.M (Kd.int .i64) _ _ _ 0 [.int .i64 0] from rfl) (Reps.none _ _))); intro vb9 w31 ho32 hb hg_ hnew_; clear hg_ hnew_; (first | rw [← Nyb8.out] at ho32 | (simp only [Int.reduceToNat] at ho32; rw [← Nyb8.out] at ho32)); have HOc0 := yRl ho32 HB; replace HB := yS HB hb; clear hb ho32) | ((with_reducible refine gate_dst (N := 97) rfl ?_); (try (refine gate_guard (by rfl) ?_; dsimp only)); refine Kd.R_lit (Kd.int .i64) _ 3 ?hg (N := 97) ?hd (xs := ([1] : List Int)) (inner := [.int .i64 1]) (ok := fun _ => True) (okp := fun _ => True) ?hr ?hp (fun _ hk => hk) trivial (Below.refl _ _) (Nat.le_refl _) (by simp) ?_; (case hd => rfl); (case hg => rfl); (case hr => first | (go_simp; done) | (go_simp; rfl)); (case hp => exact (Reps.one (show Kd.M (Kd.int .i64) _ _ _ 1 [.int .i64 1] from rfl) (Reps.none _ _))); intro vc2 w33 ho34 hb hg_ hnew_; clear hg_ hnew_; (first | rw [← Nyc1.out] at ho34 | (simp only [Int.reduceToNat] at ho34; rw [← Nyc1.out] at ho34)); replace ho34 := yn ho34 HOc0; have HOc3 := yRl ho34 HB; replace HOc0 := yRe HOc0 ho34 hb; replace HB := yS HB hb; clear hb ho34; obtain ⟨Ao35, co35, rfl⟩ := Kd.R_slice HOc0.out; obtain ⟨Ao36, co36, rfl⟩ := Kd.R_slice HOc3.out) | ((with_reducible refine gate_dst (N := 98) rfl ?_); (try (refine gate_guard (by rfl) ?_; dsimp only)); refine Kd.N_lit (Kd.slice 3 (Kd.int .i64)) _ 22 ?hg (N' := 98) ?hd (xs := ([yb8, yc1] : List (List Int))) (inner := [.slice Ao35 yb8.length co35, .slice Ao36 yc1.length co36]) (ok := (fun _ => True)) (okp := (fun _ => True)) ?hr ?hp (fun _ hk => hk) ((show ∀ k_, w33.heap.size ≤ k_ → (fun _ => True) k_ from fun k_ hk => trivial) _ (Nat.le_refl _)) (Below.refl _ _) (Nat.le_refl _) (by simp) ?_; (case hd => rfl); (case hg => rfl); (case hr => first | (go_simp; done) | (go_simp; rfl)); (case hp => exact (Reps.one (show Kd.FK (Kd.slice 3 (Kd.int .i64)) _ _ yb8 [.slice Ao35 yb8.length co35] from (Mw.FK_of_R (Kd.R_mono (ok' := (fun _ => True)) (HOc0.out) (fun k_ hk => by exact trivial)))) (Reps.one (show Kd.FK (Kd.slice 3 (Kd.int .i64)) _ _ yc1 [.slice Ao36 yc1.length co36] from (Mw.FK_of_R (Kd.R_mono (ok' := (fun _ => True)) (HOc3.out) (fun k_ hk => by exact trivial)))) (Reps.none _ _)))); intro vc5 w37 ho38 hb hg_ hnew_; clear hg_ hnew_; (first | rw [← Nyc4.out] at ho38 | (simp only [Int.reduceToNat] at ho38; rw [← Nyc4.out] at ho38)); have HOc6 := zk (Kd.N_lower ho38 (below_size (zB HB.out))); replace HB := yS HB hb; clear HOc0 HOc3; clear hb ho38; obtain ⟨Ao39, co39, rfl⟩ := Kd.N_slice HOc6.out) | ((with_reducible refine gC 30 ?_); refine zG (some 99) Try.func30 #[.int .i64 2, .slice Ao39 yc4.length co39, .int .i64 1] ?_; (with_reducible refine (mw_Design.calls kj21 2 _ _ yc4 1 tc7 tc8 _ ?side1 ?side2 A29.out).mono ?_); (case side1 => exact zC (Kd.N_reads' HOc6.out).2.2); (case side2 => exact (Kd.N_reads' HOc6.out).2.1); rintro e w40 ⟨rfl, hb⟩; refine ⟨_, rfl, ?_⟩; replace HOc6 := yNb HOc6 hb; replace HB := yS HB hb; (try clear hb); (try clear hb2); (try clear hk); (try clear hi)))
 (try simp only [Act.put, List.setIfInBounds_toArray, List.set_cons_zero, List.set_cons_succ])
 go_cut [107] (fun va7 wc => ∃ (kq : Nat) (xa7_29 : Bool), va7 = .bool xa7_29 ∧ Aside0 (w24_MacwilliamsDerived.j2 kq (wrap64 ((Int.tmod (wrap64 (a1)) 9) + 1)) (wrap64 ((Int.tmod (wrap64 (a2)) (wrap64 ((Int.tmod (wrap64 (a1)) 9) + 1))) + 1)) (wrap64 ((Int.tmod (wrap64 (a3)) (wrap64 ((Int.tmod (wrap64 (a2)) (wrap64 ((Int.tmod (wrap64 (a1)) 9) + 1))) + 1))) + 1)) tb2 tb3 tb4 tb5 xa7_29 = some r) ∧ Aside0 (kq ≤ kj21) ∧ Aside0 (Below w.heap.size w wc))
 case first =>
  have H := HC30.out
  clear HC30
  replace H := zi H
  rcases H with ⟨c41, H⟩ | ⟨c41, H⟩
  · have c41b0 := beq_iff_eq.mpr c41
    have c41b1 := bne_eq_false_iff_eq.mpr c41
    clear c41
    (first | rw [c41b0] | (simp only [i64_w, i32_w]; rw [c41b0]) | rw [c41b1] | skip)
    have H' := zk H
    clear H
    go_wp2
    go_meet
    case rel => exact ⟨_, ((tc7 != 1)), zF, H', ⟨by have := HK1.out; have := HJ21.out; first | omega | exact Nat.le_refl _⟩, ⟨zB HB.out⟩⟩
  have c41b0 := beq_eq_false_iff_ne.mpr c41
  have c41b1 := bne_iff_ne.mpr c41
  (first | rw [c41b0] | (simp only [i64_w, i32_w]; rw [c41b0]) | rw [c41b1] | skip)
  have H' := zk H
  clear H
  go_wp2
  go_meet
  case rel => exact ⟨_, (true), zF, H', ⟨by have := HK1.out; have := HJ21.out; first | omega | exact Nat.le_refl _⟩, ⟨zB HB.out⟩⟩
 clear HC30
 (try clear c6);(try clear c7);(try clear c7b0);(try clear c7b1);(try clear c8);(try clear c8b0);(try clear c8b1);(try clear c9b0);(try clear c10b0);(try clear c11);(try clear c11b0);(try clear c11b1);(try clear c13);(try clear c14);(try clear c27);(try clear c27b0);(try clear c27b1);(try clear c28);(try clear c41);(try clear c41b0);(try clear c41b1);(try clear hxa2_0);(try clear hxa3_0);(try clear hxa5_0);(try clear pa2);(try clear pa3);(try clear pa5);(try clear qa2);(try clear qa3);(try clear qa5)
 obtain ⟨kq, xa7_29, rfl, HA, HJ29, HB⟩ := hcut
 cases kq with | zero => exact absurd HA.out (by simp [w24_MacwilliamsDerived.j2]) | succ kj29 => ?_
 have H := HA.out
 clear HA
 simp only [w24_MacwilliamsDerived.j2] at H
 by_cases c42 : xa7_29 = true
 · subst c42
   rw [if_pos rfl] at H
   obtain rfl := Option.some.inj H
   go_wp2
   go_ret
   exact ⟨zE, zB HB.out⟩
 replace c42 := Bool.eq_false_iff.mpr c42
 subst c42
 rw [if_neg Bool.false_ne_true] at H
 replace H := zi H
 rcases H with ⟨c43, H⟩ | ⟨c43, H⟩
 · have c43b0 := beq_iff_eq.mpr c43
   have c43b1 := bne_eq_false_iff_eq.mpr c43
   clear c43
   replace H := zi H
   rcases H with ⟨c44, H⟩ | ⟨c44, H⟩
   · have c44b0 := beq_iff_eq.mpr c44
     have c44b1 := bne_eq_false_iff_eq.mpr c44
     clear c44
     obtain rfl := Option.some.inj H
     go_wp2
     go_ret
     exact ⟨zE, zB HB.out⟩
   have c44b0 := beq_eq_false_iff_ne.mpr c44
   have c44b1 := bne_iff_ne.mpr c44
   obtain rfl := Option.some.inj H
   go_wp2
   go_ret
   exact ⟨zE, zB HB.out⟩
 have c43b0 := beq_eq_false_iff_ne.mpr c43
 have c43b1 := bne_iff_ne.mpr c43
 replace H := zi H
 rcases H with ⟨c45, H⟩ | ⟨c45, H⟩
 · have c45b0 := beq_iff_eq.mpr c45
   have c45b1 := bne_eq_false_iff_eq.mpr c45
   clear c45
   obtain rfl := Option.some.inj H
   go_wp2
   go_ret
   exact ⟨zE, zB HB.out⟩
 have c45b0 := beq_eq_false_iff_ne.mpr c45
 have c45b1 := bne_iff_ne.mpr c45
 obtain rfl := Option.some.inj H
 go_wp2
 go_ret
 exact ⟨zE, zB HB.out⟩
end Go.Proofs.Ytifkbghnmhineaa.PAll
section
set_option linter.unusedVariables false
set_option linter.unusedSimpArgs false
namespace Mw
open Go Go.RowKit Go.Proofs.YtifkbghnmhineaaW.PrintWords
def Ev {α : Type} (g : Nat → Option α) (r : α) : Prop := ∃ K, ∀ k, K ≤ k → g k = some r
theorem Ev.some {α : Type} (r : α) : Ev (fun _ => some r) r := ⟨0, fun _ _ => rfl⟩
theorem Ev.succ {α : Type} {g : Nat → Option α} {r : α} (h : Ev (fun k => g (k + 1)) r) : Ev g r := by
  obtain ⟨K, h⟩ := h
  refine ⟨K + 1, fun k hk => ?_⟩
  obtain ⟨m, rfl⟩ : ∃ m, k = m + 1 := ⟨k - 1, by omega⟩
  exact h m (by omega)
theorem Ev.bind {α β : Type} {g : Nat → Option α} {f : Nat → α → Option β} {a : α} {r : β} (hg : Ev g a) (hf : Ev (fun k => f k a) r) : Ev (fun k => (g k).bind (f k)) r := by
  obtain ⟨K, hg⟩ := hg
  obtain ⟨L, hf⟩ := hf
  refine ⟨K + L, fun k hk => ?_⟩
  show (g k).bind (f k) = _
  rw [hg k (by omega)]
  exact hf k (by omega)
theorem Ev.cast {α : Type} {g : Nat → Option α} {r s : α} (h : Ev g r) (e : r = s) : Ev g s := e ▸ h
theorem Ev.get {α : Type} {g : Nat → Option α} {r : α} (h : Ev g r) : ∃ k, g k = Option.some r := by
  obtain ⟨K, h⟩ := h
  exact ⟨K, h K (Nat.le_refl K)⟩
theorem w64 {x : Int} (h0 : -9223372036854775808 ≤ x) (h1 : x ≤ 9223372036854775807) : wrap64 x = x := by unfold wrap64; omega
theorem wn {x : Int} {n : Nat} (h : x = (n : Int)) (hn : n < 9223372036854775808) : wrap64 x = (n : Int) := by subst h; exact w64 (by omega) (by omega)
theorem u64w {x : Int} (h0 : 0 ≤ x) (h1 : x < 18446744073709551616) : IntKind.u64.wrap x = x := by
  simp [IntKind.wrap, IntKind.bits, IntKind.signed]; omega
def bp : Nat → Nat
  | 0 => 1
  | n + 1 => 4294967296 * bp n
theorem bp_pos : ∀ n, 0 < bp n
  | 0 => by decide
  | n + 1 => by have := bp_pos n; simp only [bp]; omega
theorem bp_mono : ∀ {m n : Nat}, m ≤ n → bp m ≤ bp n := by
  intro m n h
  induction n with
  | zero => have : m = 0 := by omega
            subst this; exact Nat.le_refl _
  | succ n ih =>
    by_cases e : m = n + 1
    · subst e; exact Nat.le_refl _
    · have := ih (by omega); simp only [bp]; omega
theorem bp_add : ∀ (m n : Nat), bp (m + n) = bp m * bp n
  | m, 0 => by simp [bp]
  | m, n + 1 => by rw [← Nat.add_assoc, bp, bp, bp_add m n, Nat.mul_left_comm]
def lv : List Int → Int
  | [] => 0
  | a :: l => a + 4294967296 * lv l
def Lm (l : List Int) : Prop := ∀ x ∈ l, 0 ≤ x ∧ x < 4294967296
def dg (n : Nat) : List Int := if n = 0 then [] else ((n % 4294967296 : Nat) : Int) :: dg (n / 4294967296)
termination_by n
decreasing_by omega
theorem dg_zero : dg 0 = [] := by rw [dg]; rfl
theorem dg_pos {n : Nat} (h : n ≠ 0) : dg n = ((n % 4294967296 : Nat) : Int) :: dg (n / 4294967296) := by rw [dg, if_neg h]
theorem lv_dg : ∀ n : Nat, lv (dg n) = n := by
  intro n
  induction n using Nat.strongRecOn with
  | _ n ih =>
    by_cases h : n = 0
    · subst h; rw [dg_zero]; rfl
    · rw [dg_pos h, lv, ih _ (by omega)]; omega
theorem lm_nil : Lm [] := by intro x hx; simp at hx
theorem lm_cons {a : Int} {l : List Int} : Lm (a :: l) ↔ (0 ≤ a ∧ a < 4294967296) ∧ Lm l := by
  constructor
  · intro h; exact ⟨h a (by simp), fun x hx => h x (by simp [hx])⟩
  · intro h x hx
    exact (List.mem_cons.mp hx).elim (fun e => e ▸ h.1) (fun e => h.2 x e)
theorem lm_dg : ∀ n : Nat, Lm (dg n) := by
  intro n
  induction n using Nat.strongRecOn with
  | _ n ih =>
    by_cases h : n = 0
    · subst h; rw [dg_zero]; exact lm_nil
    · rw [dg_pos h, lm_cons]; exact ⟨by omega, ih _ (by omega)⟩
theorem lv_nonneg : ∀ {l : List Int}, Lm l → 0 ≤ lv l
  | [], _ => Int.le_refl 0
  | a :: l, h => by have := lv_nonneg (lm_cons.mp h).2; have := (lm_cons.mp h).1; simp only [lv]; omega
theorem lv_lt : ∀ {l : List Int}, Lm l → lv l < bp l.length
  | [], _ => by simp [lv, bp]
  | a :: l, h => by
    have h1 := lv_lt (lm_cons.mp h).2
    have h2 := (lm_cons.mp h).1
    simp only [lv, List.length_cons, bp]
    omega
theorem lv_append : ∀ (l m : List Int), lv (l ++ m) = lv l + (bp l.length : Int) * lv m
  | [], m => by simp [lv, bp]
  | a :: l, m => by
    simp only [List.cons_append, lv, List.length_cons, bp, Int.natCast_mul]
    rw [lv_append l m, Int.mul_add, Int.mul_assoc]
    omega
theorem lv_rep : ∀ n : Nat, lv (List.replicate n 0) = 0
  | 0 => rfl
  | n + 1 => by rw [List.replicate_succ, lv, lv_rep n]; rfl
theorem lm_rep (n : Nat) : Lm (List.replicate n 0) := by
  intro x hx; rw [(List.mem_replicate.mp hx).2]; omega
theorem dg_lv : ∀ {l : List Int}, Lm l → (∀ h : l ≠ [], l.getLast h ≠ 0) → dg (lv l).toNat = l
  | [], _, _ => by simp only [lv]; exact dg_zero
  | a :: l, h, hl => by
    have h1 := lm_cons.mp h
    have h0 := lv_nonneg h1.2
    have ih : l ≠ [] → dg (lv l).toNat = l := fun hne => dg_lv h1.2 (fun hh => by
      have := hl (by simp)
      rwa [List.getLast_cons hh] at this)
    by_cases hne : l = []
    · subst hne
      have ha := hl (by simp)
      simp only [List.getLast_singleton] at ha
      simp only [lv]
      rw [dg_pos (by omega), show (a + 4294967296 * 0).toNat / 4294967296 = 0 by omega, dg_zero]
      congr 1
      omega
    · have ih := ih hne
      have hpos : lv l ≠ 0 := by
        intro e
        rw [e] at ih
        rw [show (0 : Int).toNat = 0 from rfl, dg_zero] at ih
        exact hne ih.symm
      simp only [lv]
      rw [dg_pos (by omega), show (a + 4294967296 * lv l).toNat / 4294967296 = (lv l).toNat by omega, ih]
      congr 1
      omega
theorem dg_len_le {n m : Nat} (h : n < bp m) : (dg n).length ≤ m := by
  induction m generalizing n with
  | zero => have : n = 0 := by simp only [bp] at h; omega
            subst this; rw [dg_zero]; simp
  | succ m ih =>
    by_cases h0 : n = 0
    · subst h0; rw [dg_zero]; simp
    · rw [dg_pos h0, List.length_cons]
      have := ih (n := n / 4294967296) (by simp only [bp] at h; omega)
      omega
theorem dg_lt_len (n : Nat) : n < bp (dg n).length := by
  have h := lv_lt (lm_dg n)
  rw [lv_dg] at h
  omega
theorem dg_len_mono {m n : Nat} (h : m ≤ n) : (dg m).length ≤ (dg n).length := dg_len_le (Nat.lt_of_le_of_lt h (dg_lt_len n))
theorem dg_small {n : Nat} (h0 : n ≠ 0) (h : n < 4294967296) : dg n = [(n : Int)] := by
  rw [dg_pos h0, show n / 4294967296 = 0 by omega, dg_zero, show n % 4294967296 = n by omega]
theorem dg_one : dg 1 = [1] := dg_small (by decide) (by decide)
theorem lv_le_of_len {l : List Int} (h : Lm l) {m : Nat} (hm : l.length ≤ m) : (lv l).toNat < bp m := by
  have h1 := lv_lt h
  have h2 := bp_mono hm
  have h3 := lv_nonneg h
  omega
theorem rd_lt {l : List Int} {i : Nat} (h : i < l.length) : rd l (i : Int) = l[i] := by
  unfold rd
  simp [List.getD_eq_getElem?_getD, h]
theorem rd_ge {l : List Int} {i : Nat} (h : l.length ≤ i) : rd l (i : Int) = 0 := by
  unfold rd
  simp [List.getD_eq_getElem?_getD, h]
theorem rd_lm {l : List Int} (hl : Lm l) (i : Int) : 0 ≤ rd l i ∧ rd l i < 4294967296 := by
  unfold rd
  rw [List.getD_eq_getElem?_getD]
  by_cases h : i.toNat < l.length
  · rw [List.getElem?_eq_getElem h]
    exact hl _ (List.getElem_mem h)
  · rw [List.getElem?_eq_none (by omega)]; simp
theorem take_succ_rd {l : List Int} {i : Nat} (h : i < l.length) : l.take (i + 1) = l.take i ++ [rd l (i : Int)] := by
  rw [List.take_succ_eq_append_getElem h, rd_lt h]
theorem lv_take_succ {l : List Int} {i : Nat} (h : i < l.length) : lv (l.take (i + 1)) = lv (l.take i) + (bp i : Int) * rd l (i : Int) := by
  rw [take_succ_rd h, lv_append, List.length_take, Nat.min_eq_left (by omega)]
  simp [lv]
theorem lv_set : ∀ {l : List Int} {i : Nat} (v : Int), i < l.length → lv (l.set i v) = lv l + (bp i : Int) * (v - rd l (i : Int))
  | [], i, v, h => by simp at h
  | a :: l, 0, v, _ => by
    rw [show ((0 : Nat) : Int) = ((0 : Nat) : Int) from rfl, rd_lt (by simp)]
    simp only [List.set_cons_zero, lv, List.getElem_cons_zero, bp]; omega
  | a :: l, i + 1, v, h => by
    have h' : i < l.length := by simpa using h
    have ih := lv_set v h'
    rw [rd_lt h'] at ih
    rw [rd_lt h]
    simp only [List.set_cons_succ, lv, List.getElem_cons_succ, bp, Int.natCast_mul]
    rw [ih, Int.mul_add, Int.mul_assoc]
    omega
theorem lm_set {l : List Int} {i : Nat} {v : Int} (h : Lm l) (h0 : 0 ≤ v) (h1 : v < 4294967296) : Lm (l.set i v) := by
  intro x hx
  rcases List.mem_or_eq_of_mem_set hx with e | e
  · exact h x e
  · subst e; exact ⟨h0, h1⟩
theorem rd_set_ne {l : List Int} {i j : Nat} (v : Int) (h : i ≠ j) : rd (l.set i v) (j : Int) = rd l (j : Int) := by
  unfold rd
  simp [List.getD_eq_getElem?_getD, h]
theorem lm_take {l : List Int} (h : Lm l) (n : Nat) : Lm (l.take n) := fun x hx => h x (List.mem_of_mem_take hx)
theorem dg_take {l : List Int} (h : Lm l) {n : Nat} (hn : n ≤ l.length) (hz : ∀ i : Nat, n ≤ i → i < l.length → rd l (i : Int) = 0) (hl : n = 0 ∨ rd l ((n - 1 : Nat) : Int) ≠ 0) :
    l.take n = dg (lv l).toNat := by
  have hv : lv l = lv (l.take n) := by
    have : ∀ m : Nat, n + m ≤ l.length → lv (l.take (n + m)) = lv (l.take n) := by
      intro m
      induction m with
      | zero => intro _; rfl
      | succ m ih =>
        intro hm
        rw [← Nat.add_assoc, lv_take_succ (by omega), hz (n + m) (by omega) (by omega), ih (by omega)]; simp
    have := this (l.length - n) (by omega)
    rw [show n + (l.length - n) = l.length by omega, List.take_of_length_le (Nat.le_refl _)] at this
    exact this
  rw [hv]
  symm
  refine dg_lv (lm_take h n) (fun hne => ?_)
  rcases hl with e | e
  · subst e; simp at hne
  · rw [List.getLast_eq_getElem]
    simp only [List.length_take, Nat.min_eq_left hn]
    have hp : n ≠ 0 := by intro e0; subst e0; simp at hne
    rw [List.getElem_take]
    rw [rd_lt (by omega)] at e
    exact e
theorem lv_nil : lv [] = 0 := rfl
theorem lv_cons (a : Int) (l : List Int) : lv (a :: l) = a + 4294967296 * lv l := rfl
theorem bp_zero : bp 0 = 1 := rfl
theorem bp_succ (n : Nat) : bp (n + 1) = 4294967296 * bp n := rfl
attribute [irreducible] lv bp
end Mw
end
section
set_option linter.unusedVariables false
set_option linter.unusedSimpArgs false
namespace Mw
open Go Go.RowKit Go.Proofs.YtifkbghnmhineaaW.PrintWords Go.Proofs.YtifkbghnmhineaaW.PrintLast Go.Proofs.YtifkbghnmhineaaW.PrintMore Go.Proofs.Ytifkbghnmhineaa.PAll
theorem short_loop {l : List Int} (hl : Lm l) (hlen : l.length < 1099511627776) : ∀ n : Nat, n ≤ l.length → (∀ i : Nat, n ≤ i → i < l.length → rd l (i : Int) = 0) →
    Ev (fun k => nat_short.l0 k l (n : Int)) (dg (lv l).toNat) := by
  intro n
  induction n with
  | zero =>
    intro hn hz
    refine Ev.succ ?_
    simp only [nat_short.l0, if_neg (show ¬ ((0 : Nat) : Int) > 0 by omega), if_pos (show (0 : Int) ≤ ((0 : Nat) : Int) by omega), if_pos (show ((0 : Nat) : Int) ≤ (l.length : Int) by omega)]
    refine Ev.cast (Ev.some _) ?_
    rw [show (((0 : Nat) : Int)).toNat = 0 from rfl]
    exact dg_take hl hn hz (.inl rfl)
  | succ n ih =>
    intro hn hz
    refine Ev.succ ?_
    have e : wrap64 (((n + 1 : Nat) : Int) - 1) = (n : Int) := by rw [w64 (by omega) (by omega)]; omega
    by_cases h : rd l (n : Int) = 0
    · simp only [nat_short.l0, e, if_pos (show ((n + 1 : Nat) : Int) > 0 by omega), if_pos (show (0 : Int) ≤ (n : Int) by omega), if_pos (show (n : Int) < (l.length : Int) by omega), if_pos h]
      exact ih (by omega) (fun i h1 h2 => by
        by_cases e2 : i = n
        · subst e2; exact h
        · exact hz i (by omega) h2)
    · simp only [nat_short.l0, e, if_pos (show ((n + 1 : Nat) : Int) > 0 by omega), if_pos (show (0 : Int) ≤ (n : Int) by omega), if_pos (show (n : Int) < (l.length : Int) by omega), if_neg h, if_pos (show (0 : Int) ≤ ((n + 1 : Nat) : Int) by omega), if_pos (show ((n + 1 : Nat) : Int) ≤ (l.length : Int) by omega)]
      refine Ev.cast (Ev.some _) ?_
      rw [show (((n + 1 : Nat) : Int)).toNat = n + 1 by omega]
      exact dg_take hl hn hz (.inr h)
theorem short_ev {l : List Int} (hl : Lm l) (hlen : l.length < 1099511627776) : Ev (fun k => nat_short.f k l) (dg (lv l).toNat) := by
  simp only [nat_short.f]
  exact short_loop hl hlen l.length (Nat.le_refl _) (fun i h1 h2 => by omega)
theorem dg_len_of {l : List Int} (hl : Lm l) : (dg (lv l).toNat).length ≤ l.length := dg_len_le (lv_le_of_len hl (Nat.le_refl _))
theorem trim_ev {l : List Int} (hl : Lm l) (hlen : l.length < 1099511627776) : Ev (fun k => nat_Trim.f k l) (dg (lv l).toNat) := by
  simp only [nat_Trim.f]
  refine Ev.bind (short_ev hl hlen) ?_
  have := dg_len_of hl
  simp only [List.length_nil, List.nil_append, if_pos (show 0 + (dg (lv l).toNat).length < 35184372088832 by omega)]
  exact Ev.some _
theorem of_ev {n : Nat} (hn : n < 18446744073709551616) : Ev (fun k => nat_Of.f k (n : Int)) (dg n) := by
  simp only [nat_Of.f]
  have hl : Lm [(n : Int) % 4294967296, ((n : Int) / 4294967296) % 4294967296] := by
    rw [lm_cons, lm_cons]
    exact ⟨by omega, by omega, lm_nil⟩
  refine Ev.bind (trim_ev hl (by simp)) ?_
  refine Ev.cast (Ev.some _) ?_
  congr 1
  simp only [lv_cons, lv_nil]
  omega
end Mw
end
section
namespace Mw
def sm : Nat → (Nat → Int) → Int
  | 0, _ => 0
  | n + 1, f => sm n f + f n
theorem sm_congr {n : Nat} {f g : Nat → Int} (h : ∀ i, i < n → f i = g i) : sm n f = sm n g := by
  induction n with
  | zero => rfl
  | succ n ih => simp only [sm]; rw [ih (fun i hi => h i (by omega)), h n (by omega)]
theorem sm_zero {n : Nat} {f : Nat → Int} (h : ∀ i, i < n → f i = 0) : sm n f = 0 := by
  induction n with
  | zero => rfl
  | succ n ih => simp only [sm]; rw [ih (fun i hi => h i (by omega)), h n (by omega)]; rfl
theorem sm_add (n : Nat) (f g : Nat → Int) : sm n (fun i => f i + g i) = sm n f + sm n g := by
  induction n with
  | zero => rfl
  | succ n ih => simp only [sm]; rw [ih]; omega
theorem sm_sub (n : Nat) (f g : Nat → Int) : sm n (fun i => f i - g i) = sm n f - sm n g := by
  induction n with
  | zero => rfl
  | succ n ih => simp only [sm]; rw [ih]; omega
theorem sm_mul (n : Nat) (c : Int) (f : Nat → Int) : sm n (fun i => c * f i) = c * sm n f := by
  induction n with
  | zero => simp [sm]
  | succ n ih => simp only [sm]; rw [ih, Int.mul_add]
theorem sm_mul_right (n : Nat) (c : Int) (f : Nat → Int) : sm n (fun i => f i * c) = sm n f * c := by
  induction n with
  | zero => simp [sm]
  | succ n ih => simp only [sm]; rw [ih, Int.add_mul]
theorem sm_swap (m n : Nat) (f : Nat → Nat → Int) : sm m (fun i => sm n (fun j => f i j)) = sm n (fun j => sm m (fun i => f i j)) := by
  induction m with
  | zero => simp only [sm]; exact (sm_zero (fun _ _ => rfl)).symm
  | succ m ih => simp only [sm]; rw [ih, sm_add]
theorem sm_single {n a : Nat} {f : Nat → Int} (ha : a < n) (h : ∀ i, i < n → i ≠ a → f i = 0) : sm n f = f a := by
  induction n with
  | zero => omega
  | succ n ih =>
    simp only [sm]
    by_cases e : a = n
    · subst e; rw [sm_zero (fun i hi => h i (by omega) (by omega))]; omega
    · rw [ih (by omega) (fun i hi hne => h i (by omega) hne), h n (by omega) (by omega)]; omega
def bin : Nat → Nat → Nat
  | _, 0 => 1
  | 0, _ + 1 => 0
  | n + 1, k + 1 => bin n k + bin n (k + 1)
theorem bin_zero (n : Nat) : bin n 0 = 1 := by cases n <;> rfl
theorem bin_succ (n k : Nat) : bin (n + 1) (k + 1) = bin n k + bin n (k + 1) := rfl
theorem bin_above : ∀ {n k : Nat}, n < k → bin n k = 0
  | 0, 0, h => by omega
  | 0, _ + 1, _ => rfl
  | n + 1, 0, h => by omega
  | n + 1, k + 1, h => by rw [bin_succ, bin_above (n := n) (k := k) (by omega), bin_above (n := n) (k := k + 1) (by omega)]
theorem bin_self (n : Nat) : bin n n = 1 := by
  induction n with
  | zero => rfl
  | succ n ih => rw [bin_succ, ih, bin_above (by omega)]
theorem bin_one (n : Nat) : bin n 1 = n := by
  induction n with
  | zero => rfl
  | succ n ih => rw [bin_succ, ih, bin_zero]; omega
theorem bin_step : ∀ (n k : Nat), (k + 1) * bin n (k + 1) = (n - k) * bin n k
  | 0, k => by rw [bin_above (by omega)]; simp
  | n + 1, 0 => by rw [bin_one, bin_zero]; omega
  | n + 1, k + 1 => by
    rw [bin_succ, bin_succ]
    have h1 := bin_step n k
    have h2 := bin_step n (k + 1)
    by_cases hk : k + 1 ≤ n
    · obtain ⟨m, rfl⟩ : ∃ m, n = m + (k + 1) := ⟨n - (k + 1), by omega⟩
      rw [show m + (k + 1) - k = m + 1 by omega] at h1
      rw [show m + (k + 1) - (k + 1) = m by omega] at h2
      rw [show m + (k + 1) + 1 - (k + 1) = m + 1 by omega]
      grind
    · by_cases hk2 : k = n
      · subst hk2
        rw [bin_above (n := k) (k := k + 1 + 1) (by omega), bin_above (n := k) (k := k + 1) (by omega)]; simp
      · rw [bin_above (n := n) (k := k + 1 + 1) (by omega), bin_above (n := n) (k := k + 1) (by omega), bin_above (n := n) (k := k) (by omega)]; simp
theorem bin_symm : ∀ {n k : Nat}, k ≤ n → bin n (n - k) = bin n k
  | 0, k, h => by have : k = 0 := by omega
                  subst this; rfl
  | n + 1, 0, _ => by rw [Nat.sub_zero, bin_self, bin_zero]
  | n + 1, k + 1, h => by
    rw [Nat.add_sub_add_right]
    by_cases e : k = n
    · subst e; rw [Nat.sub_self, bin_zero, bin_self]
    · obtain ⟨m, hm⟩ : ∃ m, n - k = m + 1 := ⟨n - k - 1, by omega⟩
      rw [hm, bin_succ, bin_succ]
      have h1 := bin_symm (n := n) (k := k) (by omega)
      have h2 := bin_symm (n := n) (k := k + 1) (by omega)
      rw [hm] at h1
      rw [show n - (k + 1) = m by omega] at h2
      omega
end Mw
end
section
set_option linter.unusedVariables false
set_option linter.unusedSimpArgs false
namespace Mw
open Go Go.RowKit Go.Proofs.YtifkbghnmhineaaW.PrintWords Go.Proofs.YtifkbghnmhineaaW.PrintLast Go.Proofs.YtifkbghnmhineaaW.PrintMore Go.Proofs.Ytifkbghnmhineaa.PAll
theorem rd_rep (n : Nat) (j : Nat) : rd (List.replicate n 0) (j : Int) = 0 := by
  by_cases h : j < n
  · rw [rd_lt (by simpa using h)]; simp
  · exact rd_ge (by simp; omega)
theorem mac_bound {x y z c : Int} (hx0 : 0 ≤ x) (hx1 : x < 4294967296) (hy0 : 0 ≤ y) (hy1 : y < 4294967296) (hz0 : 0 ≤ z) (hz1 : z < 4294967296) (hc0 : 0 ≤ c) (hc1 : c < 4294967296) :
    0 ≤ x * y ∧ x * y + z + c < 18446744073709551616 := by
  have hp0 : 0 ≤ x * y := Int.mul_nonneg hx0 hy0
  have hp1 : x * y ≤ 4294967295 * 4294967295 := Int.mul_le_mul (by omega) (by omega) hy0 (by decide)
  generalize x * y = p at *
  omega
theorem mac_wrap {x y z c : Int} (hx0 : 0 ≤ x) (hx1 : x < 4294967296) (hy0 : 0 ≤ y) (hy1 : y < 4294967296) (hz0 : 0 ≤ z) (hz1 : z < 4294967296) (hc0 : 0 ≤ c) (hc1 : c < 4294967296) :
    IntKind.u64.wrap (IntKind.u64.wrap (IntKind.u64.wrap (IntKind.u64.wrap x * IntKind.u64.wrap y) + IntKind.u64.wrap z) + c) = x * y + z + c := by
  have hb := mac_bound hx0 hx1 hy0 hy1 hz0 hz1 hc0 hc1
  rw [u64w (x := x) (by omega) (by omega), u64w (x := y) (by omega) (by omega), u64w (x := z) (by omega) (by omega)]
  generalize x * y = p at *
  rw [u64w (x := p) (by omega) (by omega), u64w (x := p + z) (by omega) (by omega), u64w (x := p + z + c) (by omega) (by omega)]
theorem split_div (s : Int) : s % 4294967296 + 4294967296 * (s / 4294967296) = s := by omega
theorem div_bound {s : Int} (h0 : 0 ≤ s) (h1 : s < 18446744073709551616) : 0 ≤ s % 4294967296 ∧ s % 4294967296 < 4294967296 ∧ 0 ≤ s / 4294967296 ∧ s / 4294967296 < 4294967296 := by omega
theorem times_inner {x : Int} {b l18 : List Int} (hx0 : 0 ≤ x) (hx1 : x < 4294967296) (hb : Lm b) (hbl : b.length < 536870912) (x19 : Int) (i L : Nat) (hL : i + b.length + 1 ≤ L) (hL2 : L < 1073741824) (V : Int) (R : List Int)
    (next : ∀ o : List Int, o.length = L → Lm o → (∀ j : Nat, i + 1 + b.length ≤ j → rd o (j : Int) = 0) → Aside0 (lv o = V + (bp i : Int) * (x * lv b)) → Ev (fun k => nat_times.l0 k b o l18 x19 ((i + 1 : Nat) : Int)) R) :
    ∀ (d j : Nat) (o : List Int) (c : Int), j + d = b.length → o.length = L → Lm o → 0 ≤ c → c < 4294967296 → (∀ m : Nat, i + b.length ≤ m → rd o (m : Int) = 0) →
      Aside0 (lv o + (bp (i + j) : Int) * c = V + (bp i : Int) * (x * lv (b.take j))) →
      Ev (fun k => nat_times.l1 k b o (i : Int) x c l18 x19 (i : Int) b (b.length : Int) (j : Int)) R := by
  intro d
  induction d with
  | zero =>
    intro j o c hj ho hol hc0 hc1 hz hv
    have hj : j = b.length := by omega
    subst hj
    refine Ev.succ ?_
    simp only [nat_times.l1, wn (show (i : Int) + (b.length : Int) = ((i + b.length : Nat) : Int) by omega) (by omega), wn (show (i : Int) + 1 = ((i + 1 : Nat) : Int) by omega) (by omega), if_neg (show ¬ ((b.length : Nat) : Int) < (b.length : Int) by omega), if_pos (show (0 : Int) ≤ ((i + b.length : Nat) : Int) by omega), if_pos (show ((i + b.length : Nat) : Int) < (o.length : Int) by omega)]
    rw [Int.toNat_natCast, show c % 4294967296 = c by omega]
    refine next _ (by rw [List.length_set]; omega) (lm_set hol hc0 hc1) (fun m hm => ?_) ⟨?_⟩
    · rw [rd_set_ne _ (by omega)]; exact hz m (by omega)
    · rw [lv_set _ (by omega), hz _ (Nat.le_refl _), Int.sub_zero, hv.out, List.take_of_length_le (Nat.le_refl _)]
  | succ d ih =>
    intro j o c hj ho hol hc0 hc1 hz hv
    have hjb : j < b.length := by omega
    refine Ev.succ ?_
    have rb := rd_lm hb (j : Int)
    have ro := rd_lm hol ((i + j : Nat) : Int)
    simp only [nat_times.l1, wn (show (i : Int) + (j : Int) = ((i + j : Nat) : Int) by omega) (by omega), wn (show (j : Int) + 1 = ((j + 1 : Nat) : Int) by omega) (by omega), if_pos (show (j : Int) < (b.length : Int) by omega), if_pos (show (0 : Int) ≤ (j : Int) by omega), if_pos (show (0 : Int) ≤ ((i + j : Nat) : Int) by omega), if_pos (show ((i + j : Nat) : Int) < (o.length : Int) by omega), mac_wrap hx0 hx1 rb.1 rb.2 ro.1 ro.2 hc0 hc1]
    have hb2 := mac_bound hx0 hx1 rb.1 rb.2 ro.1 ro.2 hc0 hc1
    have hdef : ∃ s, s = x * rd b (j : Int) + rd o ((i + j : Nat) : Int) + c := ⟨_, rfl⟩
    obtain ⟨s, hs⟩ := hdef
    have hs0 : 0 ≤ s := by rw [hs]; exact Int.add_nonneg (Int.add_nonneg hb2.1 ro.1) hc0
    have hs1 : s < 18446744073709551616 := by rw [hs]; exact hb2.2
    have hd := div_bound hs0 hs1
    clear hb2
    rw [← hs]
    rw [Int.toNat_natCast]
    have hs := Aside0.mk hs
    refine ih (j + 1) _ _ (by omega) (by rw [List.length_set]; omega) (lm_set hol hd.1 hd.2.1) hd.2.2.1 hd.2.2.2 (fun m hm => ?_) ⟨?_⟩
    · rw [rd_set_ne _ (by omega)]; exact hz m hm
    · rw [lv_set _ (by omega), lv_take_succ hjb, ← Nat.add_assoc, bp_succ, Int.natCast_mul]
      have hdiv : s % 4294967296 + 4294967296 * (s / 4294967296) = x * rd b (j : Int) + rd o ((i + j : Nat) : Int) + c := by rw [split_div]; exact hs.out
      have hv := hv.out
      have hbp : ((bp (i + j) : Nat) : Int) = (bp i : Int) * (bp j : Int) := by rw [bp_add, Int.natCast_mul]
      clear ih hz next hs hs0 hs1 hd rb ro hc0 hc1
      generalize s % 4294967296 = y at *
      generalize s / 4294967296 = u at *
      generalize (bp (i + j) : Int) = p at *
      generalize (bp i : Int) = pi at *
      generalize (bp j : Int) = pj at *
      generalize rd b (j : Int) = rb at *
      generalize rd o ((i + j : Nat) : Int) = ro at *
      generalize lv o = lo at *
      generalize lv (b.take j) = lt at *
      subst hbp
      have h1 : lo + pi * pj * c = V + pi * (x * lt) := hv
      have h2 : y + 4294967296 * u = x * rb + ro + c := hdiv
      show lo + pi * pj * (y - ro) + 4294967296 * (pi * pj) * u = V + pi * (x * (lt + pj * rb))
      have h3 : pi * pj * (y + 4294967296 * u) = pi * pj * (x * rb + ro + c) := by rw [h2]
      grind
theorem times_outer {b l : List Int} (hb : Lm b) (hl : Lm l) (hbl : b.length < 268435456) (hll : l.length < 268435456) : ∀ (d i : Nat) (o : List Int), i + d = l.length → o.length = l.length + b.length → Lm o → (∀ m : Nat, i + b.length ≤ m → rd o (m : Int) = 0) →
    Aside0 (lv o = lv (l.take i) * lv b) → Ev (fun k => nat_times.l0 k b o l (l.length : Int) (i : Int)) (dg (lv l * lv b).toNat) := by
  intro d
  induction d with
  | zero =>
    intro i o hi ho hol hz hv
    have hi : i = l.length := by omega
    subst hi
    refine Ev.succ ?_
    simp only [nat_times.l0, if_neg (show ¬ ((l.length : Nat) : Int) < (l.length : Int) by omega)]
    refine Ev.bind (short_ev hol (by omega)) ?_
    refine Ev.cast (Ev.some _) ?_
    rw [hv.out, List.take_of_length_le (Nat.le_refl _)]
  | succ d ih =>
    intro i o hi ho hol hz hv
    have hil : i < l.length := by omega
    refine Ev.succ ?_
    have rl := rd_lm hl (i : Int)
    simp only [nat_times.l0, if_pos (show (i : Int) < (l.length : Int) by omega), if_pos (show (0 : Int) ≤ (i : Int) by omega)]
    refine times_inner (l18 := l) rl.1 rl.2 hb (by omega) (l.length : Int) i (l.length + b.length) (by omega) (by omega) (lv (l.take i) * lv b) _ (fun o2 h1 h2 h3 h4 => ?_) b.length 0 o 0 (by omega) ho hol (by omega) (by omega) hz ⟨?_⟩
    · refine ih (i + 1) o2 (by omega) h1 h2 (fun m hm => h3 m hm) ⟨?_⟩
      rw [h4.out, lv_take_succ hil, Int.add_mul, Int.mul_assoc]
    · rw [hv.out]; simp [lv_nil]
theorem times_ev {a b : List Int} (ha : Lm a) (hb : Lm b) (h1 : a.length < 268435456) (h2 : b.length < 268435456) : Ev (fun k => nat_times.f k a b) (dg (lv a * lv b).toNat) := by
  simp only [nat_times.f]
  simp only [wn (show (a.length : Int) + (b.length : Int) = ((a.length + b.length : Nat) : Int) by omega) (by omega), Int.toNat_natCast, if_pos (show (0 : Int) ≤ ((a.length + b.length : Nat) : Int) by omega), if_pos (show a.length + b.length ≤ 70368744177664 by omega)]
  exact times_outer hb ha h2 h1 a.length 0 _ (by omega) (by simp) (lm_rep _) (fun m _ => rd_rep _ m) ⟨by rw [lv_rep]; simp [lv_nil]⟩
end Mw
end
