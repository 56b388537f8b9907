/- The statement MacwilliamsGenerating, proved for every input, and what it rests on. No condition. -/
import Derived.Test.YtifkbghnmhineaaQGenerating4

section
set_option linter.unusedVariables false
set_option linter.unusedSimpArgs false
namespace Mw
open Go Go.RowKit Go.Proofs.YtifkbghnmhineaaW.PrintWords Go.Proofs.YtifkbghnmhineaaW.PrintLast Go.Proofs.YtifkbghnmhineaaW.PrintMore Go.Proofs.Ytifkbghnmhineaa.PAll
theorem neg_npow (m n : Nat) : (-(m : Int)) ^ n = sg (decide (n % 2 = 1)) (m ^ n) := by
  induction n with
  | zero => rw [Int.pow_zero, Nat.pow_zero]; rfl
  | succ n ih =>
    rw [Int.pow_succ, ih, Nat.pow_succ]
    unfold sg
    by_cases h : n % 2 = 1
    · simp only [h, show ¬ ((n + 1) % 2 = 1) by omega, decide_true, decide_false, if_true, Bool.false_eq_true, if_false, Int.natCast_mul, Int.neg_mul_neg]
    · simp only [h, show (n + 1) % 2 = 1 by omega, decide_true, decide_false, if_true, Bool.false_eq_true, if_false, Int.natCast_mul, Int.mul_neg]
theorem w8 {z : Int} (h0 : -1048576 ≤ z) (h1 : z ≤ 1048576) : wrap64 z = z := by
  unfold wrap64
  omega
theorem rpowq_ev {z : Int} {n : Nat} (hz : z.natAbs < 4294967296) (hn : n ≤ 64) : Ev (fun k => codewrightref02_Pow.f k (rz z).1 (rz z).2.1 (rz z).2.2 (n : Int)) ((rz (z ^ n)).1, (rz (z ^ n)).2.1, (rz (z ^ n)).2.2, 0) := by
  have hf : Few z := few_of (few_small hz) (by omega)
  have hpl : (dg (z.natAbs ^ n)).length ≤ 65 := gpow_len hz hn
  have e2 : (rz z).2.2 = dg 1 := rfl
  have e1 : (rz z).2.1 = dg z.natAbs := rfl
  have e0 : (rz z).1 = decide (z < 0) := rfl
  simp only [codewrightref02_Pow.f]
  refine Ev.bind (rtrimq_ev hf) ?_
  simp only [if_neg (show ¬ (n : Int) < 0 by omega)]
  refine Ev.succ ?_
  simp only [codewrightref02_Pow.j0, if_neg (show ¬ (n : Int) < 0 by omega)]
  refine Ev.succ ?_
  simp only [codewrightref02_Pow.j1, e1, e2]
  refine Ev.bind (rpow_ev hz (by omega)) ?_
  refine Ev.bind (rpow_ev (x := 1) (by omega) (by omega)) ?_
  simp only [if_true, Nat.one_pow, e0]
  by_cases h : z < 0
  · have et : (Int.tmod (n : Int) 2 != 0) = decide (n % 2 = 1) := by
      rw [Int.tmod_eq_emod_of_nonneg (by omega)]
      by_cases g : n % 2 = 1
      · rw [show ((n : Int) % 2) = 1 by omega, decide_eq_true g]; rfl
      · rw [show ((n : Int) % 2) = 0 by omega, decide_eq_false g]; rfl
    simp only [decide_eq_true h, if_true, et]
    refine Ev.bind (rmake_ev (neg := decide (n % 2 = 1)) (n := z.natAbs ^ n) (by omega)) ?_
    rw [← neg_npow, show (-((z.natAbs : Nat) : Int)) = z by omega]
    exact Ev.some _
  · simp only [decide_eq_false h, Bool.false_eq_true, if_false]
    refine Ev.bind (rmake_ev (neg := false) (n := z.natAbs ^ n) (by omega)) ?_
    have e : sg false (z.natAbs ^ n) = z ^ n := by
      unfold sg
      rw [if_neg (by simp), Int.natCast_pow, show ((z.natAbs : Nat) : Int) = z by omega]
    rw [e]
    exact Ev.some _
theorem zpow_len {z : Int} {i : Nat} (hz : z.natAbs < 4294967296) (hi : i ≤ 64) : (dg (z ^ i).natAbs).length ≤ 65 := by
  rw [Int.natAbs_pow]; exact gpow_len hz hi
theorem gz_bound {g : Nat} {z : Int} (hg : g ≤ 254) (h0 : -128 ≤ z) (h1 : z ≤ 127) : -32512 ≤ (g : Int) * z ∧ (g : Int) * z ≤ 32258 := by
  have a := Int.mul_le_mul_of_nonneg_left h1 (Int.natCast_nonneg g)
  have b := Int.mul_le_mul_of_nonneg_left h0 (Int.natCast_nonneg g)
  generalize (g : Int) * z = p at a b ⊢
  omega
def gterm (g n x : Nat) (z : Int) (i : Nat) : Int := kr (g : Int) (n - x) x i * z ^ i
theorem gterm_len {g n x i : Nat} {z : Int} (hg : g < 4294967296) (hz : z.natAbs < 4294967296) (hn : n ≤ 32) (hx : x ≤ n) (hi : i ≤ n) : (dg (gterm g n x z i).natAbs).length ≤ 389 := by
  have ha := kr_len (g := g) (a := n - x) (b := x) (k := i) hg (by omega) (by omega) (by omega)
  have := mulq_len ha (zpow_len (z := z) (i := i) hz (by omega))
  unfold gterm
  omega
theorem gen_loop {q n x : Nat} {z : Int} (hq : 2 ≤ q) (hq2 : q ≤ 255) (hn : n ≤ 32) (hx : x ≤ n) (hz0 : -128 ≤ z) (hz1 : z ≤ 127) : ∀ (d i : Nat), i + d = n + 1 →
    Ev (fun k => codewrightlaw24_MacwilliamsGenerating.l0 k (q : Int) (n : Int) (x : Int) z (i : Int) (rz (sm i (gterm (q - 1) n x z))).1 (rz (sm i (gterm (q - 1) n x z))).2.1 (rz (sm i (gterm (q - 1) n x z))).2.2 (rz (z ^ i)).1 (rz (z ^ i)).2.1 (rz (z ^ i)).2.2) true := by
  intro d
  obtain ⟨g, hg⟩ : ∃ g, g = q - 1 := ⟨_, rfl⟩
  rw [← hg]
  have hsum : ∀ i, i ≤ n + 1 → (dg (sm i (gterm g n x z)).natAbs).length ≤ 390 := fun i hi => sm_len (by omega) (fun j hj => gterm_len (by omega) (by omega) hn hx (by omega))
  induction d with
  | zero =>
    intro i hi
    have hi : i = n + 1 := by omega
    subst hi
    have hl := hsum (n + 1) (Nat.le_refl _)
    have th := kr_gen1 (g : Int) (n - x) x z
    rw [show n - x + x + 1 = n + 1 by omega] at th
    have e : sm (n + 1) (gterm g n x z) = (1 + (g : Int) * z) ^ (n - x) * (1 - z) ^ x := by
      rw [← th]; rfl
    have hb := gz_bound (g := g) (z := z) (by omega) hz0 hz1
    have W1 : Aside0 (wrap64 ((g : Int) * z) = (g : Int) * z) := ⟨w8 (Int.le_trans (by decide) hb.1) (Int.le_trans hb.2 (by decide))⟩
    obtain ⟨p, hp⟩ : ∃ p, p = (g : Int) * z := ⟨_, rfl⟩
    rw [← hp] at hb e W1
    obtain ⟨hb0, hb1⟩ := hb
    have HP := Aside0.mk hp
    clear hp th
    obtain ⟨y, hy⟩ : ∃ y, y = 1 + p := ⟨_, rfl⟩
    obtain ⟨u, hu⟩ : ∃ u, u = 1 - z := ⟨_, rfl⟩
    rw [← hy, ← hu] at e
    have E := Aside0.mk e
    clear e
    have hy1 : y.natAbs < 4294967296 := by omega
    have hu1 : u.natAbs < 4294967296 := by omega
    have hyr : -4611686018427387904 ≤ y ∧ y ≤ 4611686018427387904 := by omega
    have hur : -4611686018427387904 ≤ u ∧ u ≤ 4611686018427387904 := by omega
    have hn64 : n - x ≤ 64 := by omega
    have hx64 : x ≤ 64 := by omega
    have fy := few_of (zpow_len (z := y) (i := n - x) hy1 hn64) (by omega)
    have fu := few_of (zpow_len (z := u) (i := x) hu1 hx64) (by omega)
    have fl := few_of hl (by omega)
    have W2 : Aside0 (wrap64 (1 + p) = y) := ⟨by rw [← hy]; exact w8 (by omega) (by omega)⟩
    have W3 : Aside0 (wrap64 (1 - z) = u) := ⟨by rw [← hu]; exact w8 (by omega) (by omega)⟩
    have W4 : Aside0 (wrap64 z = z) := ⟨w8 (by omega) (by omega)⟩
    have W5 : Aside0 (((n : Int) - (x : Int)) % 256 = ((n - x : Nat) : Int)) := ⟨by omega⟩
    refine Ev.succ ?_
    simp only [codewrightlaw24_MacwilliamsGenerating.l0, wid (show q < 4294967296 by omega), wid (show n < 4294967296 by omega), wid (show x < 4294967296 by omega), wn (show (q : Int) - 1 = (g : Int) by omega) (by omega), W4.out, ← HP.out, W2.out, W3.out, W5.out, if_neg (show ¬ ((n + 1 : Nat) : Int) ≤ (n : Int) by omega)]
    simp only [W1.out, ← HP.out, W2.out]
    refine Ev.bind (rintq_ev hyr.1 hyr.2) ?_
    refine Ev.bind (rpowq_ev hy1 hn64) ?_
    refine Ev.bind (rintq_ev hur.1 hur.2) ?_
    refine Ev.bind (rpowq_ev hu1 hx64) ?_
    refine Ev.bind (rmulq_ev fy fu) ?_
    rw [← E.out]
    refine Ev.bind (rsameq_ev fl fl) ?_
    exact Ev.cast (Ev.some _) (by simp)
  | succ d ih =>
    intro i hi
    have hin : i ≤ n := by omega
    have hl := hsum i (by omega)
    have ha := kr_len (g := g) (a := n - x) (b := x) (k := i) (by omega) (by omega) (by omega) (by omega)
    have hp := zpow_len (z := z) (i := i) (by omega) (by omega)
    have hz := few_small (z := z) (by omega)
    have m1 := mulq_len ha hp
    have ka := law_k_ev (q := q) (n := n) (j := i) (x := x) hq (by omega) (by omega) hin hx
    rw [← hg] at ka
    have nx := ih (i + 1) (by omega)
    rw [Int.pow_succ] at nx
    have W4 : Aside0 (wrap64 z = z) := ⟨w8 (by omega) (by omega)⟩
    have hz9 : -4611686018427387904 ≤ z ∧ z ≤ 4611686018427387904 := by omega
    refine Ev.succ ?_
    simp only [codewrightlaw24_MacwilliamsGenerating.l0, wid (show q < 4294967296 by omega), wid (show n < 4294967296 by omega), wid (show x < 4294967296 by omega), W4.out, wn (show (i : Int) + 1 = ((i + 1 : Nat) : Int) by omega) (by omega), if_pos (show (i : Int) ≤ (n : Int) by omega)]
    refine Ev.bind ka ?_
    simp only [if_true]
    refine Ev.bind (rmulq_ev (few_of ha (by omega)) (few_of hp (by omega))) ?_
    refine Ev.bind (raddq_ev (few_of hl (by omega)) (few_of m1 (by omega))) ?_
    refine Ev.bind (rintq_ev hz9.1 hz9.2) ?_
    refine Ev.bind (rmulq_ev (few_of hp (by omega)) (few_of hz (by omega))) ?_
    exact nx
theorem generating_law {q n x z : Int} (hq0 : 0 ≤ q) (hq1 : q ≤ 255) (hn0 : 0 ≤ n) (hx0 : 0 ≤ x) (hz0 : -128 ≤ z) (hz1 : z ≤ 127) : Ev (fun k => codewrightlaw24_MacwilliamsGenerating.f k q n x z) true := by
  have fin : Ev (fun k => codewrightlaw24_MacwilliamsGenerating.j0 k q n x z true) true := by
    refine Ev.succ ?_
    simp only [codewrightlaw24_MacwilliamsGenerating.j0, if_true]
    exact Ev.some _
  by_cases h1 : q < 2
  · simp only [codewrightlaw24_MacwilliamsGenerating.f, if_pos h1]; exact fin
  by_cases h2 : n > 32
  · simp only [codewrightlaw24_MacwilliamsGenerating.f, if_neg h1, if_pos h2]; exact fin
  by_cases h3 : x > n
  · simp only [codewrightlaw24_MacwilliamsGenerating.f, if_neg h1, if_neg h2, decide_eq_true h3]; exact fin
  simp only [codewrightlaw24_MacwilliamsGenerating.f, if_neg h1, if_neg h2, decide_eq_false h3]
  obtain ⟨q, rfl⟩ : ∃ m : Nat, q = (m : Int) := ⟨q.toNat, by omega⟩
  obtain ⟨n, rfl⟩ : ∃ m : Nat, n = (m : Int) := ⟨n.toNat, by omega⟩
  obtain ⟨x, rfl⟩ : ∃ m : Nat, x = (m : Int) := ⟨x.toNat, by omega⟩
  refine Ev.succ ?_
  simp only [codewrightlaw24_MacwilliamsGenerating.j0, Bool.false_eq_true, if_false]
  refine Ev.bind (rintq_ev (z := 0) (by omega) (by omega)) ?_
  refine Ev.bind (rintq_ev (z := 1) (by omega) (by omega)) ?_
  have key := gen_loop (q := q) (n := n) (x := x) (z := z) (by omega) (by omega) (by omega) (by omega) hz0 hz1 (n + 1) 0 (by omega)
  rw [Int.pow_zero] at key
  exact key
end Mw
end
section
namespace Mw
open Go Go.Proofs
def headCodes : List Nat := [
  104, 97, 114, 110, 101, 115, 115, 32, 97, 52, 54, 100, 51, 98, 54, 57, 49, 99, 100, 102, 102, 55, 57, 50, 53, 50, 54, 98, 102, 49,
  54, 102, 48, 51, 48, 99, 54, 97, 97, 48, 53, 57, 101, 57, 49, 50, 49, 49, 52, 97, 101, 54, 102, 97, 52, 52, 54, 99, 49, 56,
  54, 102, 57, 55, 99, 52, 101, 54, 51, 97, 102, 50, 32, 99, 117, 116, 32, 97, 116, 32, 99, 111, 100, 101, 119, 114, 105, 103, 104, 116,
  47, 99, 111, 100, 101, 119, 114, 105, 103, 104, 116, 108, 97, 119, 50, 52, 46, 77, 97, 99, 119, 105, 108, 108, 105, 97, 109, 115, 80, 108,
  101, 115, 115, 32, 99, 111, 100, 101, 119, 114, 105, 103, 104, 116, 47, 99, 111, 100, 101, 119, 114, 105, 103, 104, 116, 108, 97, 119, 50, 52,
  46, 77, 97, 99, 119, 105, 108, 108, 105, 97, 109, 115, 68, 101, 115, 105, 103, 110, 115, 32, 99, 111, 100, 101, 119, 114, 105, 103, 104, 116,
  47, 99, 111, 100, 101, 119, 114, 105, 103, 104, 116, 108, 97, 119, 50, 52, 46, 77, 97, 99, 119, 105, 108, 108, 105, 97, 109, 115, 68, 101,
  114, 105, 118, 101, 100, 32, 99, 111, 100, 101, 119, 114, 105, 103, 104, 116, 47, 99, 111, 100, 101, 119, 114, 105, 103, 104, 116, 108, 97, 119,
  50, 52, 46, 77, 97, 99, 119, 105, 108, 108, 105, 97, 109, 115, 77, 111, 109, 101, 110, 116, 115, 32, 99, 111, 100, 101, 119, 114, 105, 103,
  104, 116, 47, 99, 111, 100, 101, 119, 114, 105, 103, 104, 116, 108, 97, 119, 50, 52, 46, 77, 97, 99, 119, 105, 108, 108, 105, 97, 109, 115,
  83, 116, 114, 101, 110, 103, 116, 104, 115, 32, 99, 111, 100, 101, 119, 114, 105, 103, 104, 116, 47, 99, 111, 100, 101, 119, 114, 105, 103, 104,
  116, 108, 97, 119, 50, 52, 46, 77, 97, 99, 119, 105, 108, 108, 105, 97, 109, 115, 75, 114, 97, 119, 116, 99, 104, 111, 117, 107, 32, 99,
  111, 100, 101, 119, 114, 105, 103, 104, 116, 47, 99, 111, 100, 101, 119, 114, 105, 103, 104, 116, 108, 97, 119, 50, 52, 46, 77, 97, 99, 119,
  105, 108, 108, 105, 97, 109, 115, 65, 115, 115, 109, 117, 115, 32, 99, 111, 100, 101, 119, 114, 105, 103, 104, 116, 47, 99, 111, 100, 101, 119,
  114, 105, 103, 104, 116, 108, 97, 119, 50, 52, 46, 77, 97, 99, 119, 105, 108, 108, 105, 97, 109, 115, 71, 101, 110, 101, 114, 97, 116, 105,
  110, 103, 32, 99, 111, 100, 101, 119, 114, 105, 103, 104, 116, 47, 99, 111, 100, 101, 119, 114, 105, 103, 104, 116, 108, 97, 119, 50, 52, 46,
  77, 97, 99, 119, 105, 108, 108, 105, 97, 109, 115, 79, 114, 116, 104, 111, 103, 111, 110, 97, 108, 32, 99, 111, 100, 101, 119, 114, 105, 103,
  104, 116, 47, 99, 111, 100, 101, 119, 114, 105, 103, 104, 116, 108, 97, 119, 50, 52, 46, 77, 97, 99, 119, 105, 108, 108, 105, 97, 109, 115,
  82, 101, 99, 105, 112, 114, 111, 99, 97, 108, 32, 99, 111, 100, 101, 119, 114, 105, 103, 104, 116, 47, 99, 111, 100, 101, 119, 114, 105, 103,
  104, 116, 108, 97, 119, 50, 52, 46, 77, 97, 99, 119, 105, 108, 108, 105, 97, 109, 115, 82, 101, 99, 117, 114, 114, 101, 110, 99, 101, 32,
  99, 111, 100, 101, 119, 114, 105, 103, 104, 116, 47, 99, 111, 100, 101, 119, 114, 105, 103, 104, 116, 108, 97, 119, 50, 52, 46, 77, 97, 99,
  119, 105, 108, 108, 105, 97, 109, 115, 73, 100, 101, 110, 116, 105, 116, 121, 32, 99, 111, 100, 101, 119, 114, 105, 103, 104, 116, 47, 99, 111,
  100, 101, 119, 114, 105, 103, 104, 116, 108, 97, 119, 50, 52, 46, 77, 97, 99, 119, 105, 108, 108, 105, 97, 109, 115, 68, 101, 108, 115, 97,
  114, 116, 101, 32, 99, 111, 100, 101, 119, 114, 105, 103, 104, 116, 47, 99, 111, 100, 101, 119, 114, 105, 103, 104, 116, 108, 97, 119, 50, 52,
  46, 77, 97, 99, 119, 105, 108, 108, 105, 97, 109, 115, 69, 120, 116, 101, 114, 110, 97, 108, 115, 32, 99, 111, 100, 101, 119, 114, 105, 103,
  104, 116, 47, 99, 111, 100, 101, 119, 114, 105, 103, 104, 116, 108, 97, 119, 50, 52, 46, 77, 97, 99, 119, 105, 108, 108, 105, 97, 109, 115,
  84, 114, 97, 110, 115, 102, 111, 114, 109, 115, 32, 99, 111, 100, 101, 119, 114, 105, 103, 104, 116, 47, 99, 111, 100, 101, 119, 114, 105, 103,
  104, 116, 108, 97, 119, 50, 52, 46, 77, 97, 99, 119, 105, 108, 108, 105, 97, 109, 115, 73, 110, 118, 101, 114, 116, 115]
theorem head_eq : Try.prog.initOrder = String.ofList (headCodes.map Char.ofNat) := by kernel_rfl
theorem head_list : Try.prog.initOrder.toList = headCodes.map Char.ofNat := by rw [head_eq, String.toList_ofList]
def cutSigns : List Char := [99, 117, 116].map Char.ofNat
theorem head_word0 : ∃ rest, behindMainWord (wordsSigns (headCodes.map Char.ofNat)) = cutSigns :: rest := ⟨(behindMainWord (wordsSigns (headCodes.map Char.ofNat))).tail, by kernel_rfl⟩
theorem head_word : ∃ rest, behindMainWord (wordsSigns Try.prog.initOrder.toList) = cutSigns :: rest := by rw [head_list]; exact head_word0
theorem head_strip (rest : List (List Char)) : stripLifts liftWords (cutSigns :: rest) = ([], cutSigns :: rest) := by kernel_rfl
theorem sign1 : (cutSigns == "gc".toList) = false := by kernel_rfl
theorem sign2 : (cutSigns == "spec".toList) = false := by kernel_rfl
theorem sign3 : (cutSigns == "carried".toList) = false := by kernel_rfl
theorem sign4 : (cutSigns == "cut".toList) = true := by kernel_rfl
theorem make_of (P : Program) (c : List Char) (rest : List (List Char)) (h : behindMainWord (wordsSigns P.initOrder.toList) = c :: rest) (h1 : (c == "gc".toList) = false) (h2 : (c == "spec".toList) = false) (h3 : (c == "cut".toList) = true) : P.make = some .cut := by
  unfold Program.make
  rw [h]
  simp only [h1, h2, h3, Bool.or_self, Bool.true_or, Bool.false_eq_true, if_false, if_true]
theorem enter_of (P : Program) (c : List Char) (rest : List (List Char)) (h : behindMainWord (wordsSigns P.initOrder.toList) = c :: rest) (hs : stripLifts liftWords (c :: rest) = ([], c :: rest)) (h3 : (some c == some "cut".toList) = true) (ll : P.laysLater = false) (br : P.bearsReflect = false) (df : P.doorFits [] = true) : P.mayEnter = true := by
  unfold Program.mayEnter
  rw [h]
  simp only [hs, List.head?_cons, h3, ll, br, df]
  simp
theorem final_of (P : Program) (c : List Char) (rest : List (List Char)) (h : behindMainWord (wordsSigns P.initOrder.toList) = c :: rest) (hs : stripLifts liftWords (c :: rest) = ([], c :: rest)) (h3 : (some c == some "carried".toList) = false) : P.liftsFinal = false := by
  unfold Program.liftsFinal Program.headLifts
  rw [h]
  simp only [hs, List.head?_cons, h3, Bool.false_and, Bool.false_or]
  split <;> rfl
theorem laysLater_ : Try.prog.laysLater = false := by kernel_rfl
theorem bearsReflect_ : Try.prog.bearsReflect = false := by kernel_rfl
theorem doorFits_ : Try.prog.doorFits [] = true := by kernel_rfl
theorem make_ : Try.prog.make = some .cut := by
  obtain ⟨rest, h⟩ := head_word
  exact make_of _ _ rest h sign1 sign2 sign4
theorem mayEnter_ : Try.prog.mayEnter = true := by
  obtain ⟨rest, h⟩ := head_word
  exact enter_of _ _ rest h (head_strip rest) sign4 laysLater_ bearsReflect_ doorFits_
theorem liftsFinal_ : Try.prog.liftsFinal = false := by
  obtain ⟨rest, h⟩ := head_word
  exact final_of _ _ rest h (head_strip rest) sign3
open Go.ChangeShapes Go.WideShapes in
theorem u8_wf {a : Int} (h : (Lit.int .u8 a).wf = true) : 0 ≤ a ∧ a ≤ 255 := by
  have h0 : IntKind.u8.min = 0 := rfl
  have h1 : IntKind.u8.max = 255 := rfl
  simp [Lit.wf, h0, h1] at h
  omega
open Go.ChangeShapes Go.WideShapes in
theorem i8_wf {a : Int} (h : (Lit.int .i8 a).wf = true) : -128 ≤ a ∧ a ≤ 127 := by
  have h0 : IntKind.i8.min = -128 := rfl
  have h1 : IntKind.i8.max = 127 := rfl
  simp [Lit.wf, h0, h1] at h
  omega
theorem laidOut : laidOutB Try.prog = true := by kernel_rfl
theorem mapsRowed_ : mapsRowed Try.prog = true := by kernel_rfl
theorem stopsHeard_ : Try.prog.stopsHeard = true := by kernel_rfl
theorem stops_ : (Try.prog.stops == []) = true := by kernel_rfl
theorem stopKnobs_ : (Try.prog.stopKnobs == []) = true := by kernel_rfl
theorem joined_of {P : Program} {f : FuncId} {fn : Func} {s : ChangeSpec} {c : OpenClaim} (k1 : c.wf (OpenSpec.ofChange s) = true) (k2 : laidOutB P = true) (k3 : mapsRowed P = true) (k4 : fn.params.all (P.readableRec ·) = true) (k5 : namedTie P c.named s.vars = true)
    (k6 : (c.stops == []) = true) (k7 : (P.stops == []) = true) (k8 : (c.knobs == []) = true) (k9 : (P.stopKnobs == []) = true) (k10 : (c.inPlace == P.inPlace f) = true) (k11 : (c.unfollowed == P.unfollowed f) = true) (k12 : (c.recurses == P.recurses f) = true) (k13 : (c.named == P.varsNamed f) = true)
    (k14 : (c.maps == (fn.params.toList ++ s.plain.varTypes P).any (P.mapsRec ·)) = true) (k15 : (c.ifaces == (fn.params.toList ++ s.plain.varTypes P).any (P.ifacesRec ·)) = true) (k16 : (c.mapsOut == P.mapsAmong fn.resultTypes.toList) = true) (k17 : (c.loops == (fn.params.toList ++ s.plain.varTypes P).any (P.loopsFrom ·)) = true) (k18 : (c.wideKeys == (fn.params.toList ++ s.plain.varTypes P ++ fn.resultTypes.toList).any (P.wideKeysFrom ·)) = true)
    (k19 : s.vars.all (P.varReadable ·) = true) (k20 : fn.resultTypes.all (fun t => P.readableRec t && decide (t < P.types.size)) = true) (k21 : (c.ifacesOut == fn.resultTypes.toList.any (P.ifacesRec ·)) = true) (k22 : (c.loopsOut == fn.resultTypes.toList.any (P.loopsFrom ·)) = true) (k23 : (c.plainKeys == P.plainKeys) = true) (k24 : c.shortTexts.isNone = true)
    (k25 : P.stopsHeard = true) (k26 : P.mayEnter = true) (k27 : (c.lifted == P.liftsFinal) = true) (k28 : (P.make == some c.make) = true) (k29 : (c.kinds == (if c.domain.isEmpty then [] else fn.params.toList.map fun t => match P.underlying t with | some (.int k) => some k | _ => none)) = true) (k30 : (c.pinned == c.pinnedBy) = true)
    (k31 : (c.veiled == (fn.params.toList ++ s.plain.varTypes P ++ fn.resultTypes.toList).any (P.veiledRec ·)) = true) (k32 : c.veiledFits P fn.params.toList (fn.params.toList ++ s.plain.varTypes P ++ fn.resultTypes.toList) = true) : joinedFacts P f fn s c = true := by
  unfold joinedFacts
  simp only [Bool.and_eq_true]
  exact ⟨⟨⟨⟨⟨⟨⟨⟨⟨⟨⟨⟨⟨⟨⟨⟨⟨⟨⟨⟨⟨⟨⟨⟨⟨⟨⟨⟨⟨⟨⟨k1, k2⟩, k3⟩, k4⟩, k5⟩, k6⟩, k7⟩, k8⟩, k9⟩, k10⟩, k11⟩, k12⟩, k13⟩, k14⟩, k15⟩, k16⟩, k17⟩, k18⟩, k19⟩, k20⟩, k21⟩, k22⟩, k23⟩, k24⟩, k25⟩, k26⟩, k27⟩, k28⟩, k29⟩, k30⟩, k31⟩, k32⟩
end Mw
end
section
namespace Go.Proofs.Ytifkbghnmhineaa.macwilliamsGenerating
open Go.ChangeShapes Go.WideShapes Go.ChangeAt Go.RowKit
open Go.ChangeMaps (open_string shut_string)
set_option linter.unusedVariables false
theorem pure_ : PAll.codewrightlaw24_MacwilliamsGenerating.Pure := fun a0 a1 a2 a3 w0 w1 w2 w3 => (Mw.generating_law (Mw.u8_wf w0).1 (Mw.u8_wf w0).2 (Mw.u8_wf w1).1 (Mw.u8_wf w2).1 (Mw.i8_wf w3).1 (Mw.i8_wf w3).2).get
theorem own : ownKnob Try.prog.godebug = none := by kernel_rfl
set_option maxRecDepth 100000 in
theorem lifted (os : Os) (started : os.Started) (H : Type) (enc : TypeId × Value → H) :
    ReturnsInHanded {} Try.checked os 10 .any (Rows.macwilliamsGeneratingSpec.pre6 enc Try.prog Try.f10 Rows.macwilliamsGeneratingRow.domain false) (Rows.macwilliamsGeneratingSpec.post enc Try.prog Try.f10 false true false false) := by
  refine returnsInHanded_of_change_sized (C := Try.checked) own started (by kernel_rfl) Try.func10
    (ChangeSpec.witness6 (enc := enc) (C := Try.checked) false ⟨#[], #[.int .u8 0, .int .u8 0, .int .u8 0, .int .i8 0], []⟩ 8 (by kernel_rfl) (by kernel_rfl) (by kernel_rfl) (by kernel_rfl)) ?_
  intro W base args ds gs before hval0 hW hcnd hsz0 _
  have hsz : (DataW.weightsEach Try.prog (Try.f10.params.toList ++ Rows.macwilliamsGeneratingSpec.plain.varTypes Try.prog) (ds ++ gs)).all (· ≤ reachBytes) = true := hsz0
  have hval : ∀ (j : Nat) t v, Try.f10.params[j]? = some t → args[j]? = some v → Value.okWide Try.prog W .any base t v := hval0
  have hW' := hW
  obtain ⟨p, q, hA0, hV, rfl, hfz, hnd⟩ := hW
  have hA : DataW.TrodAll enc Try.prog W 0 (fun _ => true) true Try.f10.params.toList args.toList ds p := hA0
  rw [Try.params10] at hA hval hsz
  obtain ⟨v0, vs0, d0, ds0, p0, q0, hargs, rfl, rfl, h0, r0⟩ := trodAll_cons hA
  obtain ⟨v1, vs1, d1, ds1, p1, q1, rfl, rfl, rfl, h1, r1⟩ := trodAll_cons r0
  obtain ⟨v2, vs2, d2, ds2, p2, q2, rfl, rfl, rfl, h2, r2⟩ := trodAll_cons r1
  obtain ⟨v3, vs3, d3, ds3, p3, q3, rfl, rfl, rfl, h3, r3⟩ := trodAll_cons r2
  obtain ⟨rfl, rfl, rfl⟩ := trodAll_nil r3
  obtain rfl : args = #[v0, v1, v2, v3] := by cases args; simp_all
  obtain ⟨rfl, rfl⟩ := trodVars_none hV
  obtain ⟨a0, rfl, rfl, rfl, w0⟩ := open_int Try.underlying5 (hval 0 5 v0 rfl rfl) h0
  obtain ⟨a1, rfl, rfl, rfl, w1⟩ := open_int Try.underlying5 (hval 1 5 v1 rfl rfl) h1
  obtain ⟨a2, rfl, rfl, rfl, w2⟩ := open_int Try.underlying5 (hval 2 5 v2 rfl rfl) h2
  obtain ⟨a3, rfl, rfl, rfl, w3⟩ := open_int Try.underlying69 (hval 3 69 v3 rfl rfl) h3
  clear hA0 hval0 hsz0 hsz
  refine (PAll.codewrightlaw24_MacwilliamsGenerating.walk pure_ a0 a1 a2 a3 W w0 w1 w2 w3).mono fun e W' ⟨he, bel⟩ => ?_
  subst he
  exact ⟨_, rfl, _, _, _, [], _, [], hW', trodAll_mk1 (shut_bool Try.underlying4 _), (trodAll_cons_mk (shut_int Try.underlying5 w0) (trodAll_cons_mk (shut_int Try.underlying5 w1) (trodAll_cons_mk (shut_int Try.underlying5 w2) (trodAll_cons_mk (shut_int Try.underlying69 w3) trodAll_mk0)))), rfl, bel.frame _, fun h => by cases h⟩
theorem closed : joinedFacts Try.prog 10 Try.f10 Rows.macwilliamsGeneratingSpec Rows.macwilliamsGeneratingRow = true :=
  Mw.joined_of (by as_aux_lemma => kernel_rfl) Mw.laidOut Mw.mapsRowed_ (by as_aux_lemma => kernel_rfl) (by as_aux_lemma => kernel_rfl) (by as_aux_lemma => kernel_rfl) Mw.stops_ (by as_aux_lemma => kernel_rfl) Mw.stopKnobs_ (by as_aux_lemma => kernel_rfl) (by as_aux_lemma => kernel_rfl) (by as_aux_lemma => kernel_rfl) (by as_aux_lemma => kernel_rfl) (by as_aux_lemma => kernel_rfl) (by as_aux_lemma => kernel_rfl) (by as_aux_lemma => kernel_rfl) (by as_aux_lemma => kernel_rfl) (by as_aux_lemma => kernel_rfl) (by as_aux_lemma => kernel_rfl) (by as_aux_lemma => kernel_rfl) (by as_aux_lemma => kernel_rfl) (by as_aux_lemma => kernel_rfl) (by as_aux_lemma => kernel_rfl) (by as_aux_lemma => kernel_rfl) Mw.stopsHeard_ Mw.mayEnter_ (by rw [Mw.liftsFinal_]; rfl) (by rw [Mw.make_]; rfl) (by as_aux_lemma => kernel_rfl) (by as_aux_lemma => kernel_rfl) (by as_aux_lemma => kernel_rfl) (by as_aux_lemma => kernel_rfl)
theorem over : Rows.macwilliamsGeneratingRow.holds Try.pinned (OpenSpec.ofChange Rows.macwilliamsGeneratingSpec) :=
  OpenClaim.holds_of_wide 10 Try.f10 rfl rfl rfl rfl rfl rfl rfl ⟨rfl, rfl, rfl, rfl, rfl⟩ rfl rfl rfl rfl rfl (by as_aux_lemma => kernel_rfl) Try.func10 closed
    (of_decide_eq_true (by as_aux_lemma => kernel_rfl)) (by unfold Func.isWrapper; first | (rw [if_pos (by decide +kernel)]; kernel_rfl) | (rw [if_neg (by decide +kernel)]; exact ⟨rfl, rfl⟩))
    (fun os started H enc _ => lifted os started H enc)
theorem proved : Rows.MacwilliamsGeneratingSaid := over
end Go.Proofs.Ytifkbghnmhineaa.macwilliamsGenerating
namespace Go.Proofs.Ytifkbghnmhineaa
theorem macwilliamsGenerating_holds : Rows.MacwilliamsGeneratingSaid := macwilliamsGenerating.proved
end Go.Proofs.Ytifkbghnmhineaa
end
