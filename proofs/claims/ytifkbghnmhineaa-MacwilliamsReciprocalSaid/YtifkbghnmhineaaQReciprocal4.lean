/- The statement MacwilliamsReciprocal, proved for every input, and what it rests on. No condition. -/
import Derived.Test.YtifkbghnmhineaaQReciprocal3

section
set_option linter.unusedVariables false
set_option linter.unusedSimpArgs false
namespace Mw
open Go Go.RowKit Go.Proofs.YtifkbghnmhineaaW.PrintWords Go.Proofs.YtifkbghnmhineaaW.PrintLast Go.Proofs.YtifkbghnmhineaaW.PrintMore Go.Proofs.Ytifkbghnmhineaa.PAll
theorem rzero_ev {a : Nat} (h : (dg a).length < 268435456) : Ev (fun k => codewrightref01_Zero.f k (dg a)) (decide (a = 0)) := by
  simp only [codewrightref01_Zero.f]
  refine Ev.bind (rtrim2_ev h) ?_
  refine Ev.cast (Ev.some _) ?_
  by_cases h0 : a = 0
  · subst h0; rw [dg_zero]; simp
  · rw [decide_eq_false h0]
    have : (dg a).length ≠ 0 := by rw [Ne, dg_len_zero]; exact h0
    simp only [beq_eq_false_iff_ne]
    omega
theorem rgcd_loop : ∀ (b a : Nat), (dg a).length < 1048576 → (dg b).length < 1048576 → Ev (fun k => codewrightref01_Gcd.l0 k (dg a) (dg b)) (dg (Nat.gcd a b)) := by
  intro b
  induction b using Nat.strongRecOn with
  | _ b ih =>
    intro a h1 h2
    refine Ev.succ ?_
    simp only [codewrightref01_Gcd.l0]
    refine Ev.bind (rzero_ev (by omega)) ?_
    by_cases h0 : b = 0
    · subst h0
      simp only [decide_true, if_true, Nat.gcd_zero_right]
      refine Ev.bind (rtrim2_ev (by omega)) ?_
      exact Ev.some _
    · simp only [decide_eq_false h0, Bool.false_eq_true, if_false]
      refine Ev.bind (rdivmod_ev h0 h1 h2) ?_
      rw [Nat.gcd_comm, Nat.gcd_rec, Nat.gcd_comm]
      have hlt := Nat.mod_lt a (show b > 0 by omega)
      refine ih (a % b) hlt b h2 ?_
      have := dg_len_mono (Nat.le_of_lt hlt)
      omega
theorem rgcd_ev {a b : Nat} (h1 : (dg a).length < 1048576) (h2 : (dg b).length < 1048576) : Ev (fun k => codewrightref01_Gcd.f k (dg a) (dg b)) (dg (Nat.gcd a b)) := by
  simp only [codewrightref01_Gcd.f]
  exact rgcd_loop b a h1 h2
theorem short2_ev {a : Nat} (h1 : (dg a).length < 268435456) : Ev (fun k => nat_short.f k (dg a)) (dg a) := by
  refine Ev.cast (short_ev (lm_dg a) (by omega)) ?_
  rw [lv_dg, Int.toNat_natCast]
theorem ndivmod1_ev {a b : Nat} (hb0 : b ≠ 0) (hb1 : b < 4294967296) (hla : (dg a).length < 268435456) : Ev (fun k => nat_DivMod.f k (dg a) (dg b)) (dg (a / b), dg (a % b), 0) := by
  have hb : dg b = [(b : Int)] := dg_small hb0 hb1
  have hbl : (dg b).length = 1 := by rw [hb]; rfl
  simp only [nat_DivMod.f]
  refine Ev.bind (short2_ev hla) ?_
  refine Ev.bind (short2_ev (by omega)) ?_
  rw [hbl]
  simp only [if_neg (show ¬ ((1 : Nat) : Int) = 0 by omega)]
  refine Ev.bind (ncmp_ev hla (by omega)) ?_
  by_cases h : a < b
  · have hc : cmpZ (a : Int) (b : Int) < 0 := by unfold cmpZ; rw [if_pos (by omega)]; omega
    simp only [if_pos hc]
    refine Ev.bind (trim2_ev hla) ?_
    rw [Nat.div_eq_of_lt h, Nat.mod_eq_of_lt h, dg_zero]
    exact Ev.some _
  · have hc : ¬ cmpZ (a : Int) (b : Int) < 0 := by unfold cmpZ; rw [if_neg (by omega)]; split <;> omega
    simp only [if_neg hc, if_pos (show ((1 : Nat) : Int) = 1 by omega), if_pos (show (0 : Int) < ((1 : Nat) : Int) by omega)]
    have hr : rd (dg b) 0 = (b : Int) := by rw [hb]; rfl
    rw [hr]
    refine Ev.bind (digit_ev (lm_dg a) (by omega) (by omega) (by omega)) ?_
    have hm : lv (dg a) % (b : Int) = ((a % b : Nat) : Int) := by rw [lv_dg, Int.natCast_emod]
    have hd : (lv (dg a) / (b : Int)).toNat = a / b := by rw [lv_dg, ← Int.natCast_ediv, Int.toNat_natCast]
    have hmb : a % b < b := Nat.mod_lt _ (by omega)
    rw [hm, hd]
    clear hm hd hr
    simp only [u64w (x := ((a % b : Nat) : Int)) (by omega) (by omega)]
    refine Ev.bind (of_ev (by omega)) ?_
    exact Ev.some _
theorem ngcd_loop : ∀ (b a : Nat), b < 4294967296 → (dg a).length < 1048576 → Ev (fun k => nat_Gcd.l0 k (dg a) (dg b)) (dg (Nat.gcd a b)) := by
  intro b
  induction b using Nat.strongRecOn with
  | _ b ih =>
    intro a h2 h1
    refine Ev.succ ?_
    by_cases h0 : b = 0
    · subst h0
      rw [dg_zero]
      simp only [nat_Gcd.l0, List.length_nil, if_neg (show ¬ ((0 : Nat) : Int) > 0 by omega), Nat.gcd_zero_right]
      refine Ev.bind (trim2_ev (by omega)) ?_
      exact Ev.some _
    · have hbl : (dg b).length = 1 := by rw [dg_small h0 h2]; rfl
      simp only [nat_Gcd.l0, if_pos (show ((dg b).length : Int) > 0 by omega)]
      refine Ev.bind (ndivmod1_ev h0 h2 (by omega)) ?_
      rw [Nat.gcd_comm, Nat.gcd_rec, Nat.gcd_comm]
      have hlt := Nat.mod_lt a (show b > 0 by omega)
      exact ih (a % b) hlt b (by omega) (by omega)
theorem ngcd_ev {a b : Nat} (h1 : (dg a).length < 1048576) (h2 : b < 4294967296) : Ev (fun k => nat_Gcd.f k (dg a) (dg b)) (dg (Nat.gcd a b)) := by
  simp only [nat_Gcd.f]
  refine Ev.bind (short2_ev (by omega)) ?_
  have hbl : (dg b).length ≤ 1 := dg_len_le (by rw [show (1 : Nat) = 0 + 1 from rfl, bp_succ, bp_zero]; omega)
  refine Ev.bind (short2_ev (by omega)) ?_
  exact ngcd_loop b a h2 h1
def sg (neg : Bool) (n : Nat) : Int := if neg = true then -(n : Int) else (n : Int)
def rz (z : Int) : Bool × List Int × List Int := (decide (z < 0), dg z.natAbs, dg 1)
theorem sg_abs (neg : Bool) (n : Nat) : (sg neg n).natAbs = n := by unfold sg; cases neg <;> simp
theorem sg_neg {neg : Bool} {n : Nat} (h : n ≠ 0) : decide (sg neg n < 0) = neg := by
  unfold sg
  cases neg
  · simp
  · simp; omega
theorem sg_self (z : Int) : sg (decide (z < 0)) z.natAbs = z := by
  unfold sg
  by_cases h : z < 0
  · rw [if_pos (decide_eq_true h)]; omega
  · rw [if_neg (by simpa using h)]; omega
theorem rz_sg {neg : Bool} {n : Nat} (h : n ≠ 0) : rz (sg neg n) = (neg, dg n, dg 1) := by
  unfold rz
  rw [sg_neg h, sg_abs]
theorem rz_zero : rz 0 = (false, [], [1]) := by unfold rz; simp [dg_zero, dg_one]
theorem sg_zero (neg : Bool) : sg neg 0 = 0 := by unfold sg; cases neg <;> simp
theorem one_len : (dg 1).length = 1 := by rw [dg_one]; rfl
theorem rmake_ev {neg : Bool} {n : Nat} (h : (dg n).length < 1048576) : Ev (fun k => codewrightref02_Make.f k neg (dg n) (dg 1)) (rz (sg neg n)) := by
  simp only [codewrightref02_Make.f]
  refine Ev.bind (rzero_ev (by omega)) ?_
  by_cases h0 : n = 0
  · subst h0
    simp only [decide_true, if_true]
    refine Ev.succ ?_
    simp only [codewrightref02_Make.j0, if_true]
    rw [sg_zero, rz_zero]
    exact Ev.some _
  · simp only [decide_eq_false h0, Bool.false_eq_true, if_false]
    have := one_len
    refine Ev.bind (rzero_ev (by omega)) ?_
    refine Ev.succ ?_
    simp only [show decide ((1 : Nat) = 0) = false from rfl, codewrightref02_Make.j0, Bool.false_eq_true, if_false]
    refine Ev.bind (rgcd_ev h (by omega)) ?_
    rw [Nat.gcd_one_right]
    refine Ev.bind (rdivmod_ev (by decide) h (by omega)) ?_
    refine Ev.bind (rdivmod_ev (by decide) (by omega) (by omega)) ?_
    simp only [Nat.div_one]
    rw [rz_sg h0]
    exact Ev.some _
theorem ncanon_ev {neg : Bool} {n : Nat} (h : (dg n).length < 1048576) : Ev (fun k => rational_canonical.f k neg (dg n) (dg 1)) (rz (sg neg n)) := by
  have h1 := one_len
  simp only [rational_canonical.f]
  refine Ev.bind (bits_ev (by omega)) ?_
  by_cases h0 : n = 0
  · subst h0
    simp only [bl_zero.mpr rfl, if_pos (show ((0 : Nat) : Int) = 0 from rfl)]
    refine Ev.succ ?_
    simp only [rational_canonical.j0, if_true, rational_one.f, Option.bind_some]
    rw [sg_zero, rz_zero]
    exact Ev.some _
  · have hb0 : bl n ≠ 0 := fun e => h0 (bl_zero.mp e)
    simp only [if_neg (show ¬ ((bl n : Nat) : Int) = 0 by omega)]
    refine Ev.bind (bits_ev (by omega)) ?_
    rw [bl_one.mpr rfl]
    refine Ev.succ ?_
    simp only [show (((1 : Nat) : Int) == 0) = false from rfl, rational_canonical.j0, Bool.false_eq_true, if_false]
    refine Ev.bind (ngcd_ev h (by decide)) ?_
    rw [Nat.gcd_one_right]
    refine Ev.bind (ndivmod1_ev (by decide) (by decide) (by omega)) ?_
    refine Ev.bind (ndivmod1_ev (by decide) (by decide) (by omega)) ?_
    simp only [Nat.div_one]
    rw [rz_sg h0]
    exact Ev.some _
theorem ntrim_rat_ev {neg : Bool} {n : Nat} (h : (dg n).length < 1048576) : Ev (fun k => rational_Trim.f k neg (dg n) (dg 1)) (rz (sg neg n)) := by
  simp only [rational_Trim.f]
  refine Ev.bind (ncanon_ev h) ?_
  exact Ev.some _
theorem ratio1_ev {neg : Bool} {n : Nat} (h : (dg n).length < 1048576) : Ev (fun k => macwilliams_ratio.f k neg (dg n) (dg 1)) (rz (sg neg n)) := by
  simp only [macwilliams_ratio.f]
  refine Ev.bind (ntrim_rat_ev h) ?_
  exact Ev.some _
def Few (z : Int) : Prop := (dg z.natAbs).length < 262144
theorem rtrimq_ev {z : Int} (h : Few z) : Ev (fun k => codewrightref02_Trim.f k (rz z).1 (rz z).2.1 (rz z).2.2) (rz z) := by
  have h : (dg z.natAbs).length < 262144 := h
  simp only [codewrightref02_Trim.f]
  refine Ev.bind (rmake_ev (neg := decide (z < 0)) (n := z.natAbs) (by omega)) ?_
  rw [sg_self]
  exact Ev.some _
theorem rnatq_ev {n : Nat} (h : (dg n).length < 262144) : Ev (fun k => codewrightref02_Nat.f k (dg n)) (rz (n : Int)) := by
  simp only [codewrightref02_Nat.f, show ([1] : List Int) = dg 1 from dg_one.symm]
  refine Ev.bind (rmake_ev (neg := false) (n := n) (by omega)) ?_
  exact Ev.some _
theorem rmulq_ev {x y : Int} (hx : Few x) (hy : Few y) : Ev (fun k => codewrightref02_Mul.f k (rz x).1 (rz x).2.1 (rz x).2.2 (rz y).1 (rz y).2.1 (rz y).2.2) (rz (x * y)) := by
  simp only [codewrightref02_Mul.f]
  refine Ev.bind (rtrimq_ev hx) ?_
  refine Ev.bind (rtrimq_ev hy) ?_
  have hx : (dg x.natAbs).length < 262144 := hx
  have hy : (dg y.natAbs).length < 262144 := hy
  have h1 := one_len
  have hm := mul_len x.natAbs y.natAbs
  simp only [rz]
  refine Ev.bind (rmul2_ev (by omega) (by omega)) ?_
  refine Ev.bind (rmul2_ev (by omega) (by omega)) ?_
  rw [Nat.mul_one]
  refine Ev.bind (rmake_ev (by omega)) ?_
  refine Ev.cast (Ev.some _) ?_
  have e : sg (decide (x < 0) != decide (y < 0)) (x.natAbs * y.natAbs) = x * y := by
    have hx2 := sg_self x
    have hy2 := sg_self y
    conv => rhs; rw [← hx2, ← hy2]
    unfold sg
    by_cases g1 : x < 0 <;> by_cases g2 : y < 0 <;> simp [g1, g2, Int.neg_mul, Int.mul_neg]
  rw [e]
  rfl
theorem rsameq_ev {x y : Int} (hx : Few x) (hy : Few y) : Ev (fun k => codewrightref02_Same.f k (rz x).1 (rz x).2.1 (rz x).2.2 (rz y).1 (rz y).2.1 (rz y).2.2) (decide (x = y)) := by
  have hx : (dg x.natAbs).length < 262144 := hx
  have h1 := one_len
  simp only [codewrightref02_Same.f, rz]
  by_cases hs : (decide (x < 0) == decide (y < 0)) = true
  · simp only [hs, if_true]
    refine Ev.bind (same_ev _ _ (by omega)) ?_
    by_cases he : dg x.natAbs = dg y.natAbs
    · simp only [decide_eq_true he, if_true]
      refine Ev.bind (same_ev _ _ (by omega)) ?_
      have e : x = y := by
        have h2 := dg_inj he
        have h3 : decide (x < 0) = decide (y < 0) := by simpa using hs
        rw [← sg_self x, ← sg_self y, h3, h2]
      rw [decide_eq_true e]
      exact Ev.cast (Ev.some _) (by simp)
    · simp only [decide_eq_false he, Bool.false_eq_true, if_false]
      exact Ev.cast (Ev.some _) (decide_eq_false (fun e => he (by rw [e]))).symm
  · simp only [hs, Bool.false_eq_true, if_false]
    exact Ev.cast (Ev.some _) (decide_eq_false (fun e => hs (by rw [e]; simp))).symm
theorem risq_ev {x : Int} (hx : Few x) : Ev (fun k => codewrightref02_Is.f k (rz x).1 (rz x).2.1 (rz x).2.2) true := by
  simp only [codewrightref02_Is.f]
  refine Ev.bind (rtrimq_ev hx) ?_
  refine Ev.bind (rsameq_ev hx hx) ?_
  exact Ev.cast (Ev.some _) (by simp)
theorem rabs_ev {z : Int} (h0 : -4611686018427387904 ≤ z) (h1 : z ≤ 4611686018427387904) : Ev (fun k => codewrightref02_abs.f k z) (dg z.natAbs) := by
  simp only [codewrightref02_abs.f]
  by_cases h : z < 0
  · simp only [if_pos h]
    have e : IntKind.u64.wrap (wrap64 (-(wrap64 (z + 1)))) = ((z.natAbs - 1 : Nat) : Int) := by
      rw [w64 (x := z + 1) (by omega) (by omega), w64 (x := -(z + 1)) (by omega) (by omega), u64w (by omega) (by omega)]
      omega
    rw [e]
    clear e
    refine Ev.bind (rof_ev (by omega)) ?_
    rw [show ([1] : List Int) = dg 1 from dg_one.symm]
    have hl : (dg (z.natAbs - 1)).length ≤ 3 := dg_len_le (by
      simp only [bp_succ, bp_zero]; omega)
    have := one_len
    refine Ev.bind (radd2_ev (by omega) (by omega)) ?_
    exact Ev.cast (Ev.some _) (by congr 1; omega)
  · simp only [if_neg h]
    have e : IntKind.u64.wrap z = ((z.natAbs : Nat) : Int) := by rw [u64w (by omega) (by omega)]; omega
    rw [e]
    clear e
    refine Ev.bind (rof_ev (by omega)) ?_
    exact Ev.some _
theorem rintq_ev {z : Int} (h0 : -4611686018427387904 ≤ z) (h1 : z ≤ 4611686018427387904) : Ev (fun k => codewrightref02_Int.f k z) (rz z) := by
  simp only [codewrightref02_Int.f, codewrightref02_Of.f]
  refine Ev.bind (Ev.bind (rabs_ev h0 h1) (Ev.bind (rabs_ev (z := 1) (by omega) (by omega)) (Ev.bind (rmake_ev (neg := (decide (z < 0) != decide ((1 : Int) < 0))) (n := z.natAbs) ?_) (Ev.some _)))) ?_
  · have hl : (dg z.natAbs).length ≤ 3 := dg_len_le (by simp only [bp_succ, bp_zero]; omega)
    omega
  · refine Ev.cast (Ev.some _) ?_
    have e : (decide (z < 0) != decide ((1 : Int) < 0)) = decide (z < 0) := by simp
    rw [e, sg_self]
end Mw
end
section
set_option linter.unusedVariables false
set_option linter.unusedSimpArgs false
namespace Mw
open Go Go.RowKit Go.Proofs.YtifkbghnmhineaaW.PrintWords Go.Proofs.YtifkbghnmhineaaW.PrintLast Go.Proofs.YtifkbghnmhineaaW.PrintMore Go.Proofs.Ytifkbghnmhineaa.PAll
theorem sg_len {b : Bool} {n : Nat} {z : Int} (h : sg b n = z) : n = z.natAbs := by rw [← h, sg_abs]
theorem nplus_ev {b1 b2 : Bool} {n1 n2 : Nat} (h1 : (dg n1).length < 134217728) (h2 : (dg n2).length < 134217728) :
    ∃ b n, Ev (fun k => macwilliams_plus.f k b1 (dg n1) b2 (dg n2)) (b, dg n) ∧ sg b n = sg b1 n1 + sg b2 n2 := by
  by_cases hs : (b1 == b2) = true
  · refine ⟨b1, n1 + n2, ?_, ?_⟩
    · simp only [macwilliams_plus.f, hs, if_true]
      refine Ev.bind (add2_ev (by omega) (by omega)) ?_
      exact Ev.some _
    · have e : b1 = b2 := by simpa using hs
      subst e
      unfold sg
      cases b1 <;> simp <;> omega
  · have hne : b1 ≠ b2 := by intro e; exact hs (by simp [e])
    by_cases hlt : n1 < n2
    · refine ⟨b2, n2 - n1, ?_, ?_⟩
      · have hc : cmpZ (n1 : Int) (n2 : Int) < 0 := by unfold cmpZ; rw [if_pos (by omega)]; omega
        simp only [macwilliams_plus.f, hs, Bool.false_eq_true, if_false]
        refine Ev.bind (ncmp_ev (by omega) (by omega)) ?_
        simp only [if_pos hc]
        refine Ev.bind (nsub_ev (by omega) (by omega)) ?_
        exact Ev.some _
      · unfold sg
        cases b1 <;> cases b2 <;> simp at hne ⊢ <;> omega
    · refine ⟨b1, n1 - n2, ?_, ?_⟩
      · have hc : ¬ cmpZ (n1 : Int) (n2 : Int) < 0 := by unfold cmpZ; rw [if_neg (by omega)]; split <;> omega
        simp only [macwilliams_plus.f, hs, Bool.false_eq_true, if_false]
        refine Ev.bind (ncmp_ev (by omega) (by omega)) ?_
        simp only [if_neg hc]
        refine Ev.bind (nsub_ev (by omega) (by omega)) ?_
        exact Ev.some _
      · unfold sg
        cases b1 <;> cases b2 <;> simp at hne ⊢ <;> omega
theorem sg_not (b : Bool) (n : Nat) : sg (!b) n = - sg b n := by unfold sg; cases b <;> simp
theorem nminus_ev {b1 b2 : Bool} {n1 n2 : Nat} (h1 : (dg n1).length < 134217728) (h2 : (dg n2).length < 134217728) :
    ∃ b n, Ev (fun k => macwilliams_minus.f k b1 (dg n1) b2 (dg n2)) (b, dg n) ∧ sg b n = sg b1 n1 - sg b2 n2 := by
  obtain ⟨b, n, h, e⟩ := nplus_ev (b1 := b1) (b2 := !b2) h1 h2
  refine ⟨b, n, ?_, ?_⟩
  · simp only [macwilliams_minus.f]
    refine Ev.bind h ?_
    exact Ev.some _
  · rw [e, sg_not]; omega
theorem ntimes_ev {b1 b2 : Bool} {n1 n2 : Nat} (h1 : (dg n1).length < 134217728) (h2 : (dg n2).length < 134217728) :
    ∃ b n, Ev (fun k => macwilliams_times.f k b1 (dg n1) b2 (dg n2)) (b, dg n) ∧ sg b n = sg b1 n1 * sg b2 n2 := by
  refine ⟨b1 != b2, n1 * n2, ?_, ?_⟩
  · simp only [macwilliams_times.f]
    refine Ev.bind (mul2_ev h1 h2) ?_
    exact Ev.some _
  · unfold sg
    cases b1 <;> cases b2 <;> simp [Int.neg_mul, Int.mul_neg]
theorem sm_abs {M : Nat} {f : Nat → Int} : ∀ n : Nat, (∀ i, i < n → (f i).natAbs ≤ M) → (sm n f).natAbs ≤ n * M := by
  intro n
  induction n with
  | zero => intro _; simp [sm]
  | succ n ih =>
    intro h
    have h1 := ih (fun i hi => h i (by omega))
    have h2 := h n (by omega)
    rw [sm, Nat.succ_mul]
    have := Int.natAbs_add_le (sm n f) (f n)
    omega
theorem kr_len {g a b k : Nat} (hg : g < 4294967296) (ha : a ≤ 64) (hb : b ≤ 64) (hk : k ≤ 64) : (dg (kr (g : Int) a b k).natAbs).length ≤ 324 := by
  rw [kr_formula]
  have hgl : (dg g).length ≤ 1 := dg_len_le (by rw [show (1 : Nat) = 0 + 1 from rfl, bp_succ, bp_zero]; omega)
  have hterm : ∀ j, j < k + 1 → ((-1 : Int) ^ j * ((g : Int) ^ (k - j) * ((bin b j : Int) * (bin a (k - j) : Int)))).natAbs ≤ bp 323 := by
    intro j hj
    have h1 : (dg (g ^ (k - j))).length ≤ 65 := by have := pow_len g (k - j) 1 hgl; omega
    have h2 := bin_len (n := b) (by omega) j
    have h3 := bin_len (n := a) (by omega) (k - j)
    have e : ((-1 : Int) ^ j * ((g : Int) ^ (k - j) * ((bin b j : Int) * (bin a (k - j) : Int)))).natAbs = g ^ (k - j) * (bin b j * bin a (k - j)) := by
      rw [Int.natAbs_mul, Int.natAbs_pow, Int.natAbs_mul, Int.natAbs_pow, Int.natAbs_mul]
      simp
    rw [e]
    have h4 := mul_len (bin b j) (bin a (k - j))
    have h5 := mul_len (g ^ (k - j)) (bin b j * bin a (k - j))
    exact Nat.le_of_lt (Nat.lt_of_lt_of_le (dg_lt_len _) (bp_mono (by omega)))
  have h := sm_abs (k + 1) hterm
  unfold krF
  refine dg_len_le ?_
  refine Nat.lt_of_le_of_lt h ?_
  rw [show 324 = 323 + 1 from rfl, bp_succ 323]
  have hp := bp_pos 323
  have : (k + 1) * bp 323 ≤ 65 * bp 323 := Nat.mul_le_mul_right _ (by omega)
  generalize bp 323 = p at *
  omega
def Num (e : S113) (z : Int) : Prop := ∃ b n, e = ⟨b, dg n⟩ ∧ sg b n = z
structure PRow (g n x m : Nat) (row : List S113) : Prop where
  len : row.length = m
  at' : ∀ k, k < m → Num (rd_T113 row (k : Int)) (kr (g : Int) (n - x) x k)
theorem rdT_app_lt {l m : List S113} {k : Nat} (h : k < l.length) : rd_T113 (l ++ m) (k : Int) = rd_T113 l (k : Int) := by
  unfold rd_T113
  simp [List.getD_eq_getElem?_getD, List.getElem?_append_left h]
theorem rdT_app_eq {l : List S113} {e : S113} {k : Nat} (h : k = l.length) : rd_T113 (l ++ [e]) (k : Int) = e := by
  subst h
  unfold rd_T113
  simp [List.getD_eq_getElem?_getD]
theorem rdL_app_lt {l m : List (List S113)} {k : Nat} (h : k < l.length) : rd_L6 (l ++ m) (k : Int) = rd_L6 l (k : Int) := by
  unfold rd_L6
  simp [List.getD_eq_getElem?_getD, List.getElem?_append_left h]
theorem rdL_app_eq {l : List (List S113)} {e : List S113} {k : Nat} (h : k = l.length) : rd_L6 (l ++ [e]) (k : Int) = e := by
  subst h
  unfold rd_L6
  simp [List.getD_eq_getElem?_getD]
theorem rdT_set_eq {l : List S113} {e : S113} {i : Nat} (h : i < l.length) : rd_T113 (l.set i e) (i : Int) = e := by
  unfold rd_T113
  simp [List.getD_eq_getElem?_getD, h]
theorem rdT_set_ne {l : List S113} {e : S113} {i j : Nat} (h : i ≠ j) : rd_T113 (l.set i e) (j : Int) = rd_T113 l (j : Int) := by
  unfold rd_T113
  simp [List.getD_eq_getElem?_getD, h]
theorem row_loop {g n x : Nat} (hg : g < 256) (hn : n ≤ 64) (hx : x < n) {rows : List (List S113)} {old : List S113} {T : List (List S113) → Prop} (hrl : rows.length ≤ 65) (hold : PRow g n x (n + 1) old)
    (next : ∀ row, PRow g n (x + 1) (n + 1) row → ∃ t, Ev (fun k => macwilliams_table.l1 k (n : Int) (rows ++ [row]) (n : Int) ((x + 1 : Nat) : Int) false (dg g)) t ∧ T t) :
    ∀ (d k : Nat) (row : List S113), k + 1 + d = n + 1 → PRow g n (x + 1) (k + 1) row →
      ∃ t, Ev (fun kk => macwilliams_table.l2 kk (n : Int) rows old row ((k + 1 : Nat) : Int) (n : Int) (x : Int) false (dg g)) t ∧ T t := by
  intro d
  induction d with
  | zero =>
    intro k row hk hrow
    have hk : k = n := by omega
    subst hk
    obtain ⟨t, ht, hT⟩ := next row hrow
    refine ⟨t, Ev.succ ?_, hT⟩
    simp only [macwilliams_table.l2, if_neg (show ¬ ((k + 1 : Nat) : Int) ≤ (k : Int) by omega), if_pos (show rows.length < 5864062014805 by omega), wn (show (x : Int) + 1 = ((x + 1 : Nat) : Int) by omega) (by omega)]
    exact ht
  | succ d ih =>
    intro k row hk hrow
    have hol := hold.len
    have hrl2 := hrow.len
    obtain ⟨b1, n1, e1, s1⟩ := hold.at' (k + 1) (by omega)
    obtain ⟨b2, n2, e2, s2⟩ := hold.at' k (by omega)
    obtain ⟨b3, n3, e3, s3⟩ := hrow.at' k (by omega)
    have l1 : (dg n1).length ≤ 324 := by rw [sg_len s1]; exact kr_len (by omega) (by omega) (by omega) (by omega)
    have l2 : (dg n2).length ≤ 324 := by rw [sg_len s2]; exact kr_len (by omega) (by omega) (by omega) (by omega)
    have l3 : (dg n3).length ≤ 324 := by rw [sg_len s3]; exact kr_len (by omega) (by omega) (by omega) (by omega)
    have lg : (dg g).length ≤ 1 := dg_len_le (by rw [show (1 : Nat) = 0 + 1 from rfl, bp_succ, bp_zero]; omega)
    obtain ⟨b4, n4, v4, s4⟩ := nminus_ev (b1 := b1) (b2 := b2) (n1 := n1) (n2 := n2) (by omega) (by omega)
    have l4 : (dg n4).length ≤ 326 := by
      refine dg_len_le ?_
      rw [sg_len s4]
      have t := Int.natAbs_sub_le (sg b1 n1) (sg b2 n2)
      rw [sg_abs, sg_abs] at t
      have q1 := Nat.lt_of_lt_of_le (dg_lt_len n1) (bp_mono l1)
      have q2 := Nat.lt_of_lt_of_le (dg_lt_len n2) (bp_mono l2)
      rw [show 326 = 324 + 1 + 1 from rfl, bp_succ, bp_succ]
      generalize bp 324 = p at *
      omega
    obtain ⟨b5, n5, v5, s5⟩ := ntimes_ev (b1 := false) (b2 := b3) (n1 := g) (n2 := n3) (by omega) (by omega)
    have l5 : (dg n5).length ≤ 326 := by
      have t : n5 = g * n3 := by rw [sg_len s5, Int.natAbs_mul, sg_abs, sg_abs]
      have := mul_len g n3
      rw [t]
      omega
    obtain ⟨b6, n6, v6, s6⟩ := nminus_ev (b1 := b4) (b2 := b5) (n1 := n4) (n2 := n5) (by omega) (by omega)
    have hval : sg b6 n6 = kr (g : Int) (n - (x + 1)) (x + 1) (k + 1) := by
      rw [s6, s4, s5, s1, s2, s3]
      have hr := kr_row (g : Int) (n - (x + 1)) x k
      rw [show n - (x + 1) + 1 = n - x by omega] at hr
      rw [hr]
      rfl
    have hnew : PRow g n (x + 1) (k + 1 + 1) (row ++ [⟨b6, dg n6⟩]) := by
      refine ⟨by rw [List.length_append, hrl2]; rfl, fun j hj => ?_⟩
      by_cases hjk : j < k + 1
      · rw [rdT_app_lt (by omega)]; exact hrow.at' j hjk
      · have hj2 : j = k + 1 := by omega
        subst hj2
        rw [rdT_app_eq hrl2.symm]
        exact ⟨b6, n6, rfl, hval⟩
    obtain ⟨t, ht, hT⟩ := ih (k + 1) _ (by omega) hnew
    refine ⟨t, Ev.succ ?_, hT⟩
    simp only [macwilliams_table.l2, wn (show ((k + 1 : Nat) : Int) - 1 = (k : Int) by omega) (by omega), wn (show ((k + 1 : Nat) : Int) + 1 = ((k + 1 + 1 : Nat) : Int) by omega) (by omega), if_pos (show ((k + 1 : Nat) : Int) ≤ (n : Int) by omega), if_pos (show (0 : Int) ≤ ((k + 1 : Nat) : Int) by omega), if_pos (show ((k + 1 : Nat) : Int) < (old.length : Int) by omega), if_pos (show (0 : Int) ≤ (k : Int) by omega), if_pos (show (k : Int) < (old.length : Int) by omega), if_pos (show (k : Int) < (row.length : Int) by omega), if_pos (show row.length < 4398046511104 by omega), e1, e2, e3]
    refine Ev.bind v4 ?_
    refine Ev.bind v5 ?_
    refine Ev.bind v6 ?_
    exact ht
structure Tab (g n m : Nat) (t : List (List S113)) : Prop where
  len : t.length = m
  at' : ∀ x, x < m → PRow g n x (n + 1) (rd_L6 t (x : Int))
theorem rows_loop {g n : Nat} (hg : g < 256) (hn : n ≤ 64) : ∀ (d x : Nat) (rows : List (List S113)), x + d = n → Tab g n (x + 1) rows →
    ∃ t, Ev (fun k => macwilliams_table.l1 k (n : Int) rows (n : Int) (x : Int) false (dg g)) t ∧ Tab g n (n + 1) t := by
  intro d
  induction d with
  | zero =>
    intro x rows hx ht
    have hx : x = n := by omega
    subst hx
    refine ⟨rows, Ev.succ ?_, ht⟩
    simp only [macwilliams_table.l1, if_neg (show ¬ (x : Int) < (x : Int) by omega)]
    exact Ev.some _
  | succ d ih =>
    intro x rows hx ht
    have hl := ht.len
    have hold := ht.at' x (by omega)
    obtain ⟨b0, n0, e0, s0⟩ := hold.at' 0 (by omega)
    have hol := hold.len
    have hfirst : PRow g n (x + 1) (0 + 1) [⟨b0, dg n0⟩] := by
      refine ⟨rfl, fun k hk => ?_⟩
      have hk : k = 0 := by omega
      subst hk
      refine ⟨b0, n0, rfl, ?_⟩
      rw [s0, kr_zero, kr_zero]
    obtain ⟨t, hev, hT⟩ := row_loop hg hn (show x < n by omega) (rows := rows) (T := Tab g n (n + 1)) (by omega) hold (fun row hrow => ih (x + 1) (rows ++ [row]) (by omega) ⟨by rw [List.length_append, hl]; rfl, fun y hy => by
      by_cases hyx : y < x + 1
      · rw [rdL_app_lt (by omega)]; exact ht.at' y hyx
      · have : y = x + 1 := by omega
        subst this
        rw [rdL_app_eq hl.symm]; exact hrow⟩) n 0 _ (by omega) hfirst
    refine ⟨t, Ev.succ ?_, hT⟩
    have e0' : rd_T113 (rd_L6 rows (x : Int)) 0 = ⟨b0, dg n0⟩ := e0
    simp only [macwilliams_table.l1, if_pos (show (x : Int) < (n : Int) by omega), wn (show (rows.length : Int) - 1 = (x : Int) by omega) (by omega), if_pos (show (0 : Int) ≤ (x : Int) by omega), if_pos (show (x : Int) < (rows.length : Int) by omega), if_pos (show (0 : Int) < ((rd_L6 rows (x : Int)).length : Int) by omega), e0']
    exact hev
theorem first_loop {q n : Nat} (hq : 2 ≤ q) (hq2 : q ≤ 256) (hn : n ≤ 64) : ∀ (d i : Nat) (row : List S113), i + d = n + 1 → row.length = n + 1 → (∀ k, k < i → Num (rd_T113 row (k : Int)) (kr ((q - 1 : Nat) : Int) n 0 k)) →
    ∃ t, Ev (fun k => macwilliams_table.l0 k (q : Int) (n : Int) row ((n + 1 : Nat) : Int) (i : Int)) t ∧ Tab (q - 1) n (n + 1) t := by
  intro d
  have hw : wrap64 ((q : Int) - 1) = ((q - 1 : Nat) : Int) := wn (by omega) (by omega)
  have hu : IntKind.u64.wrap ((q - 1 : Nat) : Int) = ((q - 1 : Nat) : Int) := u64w (by clear hw; omega) (by clear hw; omega)
  have hw := Aside0.mk hw
  have hu := Aside0.mk hu
  induction d with
  | zero =>
    intro i row hi hrl hrow
    have hi : i = n + 1 := by omega
    subst hi
    obtain ⟨t, ht, hT⟩ := rows_loop (g := q - 1) (n := n) (by omega) hn n 0 [row] (by omega) ⟨rfl, fun x hx => by
      have : x = 0 := by omega
      subst this
      exact ⟨hrl, fun k hk => hrow k hk⟩⟩
    refine ⟨t, Ev.succ ?_, hT⟩
    simp only [macwilliams_table.l0, if_neg (show ¬ ((n + 1 : Nat) : Int) < ((n + 1 : Nat) : Int) by omega), macwilliams_small.f, hw.out, hu.out]
    refine Ev.bind (Ev.bind (of_ev (by omega)) (Ev.some _)) ?_
    exact ht
  | succ d ih =>
    intro i row hi hrl hrow
    have hlb := bin_len (n := n) (by omega) i
    have hgl : (dg (q - 1)).length ≤ 1 := dg_len_le (by rw [show (1 : Nat) = 0 + 1 from rfl, bp_succ, bp_zero]; omega)
    have hlp := pow_len (q - 1) i 1 hgl
    obtain ⟨t, ht, hT⟩ := ih (i + 1) (row.set i ⟨false, dg (bin n i * (q - 1) ^ i)⟩) (by omega) (by rw [List.length_set]; exact hrl) (fun k hk => by
      by_cases e : k = i
      · subst e
        rw [rdT_set_eq (by omega)]
        refine ⟨false, _, rfl, ?_⟩
        rw [kr_first]
        unfold sg
        simp [Int.natCast_mul, Int.natCast_pow]
      · rw [rdT_set_ne (by omega)]; exact hrow k (by omega))
    refine ⟨t, Ev.succ ?_, hT⟩
    simp only [macwilliams_table.l0, if_pos (show (i : Int) < ((n + 1 : Nat) : Int) by omega), hw.out, hu.out, if_pos (show (0 : Int) ≤ (i : Int) by omega), if_pos (show (i : Int) < (row.length : Int) by omega), wn (show (i : Int) + 1 = ((i + 1 : Nat) : Int) by omega) (by omega), Int.toNat_natCast]
    refine Ev.bind (binomial_ev (by omega) (by omega)) ?_
    refine Ev.bind (of_ev (by omega)) ?_
    refine Ev.bind (pow_ev (by omega) (by omega)) ?_
    refine Ev.bind (mul2_ev (by omega) (by omega)) ?_
    exact ht
theorem table_ev {q n : Nat} (hq : 2 ≤ q) (hq2 : q ≤ 256) (hn : n ≤ 64) : ∃ t, Ev (fun k => macwilliams_table.f k (q : Int) (n : Int)) t ∧ Tab (q - 1) n (n + 1) t := by
  obtain ⟨t, ht, hT⟩ := first_loop hq hq2 hn (n + 1) 0 (List.replicate (n + 1) z113) (by omega) (by simp) (fun k hk => by omega)
  refine ⟨t, ?_, hT⟩
  simp only [macwilliams_table.f, wn (show (n : Int) + 1 = ((n + 1 : Nat) : Int) by omega) (by omega), Int.toNat_natCast, if_pos (show (0 : Int) ≤ ((n + 1 : Nat) : Int) by omega), if_pos (show n + 1 ≤ 8796093022208 by omega), Option.bind_some, List.length_replicate]
  exact ht
end Mw
end
section
set_option linter.unusedVariables false
set_option linter.unusedSimpArgs false
namespace Mw
open Go Go.RowKit Go.Proofs.YtifkbghnmhineaaW.PrintWords Go.Proofs.YtifkbghnmhineaaW.PrintLast Go.Proofs.YtifkbghnmhineaaW.PrintMore Go.Proofs.Ytifkbghnmhineaa.PAll
theorem kraw_ok {q n j x : Nat} (hq : 2 ≤ q) (hq2 : q ≤ 256) (hn : n ≤ 64) (hj : j ≤ n) (hx : x ≤ n) :
    Ev (fun k => macwilliams_Krawtchouk.f k (q : Int) (n : Int) (j : Int) (x : Int)) ((rz (kr ((q - 1 : Nat) : Int) (n - x) x j)).1, (rz (kr ((q - 1 : Nat) : Int) (n - x) x j)).2.1, (rz (kr ((q - 1 : Nat) : Int) (n - x) x j)).2.2, 0) := by
  simp only [macwilliams_Krawtchouk.f, if_neg (show ¬ (q : Int) < 2 by omega), if_neg (show ¬ (q : Int) > 256 by omega), if_neg (show ¬ (n : Int) < 0 by omega), if_neg (show ¬ (n : Int) > 64 by omega), if_neg (show ¬ (j : Int) < 0 by omega), if_neg (show ¬ (j : Int) > (n : Int) by omega), if_neg (show ¬ (x : Int) < 0 by omega), decide_eq_false (show ¬ (x : Int) > (n : Int) by omega)]
  refine Ev.succ ?_
  obtain ⟨t, ht, hT⟩ := table_ev hq hq2 hn
  have hl := hT.len
  have hr := hT.at' x (by omega)
  have hrl := hr.len
  obtain ⟨b, m, e, s⟩ := hr.at' j (by omega)
  have hm : (dg m).length ≤ 324 := by rw [sg_len s]; exact kr_len (by omega) (by omega) (by omega) (by omega)
  simp only [macwilliams_Krawtchouk.j0, Bool.false_eq_true, if_false]
  refine Ev.bind ht ?_
  simp only [if_pos (show (0 : Int) ≤ (x : Int) by omega), if_pos (show (x : Int) < (t.length : Int) by omega), if_pos (show (0 : Int) ≤ (j : Int) by omega), if_pos (show (j : Int) < ((rd_L6 t (x : Int)).length : Int) by omega), e, show ([1] : List Int) = dg 1 from dg_one.symm]
  refine Ev.bind (ratio1_ev (by omega)) ?_
  rw [s]
  exact Ev.some _
end Mw
end
section
set_option linter.unusedVariables false
set_option linter.unusedSimpArgs false
namespace Mw
open Go Go.RowKit Go.Proofs.YtifkbghnmhineaaW.PrintWords Go.Proofs.YtifkbghnmhineaaW.PrintLast Go.Proofs.YtifkbghnmhineaaW.PrintMore Go.Proofs.Ytifkbghnmhineaa.PAll
theorem few_of {z : Int} {m : Nat} (h : (dg z.natAbs).length ≤ m) (hm : m < 262144) : Few z := by unfold Few; omega
theorem few_small {z : Int} (h : z.natAbs < 4294967296) : (dg z.natAbs).length ≤ 1 := dg_len_le (by rw [show (1 : Nat) = 0 + 1 from rfl, bp_succ, bp_zero]; omega)
theorem mulq_len {x y : Int} {m n : Nat} (hx : (dg x.natAbs).length ≤ m) (hy : (dg y.natAbs).length ≤ n) : (dg (x * y).natAbs).length ≤ m + n := by
  rw [Int.natAbs_mul]
  have := mul_len x.natAbs y.natAbs
  omega
theorem law_k_ev {q n j x : Nat} (hq : 2 ≤ q) (hq2 : q ≤ 256) (hn : n ≤ 64) (hj : j ≤ n) (hx : x ≤ n) :
    Ev (fun k => codewrightlaw24_k.f k (q : Int) (n : Int) (j : Int) (x : Int)) ((rz (kr ((q - 1 : Nat) : Int) (n - x) x j)).1, (rz (kr ((q - 1 : Nat) : Int) (n - x) x j)).2.1, (rz (kr ((q - 1 : Nat) : Int) (n - x) x j)).2.2, true) := by
  simp only [codewrightlaw24_k.f]
  refine Ev.bind (kraw_ok hq hq2 hn hj hx) ?_
  simp only [if_true]
  refine Ev.bind (risq_ev (few_of (kr_len (by omega) (by omega) (by omega) (by omega)) (by omega))) ?_
  exact Ev.some _
theorem wid {x : Nat} (h : x < 4294967296) : wrap64 (x : Int) = (x : Int) := wn rfl (by omega)
end Mw
end
section
set_option linter.unusedVariables false
set_option linter.unusedSimpArgs false
namespace Mw
open Go Go.RowKit Go.Proofs.YtifkbghnmhineaaW.PrintWords Go.Proofs.YtifkbghnmhineaaW.PrintLast Go.Proofs.YtifkbghnmhineaaW.PrintMore Go.Proofs.Ytifkbghnmhineaa.PAll
theorem gpow_len {g i : Nat} (hg : g < 4294967296) (hi : i ≤ 64) : (dg (g ^ i)).length ≤ 65 := by
  have hgl : (dg g).length ≤ 1 := dg_len_le (by rw [show (1 : Nat) = 0 + 1 from rfl, bp_succ, bp_zero]; omega)
  have := pow_len g i 1 hgl
  omega
theorem law_pow_ev {g i : Nat} (hg : g < 4294967296) (hi : i ≤ 64) : Ev (fun k => codewrightlaw24_pow.f k (g : Int) (i : Int)) (rz ((g ^ i : Nat) : Int)) := by
  have hl := gpow_len hg hi
  simp only [codewrightlaw24_pow.f, u64w (x := (g : Int)) (by omega) (by omega)]
  refine Ev.bind (rof_ev (by omega)) ?_
  refine Ev.bind (rpow_ev hg (by omega)) ?_
  refine Ev.bind (rnatq_ev (by omega)) ?_
  exact Ev.some _
theorem law_choose_ev {n i : Nat} (hn : n ≤ 64) (hi : i ≤ 64) : Ev (fun k => codewrightlaw24_choose.f k (n : Int) (i : Int)) (rz ((bin n i : Nat) : Int)) := by
  have hl := bin_len (n := n) (by omega) i
  simp only [codewrightlaw24_choose.f]
  refine Ev.bind (choose_ev (by omega) (by omega)) ?_
  refine Ev.bind (rnatq_ev (by omega)) ?_
  exact Ev.some _
theorem nat_len {m n : Nat} (h : (dg n).length ≤ m) : (dg ((n : Nat) : Int).natAbs).length ≤ m := by rw [Int.natAbs_natCast]; exact h
theorem reciprocal_nat {q n i s : Nat} (hq : 2 ≤ q) (hq2 : q ≤ 255) (hn : n ≤ 32) (hi : i ≤ n) (hs : s ≤ n) : Ev (fun k => codewrightlaw24_MacwilliamsReciprocal.f k (q : Int) (n : Int) (i : Int) (s : Int)) true := by
  simp only [codewrightlaw24_MacwilliamsReciprocal.f, if_neg (show ¬ (q : Int) < 2 by omega), if_neg (show ¬ (n : Int) > 32 by omega), if_neg (show ¬ (i : Int) > (n : Int) by omega), decide_eq_false (show ¬ (s : Int) > (n : Int) by omega)]
  obtain ⟨g, hg⟩ : ∃ g, g = q - 1 := ⟨_, rfl⟩
  have hfa := kr_len (g := g) (a := n - i) (b := i) (k := s) (by omega) (by omega) (by omega) (by omega)
  have hfb := kr_len (g := g) (a := n - s) (b := s) (k := i) (by omega) (by omega) (by omega) (by omega)
  have th := kr_recip (g : Int) n i s hi hs
  have ka := law_k_ev (q := q) (n := n) (j := s) (x := i) hq (by omega) (by omega) hs hi
  have kb := law_k_ev (q := q) (n := n) (j := i) (x := s) hq (by omega) (by omega) hi hs
  have kc := law_k_ev (q := 2) (n := 1) (j := 1) (x := 1) (by omega) (by omega) (by omega) (by omega) (by omega)
  rw [show kr ((2 - 1 : Nat) : Int) (1 - 1) 1 1 = -1 from by simp [kr]] at kc
  rw [← hg] at ka kb
  have p1 := gpow_len (g := g) (i := i) (by omega) (by omega)
  have p2 := gpow_len (g := g) (i := s) (by omega) (by omega)
  have c1 := bin_len (n := n) (by omega) i
  have c2 := bin_len (n := n) (by omega) s
  have m1 := mulq_len (nat_len p1) (nat_len c1)
  have m2 := mulq_len (nat_len p2) (nat_len c2)
  have r1 := mulq_len hfa m1
  refine Ev.succ ?_
  simp only [codewrightlaw24_MacwilliamsReciprocal.j0, Bool.false_eq_true, if_false, wid (show q < 4294967296 by omega), wid (show n < 4294967296 by omega), wid (show i < 4294967296 by omega), wid (show s < 4294967296 by omega)]
  refine Ev.bind ka ?_
  refine Ev.bind kb ?_
  refine Ev.bind kc ?_
  simp only [if_true]
  have one1 : Few (-1) := few_of (m := 1) (few_small (by decide)) (by omega)
  refine Ev.bind (rintq_ev (z := -1) (by omega) (by omega)) ?_
  refine Ev.bind (rsameq_ev one1 one1) ?_
  simp only [decide_true, Bool.not_true]
  refine Ev.succ ?_
  simp only [codewrightlaw24_MacwilliamsReciprocal.j1, Bool.false_eq_true, if_false, wid (show q < 4294967296 by omega), wid (show n < 4294967296 by omega), wid (show i < 4294967296 by omega), wid (show s < 4294967296 by omega), wn (show (q : Int) - 1 = (g : Int) by omega) (by omega)]
  refine Ev.bind (law_pow_ev (by omega) (by omega)) ?_
  refine Ev.bind (law_choose_ev (by omega) (by omega)) ?_
  refine Ev.bind (rmulq_ev (few_of (nat_len p1) (by omega)) (few_of (nat_len c1) (by omega))) ?_
  refine Ev.bind (rmulq_ev (few_of hfa (by omega)) (few_of m1 (by omega))) ?_
  refine Ev.bind (law_pow_ev (by omega) (by omega)) ?_
  refine Ev.bind (law_choose_ev (by omega) (by omega)) ?_
  refine Ev.bind (rmulq_ev (few_of (nat_len p2) (by omega)) (few_of (nat_len c2) (by omega))) ?_
  refine Ev.bind (rmulq_ev (few_of hfb (by omega)) (few_of m2 (by omega))) ?_
  have th2 : kr (g : Int) (n - s) s i * (((g ^ s : Nat) : Int) * ((bin n s : Nat) : Int)) = kr (g : Int) (n - i) i s * (((g ^ i : Nat) : Int) * ((bin n i : Nat) : Int)) := by
    rw [Int.natCast_pow, Int.natCast_pow]; exact th.symm
  rw [th2]
  refine Ev.bind (rsameq_ev (few_of r1 (by omega)) (few_of r1 (by omega))) ?_
  exact Ev.cast (Ev.some _) (by simp)
theorem reciprocal_law {q n i s : Int} (hq0 : 0 ≤ q) (hq1 : q ≤ 255) (hn0 : 0 ≤ n) (hi0 : 0 ≤ i) (hs0 : 0 ≤ s) : Ev (fun k => codewrightlaw24_MacwilliamsReciprocal.f k q n i s) true := by
  have fin : Ev (fun k => codewrightlaw24_MacwilliamsReciprocal.j0 k q n i s true) true := by
    refine Ev.succ ?_
    simp only [codewrightlaw24_MacwilliamsReciprocal.j0, if_true]
    exact Ev.some _
  by_cases h1 : q < 2
  · simp only [codewrightlaw24_MacwilliamsReciprocal.f, if_pos h1]; exact fin
  by_cases h2 : n > 32
  · simp only [codewrightlaw24_MacwilliamsReciprocal.f, if_neg h1, if_pos h2]; exact fin
  by_cases h3 : i > n
  · simp only [codewrightlaw24_MacwilliamsReciprocal.f, if_neg h1, if_neg h2, if_pos h3]; exact fin
  by_cases h5 : s > n
  · simp only [codewrightlaw24_MacwilliamsReciprocal.f, if_neg h1, if_neg h2, if_neg h3, decide_eq_true h5]; exact fin
  obtain ⟨q, rfl⟩ : ∃ m : Nat, q = (m : Int) := ⟨q.toNat, by omega⟩
  obtain ⟨n, rfl⟩ : ∃ m : Nat, n = (m : Int) := ⟨n.toNat, by omega⟩
  obtain ⟨i, rfl⟩ : ∃ m : Nat, i = (m : Int) := ⟨i.toNat, by omega⟩
  obtain ⟨s, rfl⟩ : ∃ m : Nat, s = (m : Int) := ⟨s.toNat, by omega⟩
  exact reciprocal_nat (by omega) (by omega) (by omega) (by omega) (by omega)
end Mw
end
section
namespace Mw
open Go Go.Proofs
def headCodes : List Nat := [
  104, 97, 114, 110, 101, 115, 115, 32, 97, 52, 54, 100, 51, 98, 54, 57, 49, 99, 100, 102, 102, 55, 57, 50, 53, 50, 54, 98, 102, 49,
  54, 102, 48, 51, 48, 99, 54, 97, 97, 48, 53, 57, 101, 57, 49, 50, 49, 49, 52, 97, 101, 54, 102, 97, 52, 52, 54, 99, 49, 56,
  54, 102, 57, 55, 99, 52, 101, 54, 51, 97, 102, 50, 32, 99, 117, 116, 32, 97, 116, 32, 99, 111, 100, 101, 119, 114, 105, 103, 104, 116,
  47, 99, 111, 100, 101, 119, 114, 105, 103, 104, 116, 108, 97, 119, 50, 52, 46, 77, 97, 99, 119, 105, 108, 108, 105, 97, 109, 115, 80, 108,
  101, 115, 115, 32, 99, 111, 100, 101, 119, 114, 105, 103, 104, 116, 47, 99, 111, 100, 101, 119, 114, 105, 103, 104, 116, 108, 97, 119, 50, 52,
  46, 77, 97, 99, 119, 105, 108, 108, 105, 97, 109, 115, 68, 101, 115, 105, 103, 110, 115, 32, 99, 111, 100, 101, 119, 114, 105, 103, 104, 116,
  47, 99, 111, 100, 101, 119, 114, 105, 103, 104, 116, 108, 97, 119, 50, 52, 46, 77, 97, 99, 119, 105, 108, 108, 105, 97, 109, 115, 68, 101,
  114, 105, 118, 101, 100, 32, 99, 111, 100, 101, 119, 114, 105, 103, 104, 116, 47, 99, 111, 100, 101, 119, 114, 105, 103, 104, 116, 108, 97, 119,
  50, 52, 46, 77, 97, 99, 119, 105, 108, 108, 105, 97, 109, 115, 77, 111, 109, 101, 110, 116, 115, 32, 99, 111, 100, 101, 119, 114, 105, 103,
  104, 116, 47, 99, 111, 100, 101, 119, 114, 105, 103, 104, 116, 108, 97, 119, 50, 52, 46, 77, 97, 99, 119, 105, 108, 108, 105, 97, 109, 115,
  83, 116, 114, 101, 110, 103, 116, 104, 115, 32, 99, 111, 100, 101, 119, 114, 105, 103, 104, 116, 47, 99, 111, 100, 101, 119, 114, 105, 103, 104,
  116, 108, 97, 119, 50, 52, 46, 77, 97, 99, 119, 105, 108, 108, 105, 97, 109, 115, 75, 114, 97, 119, 116, 99, 104, 111, 117, 107, 32, 99,
  111, 100, 101, 119, 114, 105, 103, 104, 116, 47, 99, 111, 100, 101, 119, 114, 105, 103, 104, 116, 108, 97, 119, 50, 52, 46, 77, 97, 99, 119,
  105, 108, 108, 105, 97, 109, 115, 65, 115, 115, 109, 117, 115, 32, 99, 111, 100, 101, 119, 114, 105, 103, 104, 116, 47, 99, 111, 100, 101, 119,
  114, 105, 103, 104, 116, 108, 97, 119, 50, 52, 46, 77, 97, 99, 119, 105, 108, 108, 105, 97, 109, 115, 71, 101, 110, 101, 114, 97, 116, 105,
  110, 103, 32, 99, 111, 100, 101, 119, 114, 105, 103, 104, 116, 47, 99, 111, 100, 101, 119, 114, 105, 103, 104, 116, 108, 97, 119, 50, 52, 46,
  77, 97, 99, 119, 105, 108, 108, 105, 97, 109, 115, 79, 114, 116, 104, 111, 103, 111, 110, 97, 108, 32, 99, 111, 100, 101, 119, 114, 105, 103,
  104, 116, 47, 99, 111, 100, 101, 119, 114, 105, 103, 104, 116, 108, 97, 119, 50, 52, 46, 77, 97, 99, 119, 105, 108, 108, 105, 97, 109, 115,
  82, 101, 99, 105, 112, 114, 111, 99, 97, 108, 32, 99, 111, 100, 101, 119, 114, 105, 103, 104, 116, 47, 99, 111, 100, 101, 119, 114, 105, 103,
  104, 116, 108, 97, 119, 50, 52, 46, 77, 97, 99, 119, 105, 108, 108, 105, 97, 109, 115, 82, 101, 99, 117, 114, 114, 101, 110, 99, 101, 32,
  99, 111, 100, 101, 119, 114, 105, 103, 104, 116, 47, 99, 111, 100, 101, 119, 114, 105, 103, 104, 116, 108, 97, 119, 50, 52, 46, 77, 97, 99,
  119, 105, 108, 108, 105, 97, 109, 115, 73, 100, 101, 110, 116, 105, 116, 121, 32, 99, 111, 100, 101, 119, 114, 105, 103, 104, 116, 47, 99, 111,
  100, 101, 119, 114, 105, 103, 104, 116, 108, 97, 119, 50, 52, 46, 77, 97, 99, 119, 105, 108, 108, 105, 97, 109, 115, 68, 101, 108, 115, 97,
  114, 116, 101, 32, 99, 111, 100, 101, 119, 114, 105, 103, 104, 116, 47, 99, 111, 100, 101, 119, 114, 105, 103, 104, 116, 108, 97, 119, 50, 52,
  46, 77, 97, 99, 119, 105, 108, 108, 105, 97, 109, 115, 69, 120, 116, 101, 114, 110, 97, 108, 115, 32, 99, 111, 100, 101, 119, 114, 105, 103,
  104, 116, 47, 99, 111, 100, 101, 119, 114, 105, 103, 104, 116, 108, 97, 119, 50, 52, 46, 77, 97, 99, 119, 105, 108, 108, 105, 97, 109, 115,
  84, 114, 97, 110, 115, 102, 111, 114, 109, 115, 32, 99, 111, 100, 101, 119, 114, 105, 103, 104, 116, 47, 99, 111, 100, 101, 119, 114, 105, 103,
  104, 116, 108, 97, 119, 50, 52, 46, 77, 97, 99, 119, 105, 108, 108, 105, 97, 109, 115, 73, 110, 118, 101, 114, 116, 115]
theorem head_eq : Try.prog.initOrder = String.ofList (headCodes.map Char.ofNat) := by kernel_rfl
theorem head_list : Try.prog.initOrder.toList = headCodes.map Char.ofNat := by rw [head_eq, String.toList_ofList]
def cutSigns : List Char := [99, 117, 116].map Char.ofNat
theorem head_word0 : ∃ rest, behindMainWord (wordsSigns (headCodes.map Char.ofNat)) = cutSigns :: rest := ⟨(behindMainWord (wordsSigns (headCodes.map Char.ofNat))).tail, by kernel_rfl⟩
theorem head_word : ∃ rest, behindMainWord (wordsSigns Try.prog.initOrder.toList) = cutSigns :: rest := by rw [head_list]; exact head_word0
theorem head_strip (rest : List (List Char)) : stripLifts liftWords (cutSigns :: rest) = ([], cutSigns :: rest) := by kernel_rfl
theorem sign1 : (cutSigns == "gc".toList) = false := by kernel_rfl
theorem sign2 : (cutSigns == "spec".toList) = false := by kernel_rfl
theorem sign3 : (cutSigns == "carried".toList) = false := by kernel_rfl
theorem sign4 : (cutSigns == "cut".toList) = true := by kernel_rfl
theorem make_of (P : Program) (c : List Char) (rest : List (List Char)) (h : behindMainWord (wordsSigns P.initOrder.toList) = c :: rest) (h1 : (c == "gc".toList) = false) (h2 : (c == "spec".toList) = false) (h3 : (c == "cut".toList) = true) : P.make = some .cut := by
  unfold Program.make
  rw [h]
  simp only [h1, h2, h3, Bool.or_self, Bool.true_or, Bool.false_eq_true, if_false, if_true]
theorem enter_of (P : Program) (c : List Char) (rest : List (List Char)) (h : behindMainWord (wordsSigns P.initOrder.toList) = c :: rest) (hs : stripLifts liftWords (c :: rest) = ([], c :: rest)) (h3 : (some c == some "cut".toList) = true) (ll : P.laysLater = false) (br : P.bearsReflect = false) (df : P.doorFits [] = true) : P.mayEnter = true := by
  unfold Program.mayEnter
  rw [h]
  simp only [hs, List.head?_cons, h3, ll, br, df]
  simp
theorem final_of (P : Program) (c : List Char) (rest : List (List Char)) (h : behindMainWord (wordsSigns P.initOrder.toList) = c :: rest) (hs : stripLifts liftWords (c :: rest) = ([], c :: rest)) (h3 : (some c == some "carried".toList) = false) : P.liftsFinal = false := by
  unfold Program.liftsFinal Program.headLifts
  rw [h]
  simp only [hs, List.head?_cons, h3, Bool.false_and, Bool.false_or]
  split <;> rfl
theorem laysLater_ : Try.prog.laysLater = false := by kernel_rfl
theorem bearsReflect_ : Try.prog.bearsReflect = false := by kernel_rfl
theorem doorFits_ : Try.prog.doorFits [] = true := by kernel_rfl
theorem make_ : Try.prog.make = some .cut := by
  obtain ⟨rest, h⟩ := head_word
  exact make_of _ _ rest h sign1 sign2 sign4
theorem mayEnter_ : Try.prog.mayEnter = true := by
  obtain ⟨rest, h⟩ := head_word
  exact enter_of _ _ rest h (head_strip rest) sign4 laysLater_ bearsReflect_ doorFits_
theorem liftsFinal_ : Try.prog.liftsFinal = false := by
  obtain ⟨rest, h⟩ := head_word
  exact final_of _ _ rest h (head_strip rest) sign3
open Go.ChangeShapes Go.WideShapes in
theorem u8_wf {a : Int} (h : (Lit.int .u8 a).wf = true) : 0 ≤ a ∧ a ≤ 255 := by
  have h0 : IntKind.u8.min = 0 := rfl
  have h1 : IntKind.u8.max = 255 := rfl
  simp [Lit.wf, h0, h1] at h
  omega
theorem laidOut : laidOutB Try.prog = true := by kernel_rfl
theorem mapsRowed_ : mapsRowed Try.prog = true := by kernel_rfl
theorem stopsHeard_ : Try.prog.stopsHeard = true := by kernel_rfl
theorem stops_ : (Try.prog.stops == []) = true := by kernel_rfl
theorem stopKnobs_ : (Try.prog.stopKnobs == []) = true := by kernel_rfl
theorem joined_of {P : Program} {f : FuncId} {fn : Func} {s : ChangeSpec} {c : OpenClaim} (k1 : c.wf (OpenSpec.ofChange s) = true) (k2 : laidOutB P = true) (k3 : mapsRowed P = true) (k4 : fn.params.all (P.readableRec ·) = true) (k5 : namedTie P c.named s.vars = true)
    (k6 : (c.stops == []) = true) (k7 : (P.stops == []) = true) (k8 : (c.knobs == []) = true) (k9 : (P.stopKnobs == []) = true) (k10 : (c.inPlace == P.inPlace f) = true) (k11 : (c.unfollowed == P.unfollowed f) = true) (k12 : (c.recurses == P.recurses f) = true) (k13 : (c.named == P.varsNamed f) = true)
    (k14 : (c.maps == (fn.params.toList ++ s.plain.varTypes P).any (P.mapsRec ·)) = true) (k15 : (c.ifaces == (fn.params.toList ++ s.plain.varTypes P).any (P.ifacesRec ·)) = true) (k16 : (c.mapsOut == P.mapsAmong fn.resultTypes.toList) = true) (k17 : (c.loops == (fn.params.toList ++ s.plain.varTypes P).any (P.loopsFrom ·)) = true) (k18 : (c.wideKeys == (fn.params.toList ++ s.plain.varTypes P ++ fn.resultTypes.toList).any (P.wideKeysFrom ·)) = true)
    (k19 : s.vars.all (P.varReadable ·) = true) (k20 : fn.resultTypes.all (fun t => P.readableRec t && decide (t < P.types.size)) = true) (k21 : (c.ifacesOut == fn.resultTypes.toList.any (P.ifacesRec ·)) = true) (k22 : (c.loopsOut == fn.resultTypes.toList.any (P.loopsFrom ·)) = true) (k23 : (c.plainKeys == P.plainKeys) = true) (k24 : c.shortTexts.isNone = true)
    (k25 : P.stopsHeard = true) (k26 : P.mayEnter = true) (k27 : (c.lifted == P.liftsFinal) = true) (k28 : (P.make == some c.make) = true) (k29 : (c.kinds == (if c.domain.isEmpty then [] else fn.params.toList.map fun t => match P.underlying t with | some (.int k) => some k | _ => none)) = true) (k30 : (c.pinned == c.pinnedBy) = true)
    (k31 : (c.veiled == (fn.params.toList ++ s.plain.varTypes P ++ fn.resultTypes.toList).any (P.veiledRec ·)) = true) (k32 : c.veiledFits P fn.params.toList (fn.params.toList ++ s.plain.varTypes P ++ fn.resultTypes.toList) = true) : joinedFacts P f fn s c = true := by
  unfold joinedFacts
  simp only [Bool.and_eq_true]
  exact ⟨⟨⟨⟨⟨⟨⟨⟨⟨⟨⟨⟨⟨⟨⟨⟨⟨⟨⟨⟨⟨⟨⟨⟨⟨⟨⟨⟨⟨⟨⟨k1, k2⟩, k3⟩, k4⟩, k5⟩, k6⟩, k7⟩, k8⟩, k9⟩, k10⟩, k11⟩, k12⟩, k13⟩, k14⟩, k15⟩, k16⟩, k17⟩, k18⟩, k19⟩, k20⟩, k21⟩, k22⟩, k23⟩, k24⟩, k25⟩, k26⟩, k27⟩, k28⟩, k29⟩, k30⟩, k31⟩, k32⟩
end Mw
end
section
namespace Go.Proofs.Ytifkbghnmhineaa.macwilliamsReciprocal
open Go.ChangeShapes Go.WideShapes Go.ChangeAt Go.RowKit
open Go.ChangeMaps (open_string shut_string)
set_option linter.unusedVariables false
theorem pure_ : PAll.codewrightlaw24_MacwilliamsReciprocal.Pure := fun a0 a1 a2 a3 w0 w1 w2 w3 => (Mw.reciprocal_law (Mw.u8_wf w0).1 (Mw.u8_wf w0).2 (Mw.u8_wf w1).1 (Mw.u8_wf w2).1 (Mw.u8_wf w3).1).get
theorem own : ownKnob Try.prog.godebug = none := by kernel_rfl
set_option maxRecDepth 100000 in
theorem lifted (os : Os) (started : os.Started) (H : Type) (enc : TypeId × Value → H) :
    ReturnsInHanded {} Try.checked os 12 .any (Rows.macwilliamsReciprocalSpec.pre6 enc Try.prog Try.f12 Rows.macwilliamsReciprocalRow.domain false) (Rows.macwilliamsReciprocalSpec.post enc Try.prog Try.f12 false true false false) := by
  refine returnsInHanded_of_change_sized (C := Try.checked) own started (by kernel_rfl) Try.func12
    (ChangeSpec.witness6 (enc := enc) (C := Try.checked) false ⟨#[], #[.int .u8 0, .int .u8 0, .int .u8 0, .int .u8 0], []⟩ 8 (by kernel_rfl) (by kernel_rfl) (by kernel_rfl) (by kernel_rfl)) ?_
  intro W base args ds gs before hval0 hW hcnd hsz0 _
  have hsz : (DataW.weightsEach Try.prog (Try.f12.params.toList ++ Rows.macwilliamsReciprocalSpec.plain.varTypes Try.prog) (ds ++ gs)).all (· ≤ reachBytes) = true := hsz0
  have hval : ∀ (j : Nat) t v, Try.f12.params[j]? = some t → args[j]? = some v → Value.okWide Try.prog W .any base t v := hval0
  have hW' := hW
  obtain ⟨p, q, hA0, hV, rfl, hfz, hnd⟩ := hW
  have hA : DataW.TrodAll enc Try.prog W 0 (fun _ => true) true Try.f12.params.toList args.toList ds p := hA0
  rw [Try.params12] at hA hval hsz
  obtain ⟨v0, vs0, d0, ds0, p0, q0, hargs, rfl, rfl, h0, r0⟩ := trodAll_cons hA
  obtain ⟨v1, vs1, d1, ds1, p1, q1, rfl, rfl, rfl, h1, r1⟩ := trodAll_cons r0
  obtain ⟨v2, vs2, d2, ds2, p2, q2, rfl, rfl, rfl, h2, r2⟩ := trodAll_cons r1
  obtain ⟨v3, vs3, d3, ds3, p3, q3, rfl, rfl, rfl, h3, r3⟩ := trodAll_cons r2
  obtain ⟨rfl, rfl, rfl⟩ := trodAll_nil r3
  obtain rfl : args = #[v0, v1, v2, v3] := by cases args; simp_all
  obtain ⟨rfl, rfl⟩ := trodVars_none hV
  obtain ⟨a0, rfl, rfl, rfl, w0⟩ := open_int Try.underlying5 (hval 0 5 v0 rfl rfl) h0
  obtain ⟨a1, rfl, rfl, rfl, w1⟩ := open_int Try.underlying5 (hval 1 5 v1 rfl rfl) h1
  obtain ⟨a2, rfl, rfl, rfl, w2⟩ := open_int Try.underlying5 (hval 2 5 v2 rfl rfl) h2
  obtain ⟨a3, rfl, rfl, rfl, w3⟩ := open_int Try.underlying5 (hval 3 5 v3 rfl rfl) h3
  clear hA0 hval0 hsz0 hsz
  refine (PAll.codewrightlaw24_MacwilliamsReciprocal.walk pure_ a0 a1 a2 a3 W w0 w1 w2 w3).mono fun e W' ⟨he, bel⟩ => ?_
  subst he
  exact ⟨_, rfl, _, _, _, [], _, [], hW', trodAll_mk1 (shut_bool Try.underlying4 _), (trodAll_cons_mk (shut_int Try.underlying5 w0) (trodAll_cons_mk (shut_int Try.underlying5 w1) (trodAll_cons_mk (shut_int Try.underlying5 w2) (trodAll_cons_mk (shut_int Try.underlying5 w3) trodAll_mk0)))), rfl, bel.frame _, fun h => by cases h⟩
theorem closed : joinedFacts Try.prog 12 Try.f12 Rows.macwilliamsReciprocalSpec Rows.macwilliamsReciprocalRow = true :=
  Mw.joined_of (by as_aux_lemma => kernel_rfl) Mw.laidOut Mw.mapsRowed_ (by as_aux_lemma => kernel_rfl) (by as_aux_lemma => kernel_rfl) (by as_aux_lemma => kernel_rfl) Mw.stops_ (by as_aux_lemma => kernel_rfl) Mw.stopKnobs_ (by as_aux_lemma => kernel_rfl) (by as_aux_lemma => kernel_rfl) (by as_aux_lemma => kernel_rfl) (by as_aux_lemma => kernel_rfl) (by as_aux_lemma => kernel_rfl) (by as_aux_lemma => kernel_rfl) (by as_aux_lemma => kernel_rfl) (by as_aux_lemma => kernel_rfl) (by as_aux_lemma => kernel_rfl) (by as_aux_lemma => kernel_rfl) (by as_aux_lemma => kernel_rfl) (by as_aux_lemma => kernel_rfl) (by as_aux_lemma => kernel_rfl) (by as_aux_lemma => kernel_rfl) (by as_aux_lemma => kernel_rfl) Mw.stopsHeard_ Mw.mayEnter_ (by rw [Mw.liftsFinal_]; rfl) (by rw [Mw.make_]; rfl) (by as_aux_lemma => kernel_rfl) (by as_aux_lemma => kernel_rfl) (by as_aux_lemma => kernel_rfl) (by as_aux_lemma => kernel_rfl)
theorem over : Rows.macwilliamsReciprocalRow.holds Try.pinned (OpenSpec.ofChange Rows.macwilliamsReciprocalSpec) :=
  OpenClaim.holds_of_wide 12 Try.f12 rfl rfl rfl rfl rfl rfl rfl ⟨rfl, rfl, rfl, rfl, rfl⟩ rfl rfl rfl rfl rfl (by as_aux_lemma => kernel_rfl) Try.func12 closed
    (of_decide_eq_true (by as_aux_lemma => kernel_rfl)) (by unfold Func.isWrapper; first | (rw [if_pos (by decide +kernel)]; kernel_rfl) | (rw [if_neg (by decide +kernel)]; exact ⟨rfl, rfl⟩))
    (fun os started H enc _ => lifted os started H enc)
theorem proved : Rows.MacwilliamsReciprocalSaid := over
end Go.Proofs.Ytifkbghnmhineaa.macwilliamsReciprocal
namespace Go.Proofs.Ytifkbghnmhineaa
theorem macwilliamsReciprocal_holds : Rows.MacwilliamsReciprocalSaid := macwilliamsReciprocal.proved
end Go.Proofs.Ytifkbghnmhineaa
end
