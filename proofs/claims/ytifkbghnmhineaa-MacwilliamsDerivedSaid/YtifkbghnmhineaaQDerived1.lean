/- The statement MacwilliamsDerived, proved for every input, and what it rests on. No condition. -/
import Derived.Test.YtifkbghnmhineaaQDerived0

section
set_option linter.unusedVariables false
set_option linter.unusedSimpArgs false
namespace Mw
open Go Go.RowKit Go.Proofs.YtifkbghnmhineaaW.PrintWords Go.Proofs.YtifkbghnmhineaaW.PrintLast Go.Proofs.YtifkbghnmhineaaW.PrintMore Go.Proofs.Ytifkbghnmhineaa.PAll
theorem wraps_u64 (n : Int) (h0 : 0 ≤ n) (h1 : n < 2 ^ 64) : IntKind.u64.wrap n = n := u64w h0 (by omega)
theorem join32 {x y : Int} (hx0 : 0 ≤ x) (hx1 : x < 4294967296) (hy0 : 0 ≤ y) (hy1 : y < 4294967296) : Go.bits .or .u64 (IntKind.u64.wrap (x * 4294967296)) (IntKind.u64.wrap y) = x * 4294967296 + y := by
  rw [u64w (x := x * 4294967296) (by omega) (by omega), u64w (x := y) (by omega) (by omega)]
  exact bits_join .u64 64 (by decide) wraps_u64 32 _ _ (by omega) (by omega) (by omega) hy0 (by omega) (by omega)
theorem digit_bounds {r b y : Int} (hr0 : 0 ≤ r) (hrb : r < b) (hb : b < 4294967296) (hy0 : 0 ≤ y) (hy1 : y < 4294967296) :
    0 ≤ (r * 4294967296 + y) / b ∧ (r * 4294967296 + y) / b < 4294967296 ∧ 0 ≤ (r * 4294967296 + y) % b ∧ (r * 4294967296 + y) % b < b := by
  have hbp : 0 < b := by omega
  refine ⟨Int.ediv_nonneg (by omega) (by omega), ?_, Int.emod_nonneg _ (by omega), Int.emod_lt_of_pos _ hbp⟩
  refine Int.ediv_lt_of_lt_mul hbp ?_
  have : (r + 1) * 4294967296 ≤ b * 4294967296 := by omega
  omega
theorem digit_loop {a : List Int} {b : Int} (ha : Lm a) (hb0 : 0 < b) (hb1 : b < 4294967296) (hlen : a.length < 1073741824) : ∀ (n : Nat) (o : List Int) (r : Int), n ≤ a.length → o.length = a.length → Lm o → (∀ j : Nat, j < n → rd o (j : Int) = 0) → 0 ≤ r → r < b →
    Aside0 (lv o * b + (bp n : Int) * r = lv a - lv (a.take n)) → Ev (fun k => nat_digit.l0 k a b o r ((n : Int) - 1)) (dg (lv a / b).toNat, lv a % b) := by
  intro n
  induction n with
  | zero =>
    intro o r hn ho hol hz hr0 hr1 hv
    refine Ev.succ ?_
    simp only [nat_digit.l0, if_neg (show ¬ ((0 : Nat) : Int) - 1 ≥ 0 by omega)]
    refine Ev.bind (short_ev hol (by omega)) ?_
    refine Ev.cast (Ev.some _) ?_
    have hv := hv.out
    rw [List.take_zero, lv_nil, bp_zero] at hv
    have e : lv a = b * lv o + r := by rw [Int.mul_comm]; omega
    have h1 : lv a / b = lv o := by
      rw [e, Int.add_comm, Int.add_mul_ediv_left _ _ (by omega), Int.ediv_eq_zero_of_lt hr0 hr1]; omega
    have h2 : lv a % b = r := by
      rw [e, Int.add_comm, Int.add_mul_emod_self_left, Int.emod_eq_of_lt hr0 hr1]
    rw [h1, h2]
    clear hv e h1 h2
    congr 1
    omega
  | succ n ih =>
    intro o r hn ho hol hz hr0 hr1 hv
    refine Ev.succ ?_
    have ra := rd_lm ha (n : Int)
    have hd := digit_bounds hr0 hr1 hb1 ra.1 ra.2
    have hdiv : b * ((r * 4294967296 + rd a (n : Int)) / b) + (r * 4294967296 + rd a (n : Int)) % b = r * 4294967296 + rd a (n : Int) := Int.mul_ediv_add_emod _ _
    have t0 : 0 ≤ r * 4294967296 + rd a (n : Int) := by omega
    simp only [nat_digit.l0, show ((n + 1 : Nat) : Int) - 1 = (n : Int) from by omega, if_pos (show (n : Int) ≥ 0 by omega), if_pos (show (0 : Int) ≤ (n : Int) by omega), if_pos (show (n : Int) < (a.length : Int) by omega), if_pos (show (n : Int) < (o.length : Int) by omega), if_neg (show ¬ b = 0 by omega),
      join32 hr0 (by omega) ra.1 ra.2, w64 (x := (n : Int) - 1) (by omega) (by omega), u64w (x := b) (by omega) (by omega)]
    rw [Int.tdiv_eq_ediv_of_nonneg t0, Int.tmod_eq_emod_of_nonneg t0]
    generalize (r * 4294967296 + rd a (n : Int)) / b = q at *
    generalize (r * 4294967296 + rd a (n : Int)) % b = s at *
    rw [u64w (x := q) hd.1 (by omega), show q % 4294967296 = q by omega, Int.toNat_natCast]
    refine ih _ _ (by omega) (by rw [List.length_set]; exact ho) (lm_set hol hd.1 hd.2.1) (fun j hj => ?_) hd.2.2.1 hd.2.2.2 ⟨?_⟩
    · rw [rd_set_ne _ (by omega)]; exact hz j (by omega)
    · have hv := hv.out
      rw [lv_take_succ (l := a) (i := n) (by omega), bp_succ, Int.natCast_mul] at hv
      rw [lv_set (l := o) (i := n) _ (by omega), hz n (by omega)]
      clear ih hz hd ra t0
      generalize lv o = x at *
      generalize (bp n : Int) = p at *
      generalize rd a (n : Int) = y at *
      generalize lv a = A at *
      generalize lv (a.take n) = T at *
      have hv : x * b + 4294967296 * p * r = A - (T + p * y) := hv
      have h3 : p * (b * q + s) = p * (r * 4294967296 + y) := by rw [hdiv]
      grind
theorem digit_ev {a : List Int} {b : Int} (ha : Lm a) (hb0 : 0 < b) (hb1 : b < 4294967296) (hlen : a.length < 1073741824) : Ev (fun k => nat_digit.f k a b) (dg (lv a / b).toNat, lv a % b) := by
  simp only [nat_digit.f, Int.toNat_natCast, if_pos (show (0 : Int) ≤ (a.length : Int) by omega), if_pos (show a.length ≤ 70368744177664 by omega), w64 (x := (a.length : Int) - 1) (by omega) (by omega)]
  exact digit_loop ha hb0 hb1 hlen a.length _ 0 (Nat.le_refl _) (by simp) (lm_rep _) (fun j _ => rd_rep _ j) (by omega) (by omega) ⟨by rw [lv_rep, List.take_of_length_le (Nat.le_refl _)]; simp⟩
theorem bin_mul (n i : Nat) : bin n i * (n - i) = (i + 1) * bin n (i + 1) := by rw [bin_step, Nat.mul_comm]
theorem bin_lt (n k : Nat) : bin n k ≤ 2 ^ n := by
  induction n generalizing k with
  | zero => cases k <;> simp [bin]
  | succ n ih => cases k with
    | zero => rw [bin_zero]; exact Nat.one_le_two_pow
    | succ k => rw [bin_succ, Nat.pow_succ]; have h1 := ih k; have h2 := ih (k + 1); omega
theorem pow2_bp (m : Nat) : 2 ^ (32 * m) = bp m := by
  induction m with
  | zero => rw [bp_zero]
  | succ m ih => rw [Nat.mul_succ, Nat.pow_add, ih, bp_succ, Nat.mul_comm]
theorem bin_len {n : Nat} (hn : n ≤ 4096) (k : Nat) : (dg (bin n k)).length ≤ 129 := by
  refine dg_len_le ?_
  have h1 := bin_lt n k
  have h2 : ∀ m, n ≤ 32 * m → 2 ^ n ≤ bp m := fun m h => by rw [← pow2_bp]; exact Nat.pow_le_pow_right (by decide) h
  have h2 := h2 128 (by omega)
  have h3 := bp_pos 128
  rw [show 129 = 128 + 1 from rfl, bp_succ]
  generalize 2 ^ n = p at *
  generalize bp 128 = u at *
  omega
theorem binomial_loop {n : Nat} (hn : n ≤ 4096) : ∀ (d i m : Nat), i + d = m → m ≤ n → Ev (fun k => nat_Binomial.l0 k (n : Int) (dg (bin n i)) (m : Int) (i : Int)) (dg (bin n m), 0) := by
  intro d
  induction d with
  | zero =>
    intro i m hi hm
    have hi : i = m := by omega
    subst hi
    refine Ev.succ ?_
    simp only [nat_Binomial.l0, if_neg (show ¬ (i : Int) < (i : Int) by omega)]
    have := bin_len hn i
    refine Ev.bind (trim_ev (lm_dg _) (by omega)) ?_
    rw [lv_dg, Int.toNat_natCast]
    exact Ev.some _
  | succ d ih =>
    intro i m hi hm
    refine Ev.succ ?_
    have hl := bin_len hn i
    have e0 : ((n : Int) - (i : Int)) % 4294967296 = ((n - i : Nat) : Int) := by omega
    have e1 : ((i + 1 : Nat) : Int) % 4294967296 = ((i + 1 : Nat) : Int) := by omega
    simp only [nat_Binomial.l0, w64 (x := (n : Int) - (i : Int)) (by omega) (by omega), wn (show (i : Int) + 1 = ((i + 1 : Nat) : Int) by omega) (by omega), if_pos (show (i : Int) < (m : Int) by omega), e0, e1]
    have l1 : Lm [((n - i : Nat) : Int)] := by rw [lm_cons]; exact ⟨by omega, lm_nil⟩
    refine Ev.bind (times_ev (lm_dg _) l1 (by omega) (by simp)) ?_
    have v1 : lv (dg (bin n i)) * lv [((n - i : Nat) : Int)] = ((bin n i * (n - i) : Nat) : Int) := by rw [lv_dg, lv_cons, lv_nil, Int.natCast_mul]; simp
    rw [v1, Int.toNat_natCast, bin_mul]
    have hl2 : (dg ((i + 1) * bin n (i + 1))).length ≤ 130 := by
      refine dg_len_le ?_
      rw [← bin_mul]
      have h1 := dg_lt_len (bin n i)
      have h2 := bp_mono hl
      have h3 : bin n i < bp 129 := by omega
      rw [show 130 = 129 + 1 from rfl, bp_succ, Nat.mul_comm]
      have h4 : n - i ≤ 4294967296 := by omega
      exact Nat.lt_of_le_of_lt (Nat.mul_le_mul_right _ h4) (Nat.mul_lt_mul_of_pos_left h3 (by decide))
    refine Ev.bind (digit_ev (lm_dg _) (by omega) (by omega) (by omega)) ?_
    rw [lv_dg]
    have v2 : (((i + 1) * bin n (i + 1) : Nat) : Int) / ((i + 1 : Nat) : Int) = ((bin n (i + 1) : Nat) : Int) := by
      rw [Int.natCast_mul, Int.mul_ediv_cancel_left _ (by omega)]
    rw [v2, Int.toNat_natCast]
    exact ih (i + 1) m (by omega) hm
theorem binomial_ev {n m : Nat} (hn : n ≤ 4096) (hm : m ≤ n) : Ev (fun k => nat_Binomial.f k (n : Int) (m : Int)) (dg (bin n m), 0) := by
  simp only [nat_Binomial.f, if_neg (show ¬ (n : Int) < 0 by omega), decide_eq_false (show ¬ (n : Int) > 4096 by omega)]
  refine Ev.succ ?_
  simp only [nat_Binomial.j0, Bool.false_eq_true, if_false, if_neg (show ¬ (m : Int) < 0 by omega), decide_eq_false (show ¬ (m : Int) > (n : Int) by omega)]
  refine Ev.succ ?_
  simp only [nat_Binomial.j1, Bool.false_eq_true, if_false, wn (show (n : Int) - (m : Int) = ((n - m : Nat) : Int) by omega) (by omega)]
  have hone : ([1] : List Int) = dg (bin n 0) := by rw [bin_zero, dg_one]
  rw [hone]
  have hz : (0 : Int) = ((0 : Nat) : Int) := rfl
  by_cases h : m ≤ n - m
  · rw [show mn (m : Int) ((n - m : Nat) : Int) = (m : Int) from by unfold mn; split <;> omega]
    exact binomial_loop hn m 0 m (by omega) hm
  · rw [show mn (m : Int) ((n - m : Nat) : Int) = ((n - m : Nat) : Int) from by unfold mn; split <;> omega, ← bin_symm hm]
    exact binomial_loop hn (n - m) 0 (n - m) (by omega) (by omega)
def bl (n : Nat) : Nat := if n = 0 then 0 else 32 * ((dg n).length - 1) + Lib.bitLen (rd (dg n) (((dg n).length - 1 : Nat) : Int)).toNat
theorem lv_take_any (l : List Int) (i : Nat) : lv (l.take (i + 1)) = lv (l.take i) + (bp i : Int) * rd l (i : Int) := by
  by_cases h : i < l.length
  · exact lv_take_succ h
  · rw [rd_ge (by omega), List.take_of_length_le (by omega), List.take_of_length_le (by omega)]; simp
def cmpZ (x y : Int) : Int := if x < y then -1 else if y < x then 1 else 0
theorem take_bound {a : List Int} (ha : Lm a) (n : Nat) : 0 ≤ lv (a.take n) ∧ lv (a.take n) < bp n := by
  have h1 := lv_nonneg (lm_take ha n)
  have h2 := lv_le_of_len (lm_take ha n) (m := n) (by rw [List.length_take]; omega)
  omega
theorem cmp_lt {a b : List Int} (ha : Lm a) (hb : Lm b) (n : Nat) (h : rd a (n : Int) < rd b (n : Int)) : lv (a.take (n + 1)) < lv (b.take (n + 1)) := by
  have h1 := take_bound ha n
  have h2 := take_bound hb n
  have h3 : (bp n : Int) * (rd a (n : Int) + 1) ≤ (bp n : Int) * rd b (n : Int) := Int.mul_le_mul_of_nonneg_left (by omega) (by omega)
  rw [lv_take_any, lv_take_any]
  rw [Int.mul_add, Int.mul_one] at h3
  generalize (bp n : Int) * rd a (n : Int) = x at *
  generalize (bp n : Int) * rd b (n : Int) = y at *
  omega
theorem cmp_step {a b : List Int} (ha : Lm a) (hb : Lm b) (n : Nat) : cmpZ (lv (a.take (n + 1))) (lv (b.take (n + 1))) = if rd a (n : Int) < rd b (n : Int) then -1 else if rd b (n : Int) < rd a (n : Int) then 1 else cmpZ (lv (a.take n)) (lv (b.take n)) := by
  by_cases h : rd a (n : Int) < rd b (n : Int)
  · rw [if_pos h]
    unfold cmpZ
    rw [if_pos (cmp_lt ha hb n h)]
  · rw [if_neg h]
    by_cases g : rd b (n : Int) < rd a (n : Int)
    · rw [if_pos g]
      have := cmp_lt hb ha n g
      unfold cmpZ
      rw [if_neg (by omega), if_pos this]
    · rw [if_neg g]
      have e : rd a (n : Int) = rd b (n : Int) := by omega
      rw [lv_take_any, lv_take_any, e]
      unfold cmpZ
      generalize (bp n : Int) * rd b (n : Int) = y at *
      by_cases h1 : lv (a.take n) < lv (b.take n)
      · rw [if_pos h1, if_pos (by omega)]
      · rw [if_neg h1, if_neg (by omega)]
        by_cases h2 : lv (b.take n) < lv (a.take n)
        · rw [if_pos h2, if_pos (by omega)]
        · rw [if_neg h2, if_neg (by omega)]
theorem ncmp_loop {a b : List Int} (ha : Lm a) (hb : Lm b) (hlen : a.length < 1073741824) (hab : a.length = b.length) : ∀ n : Nat, n ≤ a.length → Ev (fun k => nat_Cmp.l0 k a b ((n : Int) - 1)) (cmpZ (lv (a.take n)) (lv (b.take n))) := by
  intro n
  induction n with
  | zero =>
    intro _
    refine Ev.succ ?_
    simp only [nat_Cmp.l0, if_neg (show ¬ ((0 : Nat) : Int) - 1 ≥ 0 by omega)]
    exact Ev.cast (Ev.some _) (by simp [cmpZ])
  | succ n ih =>
    intro hn
    refine Ev.succ ?_
    rw [cmp_step ha hb n]
    simp only [nat_Cmp.l0, show ((n + 1 : Nat) : Int) - 1 = (n : Int) from by omega, if_pos (show (n : Int) ≥ 0 by omega), if_pos (show (0 : Int) ≤ (n : Int) by omega), if_pos (show (n : Int) < (a.length : Int) by omega), if_pos (show (n : Int) < (b.length : Int) by omega), w64 (x := (n : Int) - 1) (by omega) (by omega)]
    by_cases h : rd a (n : Int) < rd b (n : Int)
    · simp only [if_pos h]; exact Ev.some _
    · simp only [if_neg h]
      by_cases g : rd b (n : Int) < rd a (n : Int)
      · simp only [if_pos g, if_pos (show rd a (n : Int) > rd b (n : Int) from g)]; exact Ev.some _
      · simp only [if_neg g, if_neg (show ¬ rd a (n : Int) > rd b (n : Int) from g)]; exact ih (by omega)
theorem ncmp_ev {a b : Nat} (h1 : (dg a).length < 268435456) (h2 : (dg b).length < 268435456) : Ev (fun k => nat_Cmp.f k (dg a) (dg b)) (cmpZ (a : Int) (b : Int)) := by
  simp only [nat_Cmp.f]
  refine Ev.bind (short_ev (lm_dg a) (by omega)) ?_
  refine Ev.bind (short_ev (lm_dg b) (by omega)) ?_
  rw [lv_dg, lv_dg, Int.toNat_natCast, Int.toNat_natCast]
  by_cases h : (dg a).length = (dg b).length
  · simp only [if_pos (show ((dg a).length : Int) = ((dg b).length : Int) by omega), w64 (x := ((dg a).length : Int) - 1) (by omega) (by omega)]
    have := ncmp_loop (lm_dg a) (lm_dg b) (by omega) h _ (Nat.le_refl _)
    rw [List.take_of_length_le (Nat.le_refl _), List.take_of_length_le (by omega), lv_dg, lv_dg] at this
    exact this
  · simp only [if_neg (show ¬ ((dg a).length : Int) = ((dg b).length : Int) by omega)]
    by_cases g : (dg a).length < (dg b).length
    · simp only [if_pos (show ((dg a).length : Int) < ((dg b).length : Int) by omega)]
      have hlt : a < b := by
        by_cases e : b ≤ a
        · have := dg_len_mono e; omega
        · omega
      exact Ev.cast (Ev.some _) (by unfold cmpZ; rw [if_pos (by omega)])
    · simp only [if_neg (show ¬ ((dg a).length : Int) < ((dg b).length : Int) by omega)]
      have hlt : b < a := by
        by_cases e : a ≤ b
        · have := dg_len_mono e; omega
        · omega
      exact Ev.cast (Ev.some _) (by unfold cmpZ; rw [if_neg (by omega), if_pos (by omega)])
end Mw
end
section
set_option linter.unusedVariables false
set_option linter.unusedSimpArgs false
namespace Mw
def El (q : Nat) (x : Int) : Prop := 0 ≤ x ∧ x < (q : Int)
structure Fld (q : Nat) (add mul : Int → Int → Int) : Prop where
  two : 2 ≤ q
  add_el : ∀ x y, El q x → El q y → El q (add x y)
  mul_el : ∀ x y, El q x → El q y → El q (mul x y)
  add_zero : ∀ x, El q x → add x 0 = x
  add_comm : ∀ x y, El q x → El q y → add x y = add y x
  add_assoc : ∀ x y z, El q x → El q y → El q z → add (add x y) z = add x (add y z)
  neg : ∀ x, El q x → ∃ y, El q y ∧ add x y = 0
  mul_one : ∀ x, El q x → mul x 1 = x
  mul_comm : ∀ x y, El q x → El q y → mul x y = mul y x
  mul_assoc : ∀ x y z, El q x → El q y → El q z → mul (mul x y) z = mul x (mul y z)
  distrib : ∀ x y z, El q x → El q y → El q z → mul x (add y z) = add (mul x y) (mul x z)
  nzd : ∀ x y, El q x → El q y → mul x y = 0 → x = 0 ∨ y = 0
noncomputable def ind (p : Prop) : Int := open Classical in if p then 1 else 0
theorem ind_true {p : Prop} (h : p) : ind p = 1 := by unfold ind; exact if_pos h
theorem ind_false {p : Prop} (h : ¬ p) : ind p = 0 := by unfold ind; exact if_neg h
theorem ind_congr {p r : Prop} (h : p ↔ r) : ind p = ind r := by rw [propext h]
theorem ind_and (p r : Prop) : ind (p ∧ r) = ind p * ind r := by
  by_cases h : p
  · by_cases g : r
    · rw [ind_true h, ind_true g, ind_true ⟨h, g⟩]; rfl
    · rw [ind_true h, ind_false g, ind_false (fun e => g e.2)]; rfl
  · rw [ind_false h, ind_false (fun e : p ∧ r => h e.1)]; simp
theorem ind_le_one (p : Prop) : ind p ≤ 1 := by
  by_cases h : p
  · rw [ind_true h]; omega
  · rw [ind_false h]; omega
theorem onto_of_inj {q : Nat} {σ : Nat → Nat} (hm : ∀ a, a < q → σ a < q) (hi : ∀ a b, a < q → b < q → σ a = σ b → a = b) :
    ∀ b, b < q → sm q (fun a => ind (σ a = b)) = 1 := by
  have le1 : ∀ b, b < q → sm q (fun a => ind (σ a = b)) ≤ 1 := by
    intro b _
    by_cases h : ∃ a, a < q ∧ σ a = b
    · obtain ⟨a, ha, e⟩ := h
      rw [sm_single ha (fun i hi2 hne => ind_false (fun e2 => hne (hi i a hi2 ha (by rw [e2, e]))))]
      exact ind_le_one _
    · rw [sm_zero (fun i hi2 => ind_false (fun e => h ⟨i, hi2, e⟩))]; omega
  have tot : sm q (fun b => sm q (fun a => ind (σ a = b))) = q := by
    rw [sm_swap]
    have : ∀ a, a < q → sm q (fun b => ind (σ a = b)) = 1 := by
      intro a ha
      rw [sm_single (hm a ha) (fun i _ hne => ind_false (fun e => hne e.symm))]
      exact ind_true rfl
    rw [sm_congr this]
    have : ∀ n : Nat, sm n (fun _ => 1) = n := by
      intro n
      induction n with
      | zero => rfl
      | succ n ih => simp only [sm]; rw [ih]; omega
    exact this q
  intro b hb
  refine Decidable.byContradiction fun hne => ?_
  have hlt : sm q (fun a => ind (σ a = b)) ≤ 0 := by have := le1 b hb; omega
  have : ∀ n : Nat, n ≤ q → sm n (fun b => sm q (fun a => ind (σ a = b))) ≤ (n : Int) - (if b < n then 1 else 0) := by
    intro n
    induction n with
    | zero => intro _; simp [sm]
    | succ n ih =>
      intro hn
      simp only [sm]
      have h1 := ih (by omega)
      have h2 := le1 n (by omega)
      by_cases e : b = n
      · subst e
        rw [if_neg (by omega)] at h1
        rw [if_pos (by omega)]; omega
      · by_cases g : b < n
        · rw [if_pos g] at h1; rw [if_pos (by omega)]; omega
        · rw [if_neg g] at h1; rw [if_neg (by omega)]; omega
  have := this q (Nat.le_refl q)
  rw [tot, if_pos hb] at this
  omega
theorem sm_perm {q : Nat} {σ : Nat → Nat} (hm : ∀ a, a < q → σ a < q) (hi : ∀ a b, a < q → b < q → σ a = σ b → a = b) (f : Nat → Int) :
    sm q (fun a => f (σ a)) = sm q f := by
  have e1 : ∀ a, a < q → f (σ a) = sm q (fun b => ind (σ a = b) * f b) := by
    intro a ha
    rw [sm_single (hm a ha) (fun i _ hne => by rw [ind_false (fun e => hne e.symm)]; simp)]
    rw [ind_true rfl]; simp
  rw [sm_congr e1, sm_swap]
  refine sm_congr fun b hb => ?_
  rw [sm_mul_right, onto_of_inj hm hi b hb]; simp
def se (q : Nat) (f : Int → Int) : Int := sm q (fun a => f (a : Int))
theorem se_congr {q : Nat} {f g : Int → Int} (h : ∀ a, El q a → f a = g a) : se q f = se q g :=
  sm_congr fun i hi => h _ ⟨by omega, by omega⟩
theorem se_zero {q : Nat} {f : Int → Int} (h : ∀ a, El q a → f a = 0) : se q f = 0 :=
  sm_zero fun i hi => h _ ⟨by omega, by omega⟩
theorem se_single {q : Nat} {a : Int} {f : Int → Int} (ha : El q a) (h : ∀ i, El q i → i ≠ a → f i = 0) : se q f = f a := by
  obtain ⟨h0, h1⟩ := ha
  unfold se
  rw [sm_single (a := a.toNat) (by omega) (fun i hi hne => h _ ⟨by omega, by omega⟩ (by omega))]
  rw [Int.toNat_of_nonneg h0]
theorem se_const (q : Nat) (c : Int) : se q (fun _ => c) = q * c := by
  unfold se
  induction q with
  | zero => simp [sm]
  | succ n ih => simp only [sm]; rw [ih, Int.natCast_add]; grind
theorem se_mul (q : Nat) (c : Int) (f : Int → Int) : se q (fun i => c * f i) = c * se q f := sm_mul _ _ _
theorem se_mul_right (q : Nat) (c : Int) (f : Int → Int) : se q (fun i => f i * c) = se q f * c := sm_mul_right _ _ _
theorem se_perm {q : Nat} {σ : Int → Int} (hm : ∀ a, El q a → El q (σ a)) (hi : ∀ a b, El q a → El q b → σ a = σ b → a = b) (f : Int → Int) :
    se q (fun a => f (σ a)) = se q f := by
  unfold se
  have := sm_perm (q := q) (σ := fun a => (σ (a : Int)).toNat)
    (fun a ha => by have := hm (a : Int) ⟨by omega, by omega⟩; unfold El at this; omega)
    (fun a b ha hb e => by
      have h1 := hm (a : Int) ⟨by omega, by omega⟩
      have h2 := hm (b : Int) ⟨by omega, by omega⟩
      unfold El at h1 h2
      have e : (σ (a : Int)).toNat = (σ (b : Int)).toNat := e
      have := hi a b ⟨by omega, by omega⟩ ⟨by omega, by omega⟩ (by omega)
      omega)
    (fun a => f (a : Int))
  rw [← this]
  refine sm_congr fun a ha => ?_
  have h1 := hm (a : Int) ⟨by omega, by omega⟩
  unfold El at h1
  rw [Int.toNat_of_nonneg h1.1]
theorem se_swap (q : Nat) (f : Int → Int → Int) : se q (fun i => se q (fun j => f i j)) = se q (fun j => se q (fun i => f i j)) := sm_swap _ _ _
def ws (q : Nat) : Nat → (List Int → Int) → Int
  | 0, f => f []
  | n + 1, f => se q (fun a => ws q n (fun w => f (a :: w)))
def Wd (q n : Nat) (w : List Int) : Prop := w.length = n ∧ ∀ x ∈ w, El q x
theorem wd_nil (q : Nat) : Wd q 0 [] := ⟨rfl, by simp⟩
theorem wd_cons {q n : Nat} {a : Int} {w : List Int} (ha : El q a) (hw : Wd q n w) : Wd q (n + 1) (a :: w) :=
  ⟨by simp [hw.1], by intro x hx; exact (List.mem_cons.mp hx).elim (fun e => e ▸ ha) (fun e => hw.2 x e)⟩
theorem wd_head {q n : Nat} {a : Int} {w : List Int} (h : Wd q (n + 1) (a :: w)) : El q a ∧ Wd q n w :=
  ⟨h.2 a (by simp), by have := h.1; simp at this; exact this, fun x hx => h.2 x (by simp [hx])⟩
theorem wd_zero {q : Nat} {w : List Int} (h : Wd q 0 w) : w = [] := List.length_eq_zero_iff.mp h.1
theorem ws_congr {q : Nat} : ∀ {n : Nat} {f g : List Int → Int}, (∀ w, Wd q n w → f w = g w) → ws q n f = ws q n g
  | 0, f, g, h => h [] (wd_nil q)
  | n + 1, f, g, h => se_congr fun a ha => ws_congr fun w hw => h (a :: w) (wd_cons ha hw)
theorem ws_mul {q : Nat} : ∀ (n : Nat) (c : Int) (f : List Int → Int), ws q n (fun w => c * f w) = c * ws q n f
  | 0, c, f => rfl
  | n + 1, c, f => by simp only [ws]; rw [se_congr (fun a _ => ws_mul n c _), se_mul]
theorem ws_se {q : Nat} : ∀ (n : Nat) (f : Int → List Int → Int), ws q n (fun w => se q (fun a => f a w)) = se q (fun a => ws q n (fun w => f a w))
  | 0, f => rfl
  | n + 1, f => by
    simp only [ws]
    rw [se_congr (fun a _ => ws_se n (fun b w => f b (a :: w))), se_swap]
section field
variable {q : Nat} {add mul : Int → Int → Int}
theorem Fld.el0 (F : Fld q add mul) : El q 0 := ⟨by omega, by have := F.two; omega⟩
theorem Fld.el1 (F : Fld q add mul) : El q 1 := ⟨by omega, by have := F.two; omega⟩
theorem Fld.zero_add (F : Fld q add mul) (x : Int) (hx : El q x) : add 0 x = x := by
  rw [F.add_comm 0 x F.el0 hx, F.add_zero x hx]
theorem Fld.cancel (F : Fld q add mul) (x y z : Int) (hx : El q x) (hy : El q y) (hz : El q z) (h : add x y = add x z) : y = z := by
  obtain ⟨n, hn, e⟩ := F.neg x hx
  have : add n (add x y) = add n (add x z) := by rw [h]
  rw [← F.add_assoc n x y hn hx hy, ← F.add_assoc n x z hn hx hz, F.add_comm n x hn hx, e, F.zero_add y hy, F.zero_add z hz] at this
  exact this
theorem Fld.mul_zero (F : Fld q add mul) (x : Int) (hx : El q x) : mul x 0 = 0 := by
  have h := F.distrib x 0 0 hx F.el0 F.el0
  rw [F.add_zero 0 F.el0] at h
  have hm := F.mul_el x 0 hx F.el0
  exact F.cancel (mul x 0) (mul x 0) 0 hm hm F.el0 (by rw [← h, F.add_zero _ hm])
theorem Fld.zero_mul (F : Fld q add mul) (x : Int) (hx : El q x) : mul 0 x = 0 := by
  rw [F.mul_comm 0 x F.el0 hx, F.mul_zero x hx]
theorem Fld.one_mul (F : Fld q add mul) (x : Int) (hx : El q x) : mul 1 x = x := by
  rw [F.mul_comm 1 x F.el1 hx, F.mul_one x hx]
theorem Fld.rdistrib (F : Fld q add mul) (x y z : Int) (hx : El q x) (hy : El q y) (hz : El q z) : mul (add y z) x = add (mul y x) (mul z x) := by
  rw [F.mul_comm _ x (F.add_el _ _ hy hz) hx, F.distrib x y z hx hy hz, F.mul_comm x y hx hy, F.mul_comm x z hx hz]
theorem Fld.inv (F : Fld q add mul) (x : Int) (hx : El q x) (h : x ≠ 0) : ∃ y, El q y ∧ mul x y = 1 := by
  have inj : ∀ a b, El q a → El q b → mul x a = mul x b → a = b := by
    intro a b ha hb e
    obtain ⟨n, hn, en⟩ := F.neg b hb
    have h0 : mul x (add a n) = 0 := by
      rw [F.distrib x a n hx ha hn, e, ← F.distrib x b n hx hb hn, en, F.mul_zero x hx]
    rcases F.nzd x (add a n) hx (F.add_el a n ha hn) h0 with g | g
    · exact absurd g h
    · have : add n a = add n b := by rw [F.add_comm n a hn ha, g, F.add_comm n b hn hb, en]
      exact F.cancel n a b hn ha hb this
  have := se_perm (q := q) (σ := mul x) (fun a ha => F.mul_el x a hx ha) inj (fun y => ind (y = 1))
  rw [se_single (f := fun y => ind (y = 1)) F.el1 (fun i _ hne => ind_false hne), ind_true rfl] at this
  refine Classical.byContradiction fun hno => ?_
  rw [se_zero (fun a ha => ind_false (fun e => hno ⟨a, ha, e⟩))] at this
  omega
def wadd (add : Int → Int → Int) (u v : List Int) : List Int := List.zipWith add u v
def wscl (mul : Int → Int → Int) (a : Int) (u : List Int) : List Int := u.map (mul a)
def dot (add mul : Int → Int → Int) : List Int → List Int → Int
  | a :: u, b :: v => add (mul a b) (dot add mul u v)
  | _, _ => 0
theorem wd_wadd (F : Fld q add mul) : ∀ {n : Nat} {u v : List Int}, Wd q n u → Wd q n v → Wd q n (wadd add u v)
  | 0, u, v, hu, hv => by rw [wd_zero hu]; exact wd_nil q
  | n + 1, [], _, hu, _ => by have := hu.1; simp at this
  | n + 1, _ :: _, [], _, hv => by have := hv.1; simp at this
  | n + 1, a :: u, b :: v, hu, hv => by
    have h1 := wd_head hu
    have h2 := wd_head hv
    exact wd_cons (F.add_el a b h1.1 h2.1) (wd_wadd F h1.2 h2.2)
theorem wd_wscl (F : Fld q add mul) {n : Nat} {a : Int} {u : List Int} (ha : El q a) (hu : Wd q n u) : Wd q n (wscl mul a u) :=
  ⟨by unfold wscl; rw [List.length_map]; exact hu.1, by
    intro x hx
    unfold wscl at hx
    obtain ⟨y, hy, rfl⟩ := List.mem_map.mp hx
    exact F.mul_el a y ha (hu.2 y hy)⟩
theorem wd_rep {n : Nat} (h : El q 0) : Wd q n (List.replicate n 0) :=
  ⟨by simp, fun x hx => by rw [(List.mem_replicate.mp hx).2]; exact h⟩
theorem dot_el (F : Fld q add mul) : ∀ {n : Nat} {u v : List Int}, Wd q n u → Wd q n v → El q (dot add mul u v)
  | 0, u, v, hu, hv => by rw [wd_zero hu]; exact F.el0
  | n + 1, [], _, hu, _ => by have := hu.1; simp at this
  | n + 1, _ :: _, [], _, hv => by have := hv.1; simp at this
  | n + 1, a :: u, b :: v, hu, hv => by
    have h1 := wd_head hu
    have h2 := wd_head hv
    exact F.add_el _ _ (F.mul_el a b h1.1 h2.1) (dot_el F h1.2 h2.2)
theorem dot_add (F : Fld q add mul) : ∀ {n : Nat} {u v y : List Int}, Wd q n u → Wd q n v → Wd q n y → dot add mul (wadd add u v) y = add (dot add mul u y) (dot add mul v y)
  | 0, u, v, y, hu, hv, hy => by rw [wd_zero hu, wd_zero hv, wd_zero hy]; exact (F.add_zero 0 F.el0).symm
  | n + 1, [], _, _, hu, _, _ => by have := hu.1; simp at this
  | n + 1, _ :: _, [], _, _, hv, _ => by have := hv.1; simp at this
  | n + 1, _ :: _, _ :: _, [], _, _, hy => by have := hy.1; simp at this
  | n + 1, a :: u, b :: v, c :: y, hu, hv, hy => by
    have h1 := wd_head hu
    have h2 := wd_head hv
    have h3 := wd_head hy
    have ih := dot_add F h1.2 h2.2 h3.2
    show add (mul (add a b) c) (dot add mul (wadd add u v) y) = add (add (mul a c) (dot add mul u y)) (add (mul b c) (dot add mul v y))
    rw [ih, F.rdistrib c a b h3.1 h1.1 h2.1]
    have e1 := F.mul_el a c h1.1 h3.1
    have e2 := F.mul_el b c h2.1 h3.1
    have e3 := dot_el F h1.2 h3.2
    have e4 := dot_el F h2.2 h3.2
    rw [F.add_assoc _ _ _ e1 e2 (F.add_el _ _ e3 e4), F.add_assoc _ _ _ e1 e3 (F.add_el _ _ e2 e4), ← F.add_assoc _ _ _ e2 e3 e4, F.add_comm _ _ e2 e3, F.add_assoc _ _ _ e3 e2 e4]
theorem dot_scl (F : Fld q add mul) : ∀ {n : Nat} {a : Int} {u y : List Int}, El q a → Wd q n u → Wd q n y → dot add mul (wscl mul a u) y = mul a (dot add mul u y)
  | 0, a, u, y, ha, hu, hy => by rw [wd_zero hu, wd_zero hy]; exact (F.mul_zero a ha).symm
  | n + 1, _, [], _, _, hu, _ => by have := hu.1; simp at this
  | n + 1, _, _ :: _, [], _, _, hy => by have := hy.1; simp at this
  | n + 1, a, b :: u, c :: y, ha, hu, hy => by
    have h1 := wd_head hu
    have h3 := wd_head hy
    have ih := dot_scl F ha h1.2 h3.2
    show add (mul (mul a b) c) (dot add mul (wscl mul a u) y) = mul a (add (mul b c) (dot add mul u y))
    rw [ih, F.distrib _ _ _ ha (F.mul_el _ _ h1.1 h3.1) (dot_el F h1.2 h3.2), F.mul_assoc a b c ha h1.1 h3.1]
theorem wadd_rep (F : Fld q add mul) : ∀ {n : Nat} {u : List Int}, Wd q n u → wadd add u (List.replicate n 0) = u
  | 0, u, hu => by rw [wd_zero hu]; rfl
  | n + 1, [], hu => by have := hu.1; simp at this
  | n + 1, a :: u, hu => by
    have h := wd_head hu
    show add a 0 :: wadd add u (List.replicate n 0) = a :: u
    rw [F.add_zero a h.1, wadd_rep F h.2]
theorem wadd_comm (F : Fld q add mul) : ∀ {n : Nat} {u v : List Int}, Wd q n u → Wd q n v → wadd add u v = wadd add v u
  | 0, u, v, hu, hv => by rw [wd_zero hu, wd_zero hv]
  | n + 1, [], _, hu, _ => by have := hu.1; simp at this
  | n + 1, _ :: _, [], _, hv => by have := hv.1; simp at this
  | n + 1, a :: u, b :: v, hu, hv => by
    have h1 := wd_head hu
    have h2 := wd_head hv
    show add a b :: wadd add u v = add b a :: wadd add v u
    rw [F.add_comm a b h1.1 h2.1, wadd_comm F h1.2 h2.2]
theorem wadd_assoc (F : Fld q add mul) : ∀ {n : Nat} {u v y : List Int}, Wd q n u → Wd q n v → Wd q n y → wadd add (wadd add u v) y = wadd add u (wadd add v y)
  | 0, u, v, y, hu, hv, hy => by rw [wd_zero hu, wd_zero hv, wd_zero hy]; rfl
  | n + 1, [], _, _, hu, _, _ => by have := hu.1; simp at this
  | n + 1, _ :: _, [], _, _, hv, _ => by have := hv.1; simp at this
  | n + 1, _ :: _, _ :: _, [], _, _, hy => by have := hy.1; simp at this
  | n + 1, a :: u, b :: v, c :: y, hu, hv, hy => by
    have h1 := wd_head hu
    have h2 := wd_head hv
    have h3 := wd_head hy
    show add (add a b) c :: wadd add (wadd add u v) y = add a (add b c) :: wadd add u (wadd add v y)
    rw [F.add_assoc a b c h1.1 h2.1 h3.1, wadd_assoc F h1.2 h2.2 h3.2]
theorem wscl_zero (F : Fld q add mul) : ∀ {n : Nat} {u : List Int}, Wd q n u → wscl mul 0 u = List.replicate n 0
  | 0, u, hu => by rw [wd_zero hu]; rfl
  | n + 1, [], hu => by have := hu.1; simp at this
  | n + 1, a :: u, hu => by
    have h := wd_head hu
    show mul 0 a :: wscl mul 0 u = 0 :: List.replicate n 0
    rw [F.zero_mul a h.1, wscl_zero F h.2]
theorem wscl_one (F : Fld q add mul) : ∀ {n : Nat} {u : List Int}, Wd q n u → wscl mul 1 u = u
  | 0, u, hu => by rw [wd_zero hu]; rfl
  | n + 1, [], hu => by have := hu.1; simp at this
  | n + 1, a :: u, hu => by
    have h := wd_head hu
    show mul 1 a :: wscl mul 1 u = a :: u
    rw [F.one_mul a h.1, wscl_one F h.2]
theorem wscl_rep (F : Fld q add mul) {a : Int} (ha : El q a) (n : Nat) : wscl mul a (List.replicate n 0) = List.replicate n 0 := by
  unfold wscl; rw [List.map_replicate, F.mul_zero a ha]
theorem wscl_add (F : Fld q add mul) {a b : Int} (ha : El q a) (hb : El q b) : ∀ {n : Nat} {u : List Int}, Wd q n u → wscl mul (add a b) u = wadd add (wscl mul a u) (wscl mul b u)
  | 0, u, hu => by rw [wd_zero hu]; rfl
  | n + 1, [], hu => by have := hu.1; simp at this
  | n + 1, c :: u, hu => by
    have h1 := wd_head hu
    show mul (add a b) c :: wscl mul (add a b) u = add (mul a c) (mul b c) :: wadd add (wscl mul a u) (wscl mul b u)
    rw [F.rdistrib c a b h1.1 ha hb, wscl_add F ha hb h1.2]
theorem wneg (F : Fld q add mul) : ∃ m, El q m ∧ add 1 m = 0 ∧ ∀ {n : Nat} {u : List Int}, Wd q n u → wadd add u (wscl mul m u) = List.replicate n 0 := by
  obtain ⟨m, hm, e⟩ := F.neg 1 F.el1
  refine ⟨m, hm, e, fun {n u} hu => ?_⟩
  have := wscl_add F F.el1 hm hu
  rw [e, wscl_one F hu, wscl_zero F hu] at this
  exact this.symm
theorem ws_shift (F : Fld q add mul) : ∀ {n : Nat} {t : List Int}, Wd q n t → ∀ f, ws q n (fun w => f (wadd add t w)) = ws q n f
  | 0, t, ht, f => by rw [wd_zero ht]; rfl
  | n + 1, [], ht, _ => by have := ht.1; simp at this
  | n + 1, b :: t, ht, f => by
    have h := wd_head ht
    show se q (fun a => ws q n (fun w => f (add b a :: wadd add t w))) = se q (fun a => ws q n (fun w => f (a :: w)))
    rw [se_congr (fun a _ => ws_shift F h.2 (fun w => f (add b a :: w)))]
    exact se_perm (σ := add b) (fun a ha => F.add_el b a h.1 ha) (fun a c ha hc e => F.cancel b a c h.1 ha hc e) (fun a => ws q n (fun w => f (a :: w)))
structure Lin (q : Nat) (add mul : Int → Int → Int) (n : Nat) (C : List Int → Prop) : Prop where
  zero : C (List.replicate n 0)
  add : ∀ u v, Wd q n u → Wd q n v → C u → C v → C (wadd add u v)
  scl : ∀ a u, El q a → Wd q n u → C u → C (wscl mul a u)
def Dl (q : Nat) (add mul : Int → Int → Int) (n : Nat) (C : List Int → Prop) (d : List Int) : Prop := ∀ c, Wd q n c → C c → dot add mul c d = 0
def Van : List Bool → List Int → Prop
  | s :: S, a :: w => (s = true → a = 0) ∧ Van S w
  | _, _ => True
def cnt : List Bool → Nat
  | [] => 0
  | true :: S => cnt S + 1
  | false :: S => cnt S
theorem ind_cons_true (C : List Int → Prop) (S : List Bool) (a : Int) (w : List Int) : ind (C (a :: w) ∧ Van (true :: S) (a :: w)) = ind (a = 0) * ind (C (a :: w) ∧ Van S w) := by
  rw [← ind_and]; refine ind_congr ⟨fun h => ⟨h.2.1 rfl, h.1, h.2.2⟩, fun h => ⟨h.2.1, fun _ => h.1, h.2.2⟩⟩
theorem ind_cons_false (C : List Int → Prop) (S : List Bool) (a : Int) (w : List Int) : ind (C (a :: w) ∧ Van (false :: S) (a :: w)) = ind (C (a :: w) ∧ Van S w) :=
  ind_congr ⟨fun h => ⟨h.1, h.2.2⟩, fun h => ⟨h.1, fun e => by simp at e, h.2⟩⟩
theorem ws_at0 (h0 : El q 0) (n : Nat) (C : List Int → Prop) (S : List Bool) :
    ws q (n + 1) (fun c => ind (C c ∧ Van (true :: S) c)) = ws q n (fun w => ind (C (0 :: w) ∧ Van S w)) := by
  simp only [ws]
  rw [se_congr (fun a _ => ws_congr (fun w _ => ind_cons_true C S a w))]
  rw [se_congr (fun a _ => ws_mul n (ind (a = 0)) _)]
  rw [se_single h0 (fun i _ hne => by rw [ind_false hne]; simp)]
  rw [ind_true rfl]; simp
theorem ws_any (n : Nat) (C : List Int → Prop) (S : List Bool) :
    ws q (n + 1) (fun c => ind (C c ∧ Van (false :: S) c)) = ws q n (fun w => ind (Van S w) * se q (fun a => ind (C (a :: w)))) := by
  simp only [ws]
  rw [se_congr (fun a _ => ws_congr (fun w _ => ind_cons_false C S a w))]
  rw [← ws_se]
  refine ws_congr fun w _ => ?_
  rw [← se_mul]
  refine se_congr fun a _ => ?_
  rw [← ind_and]
  exact ind_congr ⟨fun h => ⟨h.2, h.1⟩, fun h => ⟨h.2, h.1⟩⟩
theorem ws_all (n : Nat) (C : List Int → Prop) : ws q (n + 1) (fun c => ind (C c)) = ws q n (fun w => se q (fun a => ind (C (a :: w)))) := by
  simp only [ws]; rw [ws_se]
theorem ind_van_mul (C : List Int → Prop) (S : List Bool) (w : List Int) : ind (Van S w) * ind (C w) = ind (C w ∧ Van S w) := by
  rw [← ind_and]; exact ind_congr ⟨fun h => ⟨h.2, h.1⟩, fun h => ⟨h.2, h.1⟩⟩
theorem key (F : Fld q add mul) : ∀ (n : Nat) (C : List Int → Prop), Lin q add mul n C → ∀ S : List Bool, S.length = n →
    ws q n (fun c => ind (C c ∧ Van S c)) * (q : Int) ^ cnt S = ws q n (fun c => ind (C c)) * ws q n (fun d => ind (Dl q add mul n C d ∧ Van (S.map not) d)) := by
  intro n
  induction n with
  | zero =>
    intro C hC S hS
    have hS : S = [] := List.length_eq_zero_iff.mp hS
    subst hS
    have h0 : C [] := hC.zero
    show ind (C [] ∧ True) * (q : Int) ^ 0 = ind (C []) * ind (Dl q add mul 0 C [] ∧ True)
    rw [ind_true ⟨h0, trivial⟩, ind_true h0, ind_true ⟨fun c hc _ => by rw [wd_zero hc]; rfl, trivial⟩]
    rfl
  | succ n ih =>
    intro C hC S hS
    obtain ⟨s, S, rfl⟩ : ∃ s S', S = s :: S' := by
      cases S with
      | nil => simp at hS
      | cons s S => exact ⟨s, S, rfl⟩
    have hS' : S.length = n := by simp at hS; exact hS
    have two := F.two
    cases s with
    | true =>
      have hC0 : Lin q add mul n (fun w => C (0 :: w)) := ⟨hC.zero,
        fun u v hu hv h1 h2 => by
          have := hC.add (0 :: u) (0 :: v) (wd_cons F.el0 hu) (wd_cons F.el0 hv) h1 h2
          rw [show wadd add (0 :: u) (0 :: v) = add 0 0 :: wadd add u v from rfl, F.add_zero 0 F.el0] at this
          exact this,
        fun a u ha hu h1 => by
          have := hC.scl a (0 :: u) ha (wd_cons F.el0 hu) h1
          rw [show wscl mul a (0 :: u) = mul a 0 :: wscl mul a u from rfl, F.mul_zero a ha] at this
          exact this⟩
      have IH := ih _ hC0 S hS'
      rw [ws_at0 F.el0]
      show _ * (q : Int) ^ (cnt S + 1) = _ * ws q (n + 1) (fun d => ind (Dl q add mul (n + 1) C d ∧ Van (false :: S.map not) d))
      rw [ws_any, ws_all]
      by_cases hA : ∀ a w, El q a → Wd q n w → C (a :: w) → a = 0
      ·
        have e1 : ws q n (fun w => se q (fun a => ind (C (a :: w)))) = ws q n (fun w => ind (C (0 :: w))) := by
          refine ws_congr fun w hw => ?_
          exact se_single (f := fun a => ind (C (a :: w))) F.el0 (fun a ha hne => ind_false (fun h => hne (hA a w ha hw h)))
        have e2 : ws q n (fun w => ind (Van (S.map not) w) * se q (fun a => ind (Dl q add mul (n + 1) C (a :: w)))) =
            (q : Int) * ws q n (fun w => ind (Dl q add mul n (fun w => C (0 :: w)) w ∧ Van (S.map not) w)) := by
          rw [← ws_mul]
          refine ws_congr fun y hy => ?_
          have : ∀ b, El q b → ind (Dl q add mul (n + 1) C (b :: y)) = ind (Dl q add mul n (fun w => C (0 :: w)) y) := by
            intro b hb
            refine ind_congr ⟨fun h c hc h1 => ?_, fun h c hc h1 => ?_⟩
            · have := h (0 :: c) (wd_cons F.el0 hc) h1
              rw [show dot add mul (0 :: c) (b :: y) = add (mul 0 b) (dot add mul c y) from rfl, F.zero_mul b hb, F.zero_add _ (dot_el F hc hy)] at this
              exact this
            · cases c with
              | nil => have := hc.1; simp at this
              | cons a c =>
                have hh := wd_head hc
                have := hA a c hh.1 hh.2 h1
                subst this
                rw [show dot add mul (0 :: c) (b :: y) = add (mul 0 b) (dot add mul c y) from rfl, F.zero_mul b hb, F.zero_add _ (dot_el F hh.2 hy)]
                exact h c hh.2 h1
          rw [se_congr this, se_const, ← ind_van_mul]
          grind
        rw [e1, e2, Int.pow_succ, ← Int.mul_assoc, IH]
        grind
      ·
        have hB : ∃ w1, Wd q n w1 ∧ C (1 :: w1) := by
          refine Classical.byContradiction fun hno => hA fun a w ha hw h => Classical.byContradiction fun hne => hno ?_
          obtain ⟨i, hi, e⟩ := F.inv a ha hne
          refine ⟨wscl mul i w, wd_wscl F hi hw, ?_⟩
          have := hC.scl i (a :: w) hi (wd_cons ha hw) h
          rw [show wscl mul i (a :: w) = mul i a :: wscl mul i w from rfl, F.mul_comm i a hi ha, e] at this
          exact this
        obtain ⟨w1, hw1, h1⟩ := hB
        obtain ⟨m, hm, em, hneg⟩ := wneg F
        have move : ∀ a w, El q a → Wd q n w → (C (a :: wadd add (wscl mul a w1) w) ↔ C (0 :: w)) := by
          intro a w ha hw
          have hs : C (a :: wscl mul a w1) := by
            have := hC.scl a (1 :: w1) ha (wd_cons F.el1 hw1) h1
            rw [show wscl mul a (1 :: w1) = mul a 1 :: wscl mul a w1 from rfl, F.mul_one a ha] at this
            exact this
          have hsw := wd_wscl F ha hw1
          constructor
          · intro h
            have hn := hC.scl m _ hm (wd_cons ha hsw) hs
            have hadd := hC.add _ _ (wd_wscl F hm (wd_cons ha hsw)) (wd_cons ha (wd_wadd F hsw hw)) hn h
            have e : wadd add (wscl mul m (a :: wscl mul a w1)) (a :: wadd add (wscl mul a w1) w) = 0 :: w := by
              rw [show (a :: wadd add (wscl mul a w1) w) = wadd add (a :: wscl mul a w1) (0 :: w) from by
                show _ = add a 0 :: _; rw [F.add_zero a ha]; rfl]
              rw [← wadd_assoc F (wd_wscl F hm (wd_cons ha hsw)) (wd_cons ha hsw) (wd_cons F.el0 hw), wadd_comm F (wd_wscl F hm (wd_cons ha hsw)) (wd_cons ha hsw), hneg (wd_cons ha hsw),
                wadd_comm F (wd_rep F.el0) (wd_cons F.el0 hw), wadd_rep F (wd_cons F.el0 hw)]
            rw [e] at hadd
            exact hadd
          · intro h
            have hadd := hC.add _ _ (wd_cons ha hsw) (wd_cons F.el0 hw) hs h
            rw [show wadd add (a :: wscl mul a w1) (0 :: w) = add a 0 :: wadd add (wscl mul a w1) w from rfl, F.add_zero a ha] at hadd
            exact hadd
        have e1 : ws q n (fun w => se q (fun a => ind (C (a :: w)))) = (q : Int) * ws q n (fun w => ind (C (0 :: w))) := by
          rw [ws_se, ← se_const]
          refine se_congr fun a ha => ?_
          rw [← ws_shift F (wd_wscl F ha hw1) (fun w => ind (C (a :: w)))]
          exact ws_congr fun w hw => ind_congr (move a w ha hw)
        have e2 : ws q n (fun w => ind (Van (S.map not) w) * se q (fun a => ind (Dl q add mul (n + 1) C (a :: w)))) =
            ws q n (fun w => ind (Dl q add mul n (fun w => C (0 :: w)) w ∧ Van (S.map not) w)) := by
          refine ws_congr fun y hy => ?_
          have hd := dot_el F hw1 hy
          obtain ⟨b0, hb0, eb0⟩ := F.neg _ hd
          have : ∀ b, El q b → ind (Dl q add mul (n + 1) C (b :: y)) = ind (b = b0) * ind (Dl q add mul n (fun w => C (0 :: w)) y) := by
            intro b hb
            rw [← ind_and]
            refine ind_congr ⟨fun h => ⟨?_, fun c hc hcc => ?_⟩, fun h c hc hcc => ?_⟩
            · have := h (1 :: w1) (wd_cons F.el1 hw1) h1
              rw [show dot add mul (1 :: w1) (b :: y) = add (mul 1 b) (dot add mul w1 y) from rfl, F.one_mul b hb, F.add_comm _ _ hb hd] at this
              exact F.cancel _ _ _ hd hb hb0 (by rw [this, eb0])
            · have := h (0 :: c) (wd_cons F.el0 hc) hcc
              rw [show dot add mul (0 :: c) (b :: y) = add (mul 0 b) (dot add mul c y) from rfl, F.zero_mul b hb, F.zero_add _ (dot_el F hc hy)] at this
              exact this
            · cases c with
              | nil => have := hc.1; simp at this
              | cons a c =>
                have hh := wd_head hc
                obtain ⟨rfl, hdual⟩ := h
                have hmw := wd_wscl F hm (wd_wscl F hh.1 hw1)
                have hc' : c = wadd add (wscl mul a w1) (wadd add (wscl mul m (wscl mul a w1)) c) := by
                  rw [← wadd_assoc F (wd_wscl F hh.1 hw1) hmw hh.2, hneg (wd_wscl F hh.1 hw1), wadd_comm F (wd_rep F.el0) hh.2, wadd_rep F hh.2]
                have hin : C (0 :: wadd add (wscl mul m (wscl mul a w1)) c) := by
                  rw [← move a _ hh.1 (wd_wadd F hmw hh.2), ← hc']; exact hcc
                have hz := hdual _ (wd_wadd F hmw hh.2) hin
                have hdc : dot add mul c y = mul a (dot add mul w1 y) := by
                  rw [hc', dot_add F (wd_wscl F hh.1 hw1) (wd_wadd F hmw hh.2) hy, hz, F.add_zero _ (dot_el F (wd_wscl F hh.1 hw1) hy), dot_scl F hh.1 hw1 hy]
                show add (mul a b) (dot add mul c y) = 0
                rw [hdc, ← F.distrib a b _ hh.1 hb hd, F.add_comm b _ hb hd, eb0, F.mul_zero a hh.1]
          rw [se_congr this, se_mul_right, se_single (f := fun b => ind (b = b0)) hb0 (fun i _ hne => ind_false hne), ind_true rfl, ← ind_van_mul]
          simp
        rw [e1, e2, Int.pow_succ, ← Int.mul_assoc, IH]
        grind
    | false =>
      have hC1 : Lin q add mul n (fun w => ∃ a, El q a ∧ C (a :: w)) := ⟨⟨0, F.el0, hC.zero⟩,
        fun u v hu hv ⟨a, ha, h1⟩ ⟨b, hb, h2⟩ => ⟨add a b, F.add_el a b ha hb, hC.add _ _ (wd_cons ha hu) (wd_cons hb hv) h1 h2⟩,
        fun a u ha hu ⟨b, hb, h1⟩ => ⟨mul a b, F.mul_el a b ha hb, hC.scl a _ ha (wd_cons hb hu) h1⟩⟩
      have IH := ih _ hC1 S hS'
      rw [ws_any]
      show _ * (q : Int) ^ (cnt S) = _ * ws q (n + 1) (fun d => ind (Dl q add mul (n + 1) C d ∧ Van (true :: S.map not) d))
      rw [ws_at0 F.el0, ws_all]
      have e3 : ws q n (fun y => ind (Dl q add mul (n + 1) C (0 :: y) ∧ Van (S.map not) y)) = ws q n (fun y => ind (Dl q add mul n (fun w => ∃ a, El q a ∧ C (a :: w)) y ∧ Van (S.map not) y)) := by
        refine ws_congr fun y hy => ?_
        have : Dl q add mul (n + 1) C (0 :: y) ↔ Dl q add mul n (fun w => ∃ a, El q a ∧ C (a :: w)) y := by
          constructor
          · intro h c hc ⟨a, ha, hcc⟩
            have := h (a :: c) (wd_cons ha hc) hcc
            rw [show dot add mul (a :: c) (0 :: y) = add (mul a 0) (dot add mul c y) from rfl, F.mul_zero a ha, F.zero_add _ (dot_el F hc hy)] at this
            exact this
          · intro h c hc hcc
            cases c with
            | nil => have := hc.1; simp at this
            | cons a c =>
              have hh := wd_head hc
              show add (mul a 0) (dot add mul c y) = 0
              rw [F.mul_zero a hh.1, F.zero_add _ (dot_el F hh.2 hy)]
              exact h c hh.2 ⟨a, hh.1, hcc⟩
        exact ind_congr ⟨fun h => ⟨this.mp h.1, h.2⟩, fun h => ⟨this.mpr h.1, h.2⟩⟩
      rw [e3]
      obtain ⟨m, hm, em, hneg⟩ := wneg F
      by_cases hA : C (1 :: List.replicate n 0)
      ·
        have free : ∀ a b w, El q a → El q b → Wd q n w → C (a :: w) → C (b :: w) := by
          intro a b w ha hb hw h
          obtain ⟨na, hna, ena⟩ := F.neg a ha
          have hs := hC.scl (add na b) _ (F.add_el na b hna hb) (wd_cons F.el1 (wd_rep F.el0)) hA
          rw [show wscl mul (add na b) (1 :: List.replicate n 0) = mul (add na b) 1 :: wscl mul (add na b) (List.replicate n 0) from rfl, F.mul_one _ (F.add_el na b hna hb), wscl_rep F (F.add_el na b hna hb)] at hs
          have := hC.add _ _ (wd_cons ha hw) (wd_cons (F.add_el na b hna hb) (wd_rep F.el0)) h hs
          rw [show wadd add (a :: w) (add na b :: List.replicate n 0) = add a (add na b) :: wadd add w (List.replicate n 0) from rfl, ← F.add_assoc a na b ha hna hb, ena, F.zero_add b hb, wadd_rep F hw] at this
          exact this
        have e1 : ∀ w, Wd q n w → se q (fun a => ind (C (a :: w))) = (q : Int) * ind (∃ a, El q a ∧ C (a :: w)) := by
          intro w hw
          rw [← se_const]
          exact se_congr fun a ha => ind_congr ⟨fun h => ⟨a, ha, h⟩, fun ⟨b, hb, h⟩ => free b a w hb ha hw h⟩
        rw [ws_congr (fun w hw => by rw [e1 w hw]), ws_congr (f := fun w => se q (fun a => ind (C (a :: w)))) (fun w hw => e1 w hw), ws_mul]
        have e2 : ws q n (fun w => ind (Van S w) * ((q : Int) * ind (∃ a, El q a ∧ C (a :: w)))) = (q : Int) * ws q n (fun c => ind ((∃ a, El q a ∧ C (a :: c)) ∧ Van S c)) := by
          rw [← ws_mul]
          refine ws_congr fun w _ => ?_
          rw [← ind_van_mul (fun w => ∃ a, El q a ∧ C (a :: w))]; grind
        rw [e2, Int.mul_assoc, IH]
        grind
      ·
        have e1 : ∀ w, Wd q n w → se q (fun a => ind (C (a :: w))) = ind (∃ a, El q a ∧ C (a :: w)) := by
          intro w hw
          by_cases h : ∃ a, El q a ∧ C (a :: w)
          · obtain ⟨a, ha, hc⟩ := h
            rw [ind_true ⟨a, ha, hc⟩]
            rw [se_single (f := fun a => ind (C (a :: w))) ha, ind_true hc]
            intro b hb hne
            refine ind_false fun hcb => hA ?_
            have hn := hC.scl m _ hm (wd_cons ha hw) hc
            have hd := hC.add _ _ (wd_cons hb hw) (wd_wscl F hm (wd_cons ha hw)) hcb hn
            rw [show wadd add (b :: w) (wscl mul m (a :: w)) = add b (mul m a) :: wadd add w (wscl mul m w) from rfl, hneg hw] at hd
            have hma := F.mul_el m a hm ha
            have hne2 : add b (mul m a) ≠ 0 := by
              intro e
              have ea : add (mul m a) a = 0 := by
                have := F.rdistrib a m 1 ha hm F.el1
                rw [F.one_mul a ha, F.add_comm m 1 hm F.el1, em, F.zero_mul a ha] at this
                exact this.symm
              exact hne (F.cancel (mul m a) b a hma hb ha (by rw [F.add_comm _ b hma hb, e, ea]))
            have hel := F.add_el b _ hb hma
            obtain ⟨i, hi, ei⟩ := F.inv _ hel hne2
            have := hC.scl i _ hi (wd_cons hel (wd_rep F.el0)) hd
            rw [show wscl mul i (add b (mul m a) :: List.replicate n 0) = mul i (add b (mul m a)) :: wscl mul i (List.replicate n 0) from rfl, F.mul_comm i _ hi hel, ei, wscl_rep F hi] at this
            exact this
          · rw [ind_false h]
            exact se_zero fun a ha => ind_false fun hc => h ⟨a, ha, hc⟩
        rw [ws_congr (fun w hw => by rw [e1 w hw, ind_van_mul (fun w => ∃ a, El q a ∧ C (a :: w))]), ws_congr (f := fun w => se q (fun a => ind (C (a :: w)))) (fun w hw => e1 w hw)]
        exact IH
end field
end Mw
end
section
set_option linter.unusedVariables false
set_option linter.unusedSimpArgs false
namespace Mw
open Go Go.RowKit Go.Proofs.YtifkbghnmhineaaW.PrintWords Go.Proofs.YtifkbghnmhineaaW.PrintLast Go.Proofs.YtifkbghnmhineaaW.PrintMore Go.Proofs.Ytifkbghnmhineaa.PAll
def Rz {α : Type} (P : α → Prop) (g : Nat → Option α) : Prop := ∃ r, Ev g r ∧ P r
theorem Rz.succ {α : Type} {P : α → Prop} {g : Nat → Option α} (h : Rz P (fun k => g (k + 1))) : Rz P g := by
  obtain ⟨r, h1, h2⟩ := h
  exact ⟨r, Ev.succ h1, h2⟩
theorem Rz.bind {α β : Type} {P : β → Prop} {g : Nat → Option α} {f : Nat → α → Option β} {a : α} (hg : Ev g a) (hf : Rz P (fun k => f k a)) : Rz P (fun k => (g k).bind (f k)) := by
  obtain ⟨r, h1, h2⟩ := hf
  exact ⟨r, Ev.bind hg h1, h2⟩
theorem Rz.some {α : Type} {P : α → Prop} {r : α} (h : P r) : Rz P (fun _ => Option.some r) := ⟨r, Ev.some r, h⟩
theorem Rz.mono {α : Type} {P Q : α → Prop} {g : Nat → Option α} (h : Rz P g) (hq : ∀ a, P a → Q a) : Rz Q g := by
  obtain ⟨a, h1, h2⟩ := h
  exact ⟨a, h1, hq a h2⟩
end Mw
end
section
set_option linter.unusedVariables false
set_option linter.unusedSimpArgs false
namespace Mw
def wt : List Int → Nat
  | [] => 0
  | a :: w => (if a = 0 then 0 else 1) + wt w
section codes
variable {q : Nat} {add mul : Int → Int → Int}
noncomputable def wd (q n : Nat) (C : List Int → Prop) (T : List Bool) (j : Nat) : Int := ws q n (fun c => ind (C c) * (ind (Van T c) * ind (wt c = j)))
end codes
end Mw
end
section
set_option linter.unusedVariables false
set_option linter.unusedSimpArgs false
namespace Mw
open Go Go.RowKit Go.Proofs.YtifkbghnmhineaaW.PrintWords Go.Proofs.YtifkbghnmhineaaW.PrintLast Go.Proofs.YtifkbghnmhineaaW.PrintMore Go.Proofs.Ytifkbghnmhineaa.PAll
theorem rd1_lt {l : List (List Int)} {i : Nat} (h : i < l.length) : rd_L1 l (i : Int) = l[i] := by
  unfold rd_L1
  simp [List.getD_eq_getElem?_getD, h]
theorem u64wr (n : Int) (h0 : 0 ≤ n) (h1 : n < 2 ^ 64) : IntKind.u64.wrap n = n := u64w h0 (by omega)
theorem or_nat {a b : Nat} (ha : a < 2 ^ 64) (hb : b < 2 ^ 64) : Go.bits .or .u64 (a : Int) (b : Int) = ((a ||| b : Nat) : Int) := (bits_nat .u64 64 (by decide) u64wr a b ha hb).2
theorem and_nat {a b : Nat} (ha : a < 2 ^ 64) (hb : b < 2 ^ 64) : Go.bits .and .u64 (a : Int) (b : Int) = ((a &&& b : Nat) : Int) := (bits_nat .u64 64 (by decide) u64wr a b ha hb).1
theorem shl_one {p : Nat} (hp : p < 64) : shl .u64 1 (p : Int) = ((2 ^ p : Nat) : Int) := by
  unfold shl
  rw [Int.toNat_natCast, show min p IntKind.u64.bits = p from Nat.min_eq_left (by show p ≤ 64; omega), Int.one_mul]
  have h : (2 : Nat) ^ p < 2 ^ 64 := Nat.pow_lt_pow_right (by omega) hp
  have e : ((2 ^ p : Nat) : Int) = (2 : Int) ^ p := by rw [Int.natCast_pow]; rfl
  rw [← e]
  exact u64w (Int.natCast_nonneg _) (by omega)
def bm : Nat → List Int → Nat
  | m, [] => m
  | m, p :: l => bm (m ||| 2 ^ p.toNat) l
theorem bm_app (m : Nat) (u v : List Int) : bm m (u ++ v) = bm (bm m u) v := by
  induction u generalizing m with
  | nil => rfl
  | cons p u ih => rw [List.cons_append, bm, bm, ih]
def P64 (l : List Int) : Prop := ∀ x ∈ l, 0 ≤ x ∧ x < 64
theorem or_lt {m p : Nat} (hm : m < 2 ^ 64) (hp : p < 64) : m ||| 2 ^ p < 2 ^ 64 := Nat.or_lt_two_pow hm (Nat.pow_lt_pow_right (by omega) hp)
theorem bm_lt : ∀ {l : List Int} {m : Nat}, P64 l → m < 2 ^ 64 → bm m l < 2 ^ 64
  | [], _, _, hm => hm
  | p :: l, m, h, hm => by
    have hp := h p (List.mem_cons_self ..)
    show bm (m ||| 2 ^ p.toNat) l < 2 ^ 64
    exact bm_lt (fun x hx => h x (List.mem_cons_of_mem _ hx)) (or_lt hm (by omega))
theorem bm_bit : ∀ {l : List Int} {m j : Nat}, P64 l → ((bm m l).testBit j = true ↔ m.testBit j = true ∨ (j : Int) ∈ l)
  | [], m, j, _ => by rw [bm]; simp
  | p :: l, m, j, h => by
    have hp := h p (List.mem_cons_self ..)
    rw [bm, bm_bit (fun x hx => h x (List.mem_cons_of_mem _ hx)), Nat.testBit_or, Nat.testBit_two_pow, List.mem_cons]
    simp only [Bool.or_eq_true, decide_eq_true_eq]
    constructor
    · rintro ((h1 | h1) | h1)
      · exact .inl h1
      · exact .inr (.inl (by omega))
      · exact .inr (.inr h1)
    · rintro (h1 | h1 | h1)
      · exact .inl (.inl h1)
      · exact .inl (.inr (by omega))
      · exact .inr h1
def inb (s b : List Int) : Bool := s.all (fun x => decide (x ∈ b))
theorem inb_iff {s b : List Int} : inb s b = true ↔ ∀ x, x ∈ s → x ∈ b := by
  unfold inb
  rw [List.all_eq_true]
  exact ⟨fun h x hx => of_decide_eq_true (h x hx), fun h x hx => decide_eq_true (h x hx)⟩
theorem and_iff {s b : List Int} (hs : P64 s) (hb : P64 b) : bm 0 b &&& bm 0 s = bm 0 s ↔ inb s b = true := by
  rw [inb_iff]
  constructor
  · intro h x hx
    have h0 := hs x hx
    have h1 : (bm 0 s).testBit x.toNat = true := (bm_bit hs).mpr (.inr (by rw [Int.toNat_of_nonneg h0.1]; exact hx))
    rw [← h, Nat.testBit_and, Bool.and_eq_true] at h1
    have h2 := ((bm_bit hb).mp h1.1).resolve_left (by simp)
    rw [Int.toNat_of_nonneg h0.1] at h2
    exact h2
  · intro h
    refine Nat.eq_of_testBit_eq fun j => ?_
    rw [Nat.testBit_and]
    by_cases g : (bm 0 s).testBit j = true
    · have h1 := ((bm_bit hs).mp g).resolve_left (by simp)
      rw [g, (bm_bit hb).mpr (.inr (h _ h1))]; rfl
    · rw [Bool.eq_false_iff.mpr g, Bool.and_false]
def Kc (s : List Int) : List (List Int) → Nat
  | [] => 0
  | b :: l => Kc s l + if inb s b = true then 1 else 0
theorem Kc_app (s : List Int) (b : List Int) : ∀ l, Kc s (l ++ [b]) = Kc s l + if inb s b = true then 1 else 0
  | [] => by simp [Kc]
  | a :: l => by rw [List.cons_append, Kc, Kc_app s b l, Kc]; omega
theorem Kc_le (s : List Int) : ∀ l, Kc s l ≤ l.length
  | [] => Nat.le_refl 0
  | a :: l => by have := Kc_le s l; rw [Kc, List.length_cons]; split <;> omega
def msk (bl : List (List Int)) : List Int := bl.map (fun b => ((bm 0 b : Nat) : Int))
theorem visit_ev {bl : List (List Int)} (hb : ∀ b ∈ bl, P64 b) (hlen : bl.length ≤ 4096) {s : List Int} (hs : P64 s) (c : Int) :
    Ev (fun k => mw_visit.f k ((bm 0 s : Nat) : Int) (msk bl) c) (decide (c < 0) || (((Kc s bl : Nat) : Int) == c), ((Kc s bl : Nat) : Int)) := by
  have ml : (msk bl).length = bl.length := by simp [msk]
  have loop : ∀ (d i : Nat), i + d = bl.length → Ev (fun k => mw_visit.l0 k ((bm 0 s : Nat) : Int) (msk bl) ((Kc s (bl.take i) : Nat) : Int) (i : Int)) ((Kc s bl : Nat) : Int) := by
    intro d
    induction d with
    | zero =>
      intro i hi
      refine Ev.succ ?_
      simp only [mw_visit.l0, ml, if_neg (show ¬ (i : Int) < (bl.length : Int) by omega)]
      exact Ev.cast (Ev.some _) (by rw [List.take_of_length_le (by omega)])
    | succ d ih =>
      intro i hi
      have hil : i < bl.length := by omega
      have hB := hb _ (List.getElem_mem hil)
      have nx := ih (i + 1) (by omega)
      rw [List.take_succ_eq_append_getElem hil, Kc_app] at nx
      have hr : rd (msk bl) (i : Int) = ((bm 0 bl[i] : Nat) : Int) := by rw [rd_lt (by rw [ml]; exact hil)]; simp [msk]
      have hk := Kc_le s (bl.take i)
      rw [List.length_take] at hk
      have h0 : (0 : Nat) < 2 ^ 64 := by decide
      have e : (Go.bits .and .u64 (rd (msk bl) (i : Int)) ((bm 0 s : Nat) : Int) = ((bm 0 s : Nat) : Int)) ↔ inb s bl[i] = true := by
        rw [hr, and_nat (bm_lt hB h0) (bm_lt hs h0), ← and_iff hs hB]
        omega
      refine Ev.succ ?_
      simp only [mw_visit.l0, ml, if_pos (show (i : Int) < (bl.length : Int) by omega), if_pos (show (0 : Int) ≤ (i : Int) from Int.natCast_nonneg _), wn (show (i : Int) + 1 = ((i + 1 : Nat) : Int) by omega) (by omega), wn (show ((Kc s (bl.take i) : Nat) : Int) + 1 = ((Kc s (bl.take i) + 1 : Nat) : Int) by omega) (by omega)]
      by_cases g : inb s bl[i] = true
      · simp only [if_pos (e.mpr g)]
        rw [if_pos g] at nx
        exact nx
      · simp only [if_neg (fun h => g (e.mp h))]
        rw [if_neg g, Nat.add_zero] at nx
        exact nx
  have l0 := loop bl.length 0 (by omega)
  simp only [mw_visit.f]
  refine Ev.bind l0 ?_
  by_cases g : c < 0
  · simp only [if_pos g]
    exact Ev.cast (Ev.some _) (by simp [g])
  · simp only [if_neg g]
    exact Ev.cast (Ev.some _) (by simp [g])
def sets (n : Nat) : Nat → Nat → List (List Int)
  | 0, _ => [[]]
  | t + 1, lo => (List.range' lo (n - t - lo)).flatMap (fun i : Nat => (sets n t (i + 1)).map (fun s => (i : Int) :: s))
theorem sets_rng {n : Nat} : ∀ {t lo : Nat} {s : List Int}, s ∈ sets n t lo → s.length = t ∧ s.Pairwise (· < ·) ∧ ∀ x ∈ s, (lo : Int) ≤ x ∧ x < (n : Int)
  | 0, lo, s, h => by
    rw [sets, List.mem_singleton] at h
    subst h
    exact ⟨rfl, List.Pairwise.nil, fun x hx => by simp at hx⟩
  | t + 1, lo, s, h => by
    rw [sets, List.mem_flatMap] at h
    obtain ⟨i, hi, h⟩ := h
    obtain ⟨u, hu, rfl⟩ := List.mem_map.mp h
    obtain ⟨h1, h2, h3⟩ := sets_rng hu
    have hi := List.mem_range'_1.mp hi
    refine ⟨by rw [List.length_cons, h1], List.pairwise_cons.mpr ⟨fun x hx => by have := h3 x hx; omega, h2⟩, fun x hx => ?_⟩
    rcases List.mem_cons.mp hx with e | hx
    · omega
    · have := h3 x hx; omega
theorem sets_mem {n : Nat} : ∀ {t lo : Nat} {s : List Int}, s.length = t → s.Pairwise (· < ·) → (∀ x ∈ s, (lo : Int) ≤ x ∧ x < (n : Int)) → s ∈ sets n t lo
  | 0, lo, [], _, _, _ => by simp [sets]
  | 0, lo, _ :: _, h, _, _ => by simp at h
  | t + 1, lo, [], h, _, _ => by simp at h
  | t + 1, lo, a :: s, h1, h2, h3 => by
    have ha := h3 a (List.mem_cons_self ..)
    have hp := List.pairwise_cons.mp h2
    obtain ⟨i, rfl⟩ : ∃ i : Nat, a = (i : Int) := ⟨a.toNat, by omega⟩
    have hl : s.length = t := by simpa using h1
    have hr : ∀ x ∈ s, ((i + 1 : Nat) : Int) ≤ x ∧ x < (n : Int) := fun x hx => by have := hp.1 x hx; have := h3 x (List.mem_cons_of_mem _ hx); omega
    have hm := sets_mem (n := n) hl hp.2 hr
    have bound : t + (i + 1) ≤ n := by
      have : ∀ (l : List Int) (b : Nat), l.Pairwise (· < ·) → (∀ x ∈ l, (b : Int) ≤ x ∧ x < (n : Int)) → b ≤ n → l.length + b ≤ n := by
        intro l
        induction l with
        | nil => intro b _ _ hb; simpa using hb
        | cons a l ih =>
          intro b hp hr hb
          have hp := List.pairwise_cons.mp hp
          have ha := hr a (List.mem_cons_self ..)
          have := ih (b + 1) hp.2 (fun x hx => by have := hp.1 x hx; have := hr x (List.mem_cons_of_mem _ hx); omega) (by omega)
          rw [List.length_cons]; omega
      have := this s (i + 1) hp.2 hr (by omega)
      omega
    rw [sets, List.mem_flatMap]
    exact ⟨i, List.mem_range'_1.mpr ⟨by omega, by omega⟩, List.mem_map.mpr ⟨s, hm, rfl⟩⟩
def run : List Nat → Int → Bool → Bool × Int × Bool
  | [], c, s => (true, c, s)
  | k :: ks, c, s => if (decide (c < 0) || ((k : Int) == c)) = true then run ks (k : Int) true else (false, (k : Int), false)
theorem run_app : ∀ (a b : List Nat) (c : Int) (s : Bool), run (a ++ b) c s = if (run a c s).1 = true then run b (run a c s).2.1 (run a c s).2.2 else run a c s
  | [], b, c, s => by simp [run]
  | k :: a, b, c, s => by
    rw [List.cons_append, run, run]
    by_cases g : (decide (c < 0) || ((k : Int) == c)) = true
    · rw [if_pos g, if_pos g, run_app a b]
    · rw [if_neg g, if_neg g, if_neg (by simp)]
theorem run_false : ∀ (a : List Nat) (c : Int) (s : Bool), (run a c s).1 = false → run a c s = (false, (run a c s).2)
  | a, c, s, h => by rw [← h]
theorem subsets_ev {n : Nat} (hn : n ≤ 64) {bl : List (List Int)} (hb : ∀ b ∈ bl, P64 b) (hlen : bl.length ≤ 4096) : ∀ (t : Nat), t ≤ n → ∀ (lo : Nat), lo ≤ 65 → ∀ (u : List Int), P64 u → ∀ (c : Int) (s : Bool),
    Ev (fun k => mw_subsets.f k (n : Int) (t : Int) (lo : Int) ((bm 0 u : Nat) : Int) (msk bl) c s) (run ((sets n t lo).map (fun v => Kc (u ++ v) bl)) c s) := by
  intro t
  induction t with
  | zero =>
    intro _ lo _ u hu c s
    refine Ev.succ ?_
    simp only [mw_subsets.f, show ((0 : Nat) : Int) = 0 from rfl, if_true]
    refine Ev.bind (visit_ev hb hlen hu c) ?_
    refine Ev.cast (Ev.some _) ?_
    simp only [sets, List.map_cons, List.map_nil, List.append_nil, run]
    cases hx : (decide (c < 0) || (((Kc u bl : Nat) : Int) == c)) <;> rfl
  | succ t ih =>
    intro ht lo hlo u hu c s
    have w1 : wrap64 (((t + 1 : Nat) : Int) - 1) = (t : Int) := wn (by omega) (by omega)
    have w2 : wrap64 ((n : Int) - ((t + 1 : Nat) : Int)) = ((n - (t + 1) : Nat) : Int) := wn (by omega) (by omega)
    have loop : ∀ (d p : Nat), n - t - p = d → p ≤ 65 → ∀ (c : Int) (s : Bool),
        Ev (fun k => mw_subsets.l0 k (n : Int) ((t + 1 : Nat) : Int) ((bm 0 u : Nat) : Int) (msk bl) (p : Int) c s) (run (((List.range' p d).flatMap (fun i : Nat => (sets n t (i + 1)).map (fun s => (i : Int) :: s))).map (fun v => Kc (u ++ v) bl)) c s) := by
      intro d
      induction d with
      | zero =>
        intro p hp hp2 c s
        refine Ev.succ ?_
        simp only [mw_subsets.l0, w2, if_neg (show ¬ (p : Int) ≤ ((n - (t + 1) : Nat) : Int) by clear w1 w2; omega)]
        exact Ev.some _
      | succ d ihd =>
        intro p hp hp2 c s
        have w3 : wrap64 ((p : Int) + 1) = ((p + 1 : Nat) : Int) := wn (by clear w1 w2; omega) (by clear w1 w2; omega)
        have hp63 : p < 64 := by clear w1 w2 w3; omega
        have h0 : (0 : Nat) < 2 ^ 64 := by decide
        have hm : bm 0 (u ++ [(p : Int)]) = bm 0 u ||| 2 ^ p := by rw [bm_app, bm, bm, Int.toNat_natCast]
        have hu2 : P64 (u ++ [(p : Int)]) := fun x hx => by
          rcases List.mem_append.mp hx with h | h
          · exact hu x h
          · have := List.mem_singleton.mp h; clear w1 w2 w3; omega
        have hor : Go.bits .or .u64 ((bm 0 u : Nat) : Int) (shl .u64 1 (p : Int)) = ((bm 0 (u ++ [(p : Int)]) : Nat) : Int) := by
          rw [shl_one hp63, or_nat (bm_lt hu h0) (Nat.pow_lt_pow_right (by omega) hp63), hm]
        have inner := ih (by clear w1 w2 w3; omega) (p + 1) (by clear w1 w2 w3; omega) (u ++ [(p : Int)]) hu2 c s
        have hlist : ((List.range' p (d + 1)).flatMap (fun i : Nat => (sets n t (i + 1)).map (fun s => (i : Int) :: s))).map (fun v => Kc (u ++ v) bl) =
            ((sets n t (p + 1)).map (fun v => Kc (u ++ [(p : Int)] ++ v) bl)) ++ (((List.range' (p + 1) d).flatMap (fun i : Nat => (sets n t (i + 1)).map (fun s => (i : Int) :: s))).map (fun v => Kc (u ++ v) bl)) := by
          rw [List.range'_succ, List.flatMap_cons, List.map_append, List.map_map]
          congr 1
          refine List.map_congr_left fun v _ => ?_
          show Kc (u ++ ((p : Int) :: v)) bl = _
          rw [List.append_assoc]; rfl
        rw [hlist, run_app]
        refine Ev.succ ?_
        simp only [mw_subsets.l0, w1, w2, w3, if_pos (show (p : Int) ≤ ((n - (t + 1) : Nat) : Int) by clear w1 w2 w3; omega), if_pos (show (0 : Int) ≤ (p : Int) from Int.natCast_nonneg _), hor]
        refine Ev.bind inner ?_
        by_cases g : (run ((sets n t (p + 1)).map (fun v => Kc (u ++ [(p : Int)] ++ v) bl)) c s).1 = true
        · simp only [if_pos g]
          exact ihd (p + 1) (by clear w1 w2 w3; omega) (by clear w1 w2 w3; omega) _ _
        · simp only [if_neg g]
          exact Ev.cast (Ev.some _) (run_false _ _ _ (Bool.eq_false_iff.mpr g)).symm
    refine Ev.succ ?_
    simp only [mw_subsets.f, if_neg (show ¬ ((t + 1 : Nat) : Int) = 0 by omega)]
    rw [sets]
    exact loop (n - t - lo) lo rfl hlo c s
def chk (n : Int) : Int → List Int → Bool
  | _, [] => true
  | last, p :: l => decide (last < p ∧ p < n) && chk n p l
theorem chk_inc {n : Int} : ∀ {l : List Int} {last : Int}, chk n last l = true → l.Pairwise (· < ·) ∧ ∀ x ∈ l, last < x ∧ x < n
  | [], _, _ => ⟨List.Pairwise.nil, fun x hx => by simp at hx⟩
  | p :: l, last, h => by
    rw [chk, Bool.and_eq_true] at h
    have h1 := of_decide_eq_true h.1
    obtain ⟨h2, h3⟩ := chk_inc h.2
    refine ⟨List.pairwise_cons.mpr ⟨fun x hx => (h3 x hx).1, h2⟩, fun x hx => ?_⟩
    rcases List.mem_cons.mp hx with e | hx
    · rw [e]; exact h1
    · have := h3 x hx; omega
theorem drop_rd {l : List Int} {i : Nat} (h : i < l.length) : l.drop i = rd l (i : Int) :: l.drop (i + 1) := by rw [List.drop_eq_getElem_cons h, rd_lt h]
theorem points_ev {n : Nat} (hn : n ≤ 64) {t : Int} {bl : List (List Int)} {acc : List Int} {x : Int} {b : List Int} (hbl : b.length ≤ 4096) (hacc : acc.length < 17592186044416) {r : Int × Int} :
    ∀ (d i : Nat), i + d = b.length → ∀ (last : Int), -1 ≤ last → ∀ m : Nat, m < 2 ^ 64 → (chk (n : Int) last (b.drop i) = true → Ev (fun k => mw_Design.l0 k (n : Int) t (acc ++ [((bm m (b.drop i) : Nat) : Int)]) bl (bl.length : Int) (wrap64 (x + 1))) r) →
      (chk (n : Int) last (b.drop i) = false → r = (0, 5)) → Ev (fun k => mw_Design.l1 k (n : Int) t acc (m : Int) last bl (bl.length : Int) x b (b.length : Int) (i : Int)) r := by
  intro d
  induction d with
  | zero =>
    intro i hi last hlast m hm h1 h2
    rw [List.drop_eq_nil_of_le (by omega)] at h1
    refine Ev.succ ?_
    simp only [mw_Design.l1, if_neg (show ¬ (i : Int) < (b.length : Int) by omega), if_pos hacc]
    exact h1 rfl
  | succ d ih =>
    intro i hi last hlast m hm h1 h2
    have hil : i < b.length := by omega
    rw [drop_rd hil] at h1 h2
    obtain ⟨p, hp⟩ : ∃ p, p = rd b (i : Int) := ⟨_, rfl⟩
    rw [← hp] at h1 h2
    simp only [chk, bm] at h1 h2
    have wi : wrap64 ((i : Int) + 1) = ((i + 1 : Nat) : Int) := wn (by omega) (by omega)
    refine Ev.succ ?_
    simp only [mw_Design.l1, if_pos (show (i : Int) < (b.length : Int) by clear wi; omega), if_pos (show (0 : Int) ≤ (i : Int) from Int.natCast_nonneg _), ← hp, wi]
    by_cases g1 : p ≤ last
    · simp only [if_pos g1]
      exact Ev.cast (Ev.some _) (h2 (by rw [decide_eq_false (by clear wi; omega), Bool.false_and])).symm
    · simp only [if_neg g1]
      by_cases g2 : p ≥ (n : Int)
      · simp only [if_pos g2]
        exact Ev.cast (Ev.some _) (h2 (by rw [decide_eq_false (by clear wi; omega), Bool.false_and])).symm
      · simp only [if_neg g2, if_pos (show 0 ≤ p by clear wi; omega)]
        obtain ⟨q, hq⟩ : ∃ q : Nat, p = (q : Int) := ⟨p.toNat, by clear wi; omega⟩
        have hq64 : q < 64 := by clear wi; omega
        have hor : Go.bits .or .u64 (m : Int) (shl .u64 1 p) = ((m ||| 2 ^ p.toNat : Nat) : Int) := by
          rw [hq, Int.toNat_natCast, shl_one hq64, or_nat hm (Nat.pow_lt_pow_right (by omega) hq64)]
        simp only [hor]
        rw [decide_eq_true (show last < p ∧ p < (n : Int) by clear wi; omega), Bool.true_and] at h1 h2
        exact ih (i + 1) (by clear wi; omega) p (by clear wi; omega) _ (by rw [hq, Int.toNat_natCast]; exact or_lt hm hq64) h1 h2
theorem blocks_ev {n : Nat} (hn : n ≤ 64) {t : Int} {bl : List (List Int)} (hlen : bl.length ≤ 4096) (hb : ∀ b ∈ bl, b.length ≤ 4096) {r : Int × Int}
    (hr : bl.all (chk (n : Int) (-1)) = true → Ev (fun k => if t < 0 then mw_Design.j3 k (n : Int) t (msk bl) true else mw_Design.j3 k (n : Int) t (msk bl) (decide (t > (n : Int)))) r)
    (hbad : bl.all (chk (n : Int) (-1)) = false → r = (0, 5)) : ∀ (d i : Nat), i + d = bl.length → (bl.take i).all (chk (n : Int) (-1)) = true →
      Ev (fun k => mw_Design.l0 k (n : Int) t (msk (bl.take i)) bl (bl.length : Int) (i : Int)) r := by
  intro d
  induction d with
  | zero =>
    intro i hi ha
    have : i = bl.length := by omega
    subst this
    rw [List.take_of_length_le (Nat.le_refl _)] at ha ⊢
    refine Ev.succ ?_
    simp only [mw_Design.l0, if_neg (Int.lt_irrefl (bl.length : Int))]
    exact hr ha
  | succ d ih =>
    intro i hi ha
    have hil : i < bl.length := by omega
    have nx := ih (i + 1) (by omega)
    rw [List.take_succ_eq_append_getElem hil, List.all_append] at nx
    have hm : msk (bl.take i ++ [bl[i]]) = msk (bl.take i) ++ [((bm 0 bl[i] : Nat) : Int)] := by unfold msk; rw [List.map_append]; rfl
    rw [hm] at nx
    refine Ev.succ ?_
    simp only [mw_Design.l0, if_pos (show (i : Int) < (bl.length : Int) by omega), if_pos (show (0 : Int) ≤ (i : Int) from Int.natCast_nonneg _), rd1_lt hil]
    refine points_ev hn (hb _ (List.getElem_mem hil)) (by unfold msk; rw [List.length_map, List.length_take]; omega) bl[i].length 0 (by omega) (-1) (by omega) 0 (by decide) (fun h => ?_) (fun h => ?_)
    · rw [List.drop_zero] at h ⊢
      rw [wn (show (i : Int) + 1 = ((i + 1 : Nat) : Int) by omega) (by omega)]
      exact nx (by rw [ha]; simp [h])
    · rw [List.drop_zero] at h
      refine hbad ?_
      rw [Bool.eq_false_iff]
      intro e
      rw [List.all_eq_true.mp e _ (List.getElem_mem hil)] at h
      cases h
def desr (ks : List Nat) : Int × Int := if (run ks (-1) true).2.2 = true then ((run ks (-1) true).2.1, 0) else (0, 11)
def ksl (n t : Nat) (bl : List (List Int)) : List Nat := (sets n t 0).map (fun v => Kc v bl)
def dspec (n t : Int) (bl : List (List Int)) : Int × Int :=
  if n < 0 ∨ 64 < n then (0, 6) else if bl.all (chk n (-1)) = false then (0, 5) else if t < 0 ∨ n < t then (0, 6) else if 65536 < bin n.toNat t.toNat then (0, 8) else desr (ksl n.toNat t.toNat bl)
theorem cmp_gt {a b : Nat} : (cmpZ (a : Int) (b : Int) > 0) ↔ b < a := by
  unfold cmpZ
  split
  · constructor <;> intro h <;> omega
  · split
    · constructor <;> intro h <;> omega
    · constructor <;> intro h <;> omega
theorem ndesign_ev {n t : Int} {bl : List (List Int)} (hlen : bl.length ≤ 4096) (hb : ∀ b ∈ bl, b.length ≤ 4096) : Ev (fun k => mw_Design.f k n bl t) (dspec n t bl) := by
  by_cases hn : n < 0 ∨ 64 < n
  · have e : dspec n t bl = (0, 6) := if_pos hn
    rw [e]
    have bad : Ev (fun k => mw_Design.j0 k n bl t true) (0, 6) := by
      refine Ev.succ ?_
      simp only [mw_Design.j0, if_true]
      exact Ev.some _
    simp only [mw_Design.f]
    by_cases g : n < 0
    · simp only [if_pos g]; exact bad
    · simp only [if_neg g, decide_eq_true (show n > 64 by omega)]; exact bad
  · obtain ⟨m, rfl⟩ : ∃ m : Nat, n = (m : Int) := ⟨n.toNat, by omega⟩
    have hm : m ≤ 64 := by omega
    have go : Ev (fun k => mw_Design.j0 k (m : Int) bl t false) (dspec (m : Int) t bl) := by
      refine Ev.succ ?_
      simp only [mw_Design.j0, Bool.false_eq_true, if_false]
      refine blocks_ev hm hlen hb (fun hall => ?_) (fun hall => ?_) bl.length 0 (by omega) rfl
      · have e : dspec (m : Int) t bl = if t < 0 ∨ (m : Int) < t then (0, 6) else if 65536 < bin m t.toNat then (0, 8) else desr (ksl m t.toNat bl) := by
          unfold dspec
          rw [if_neg hn, if_neg (by rw [hall]; simp), Int.toNat_natCast]
        rw [e]
        by_cases ht : t < 0 ∨ (m : Int) < t
        · rw [if_pos ht]
          have bad : Ev (fun k => mw_Design.j3 k (m : Int) t (msk bl) true) (0, 6) := by
            refine Ev.succ ?_
            simp only [mw_Design.j3, if_true]
            exact Ev.some _
          by_cases g : t < 0
          · simp only [if_pos g]; exact bad
          · simp only [if_neg g, decide_eq_true (show t > (m : Int) by omega)]; exact bad
        · rw [if_neg ht]
          obtain ⟨u, rfl⟩ : ∃ u : Nat, t = (u : Int) := ⟨t.toNat, by omega⟩
          have hu : u ≤ m := by omega
          have hb64 : ∀ b ∈ bl, P64 b := fun b hbm x hx => by
            have := (chk_inc (List.all_eq_true.mp hall b hbm)).2 x hx
            omega
          simp only [if_neg (show ¬ (u : Int) < 0 by omega), decide_eq_false (show ¬ (u : Int) > (m : Int) by omega), Int.toNat_natCast]
          refine Ev.succ ?_
          simp only [mw_Design.j3, Bool.false_eq_true, if_false]
          refine Ev.bind (binomial_ev (by omega) hu) ?_
          refine Ev.bind (of_ev (n := 65536) (by omega)) ?_
          refine Ev.bind (ncmp_ev (by have := bin_len (n := m) (by omega) u; omega) (by have := dg_len_le (n := 65536) (m := 1) (by rw [show (1 : Nat) = 0 + 1 from rfl, bp_succ, bp_zero]; omega); omega)) ?_
          by_cases gm : 65536 < bin m u
          · simp only [if_pos (cmp_gt.mpr gm), if_pos gm]
            exact Ev.some _
          · simp only [if_neg (fun h => gm (cmp_gt.mp h)), if_neg gm]
            have sv := subsets_ev hm hb64 hlen u hu 0 (by omega) [] (fun x hx => by simp at hx) (-1) true
            refine Ev.bind sv ?_
            have el : (sets m u 0).map (fun v => Kc ([] ++ v) bl) = ksl m u bl := rfl
            simp only [el, desr]
            by_cases gr : (run (ksl m u bl) (-1) true).2.2 = true
            · simp only [if_pos gr]; exact Ev.some _
            · simp only [if_neg gr]; exact Ev.some _
      · unfold dspec
        rw [if_neg hn, if_pos hall]
    simp only [mw_Design.f, if_neg (show ¬ (m : Int) < 0 by omega), decide_eq_false (show ¬ (m : Int) > 64 by omega)]
    exact go
theorem rblock_ev {n : Int} {b : List Int} (hb : b.length ≤ 4096) : Ev (fun k => r24_Block.f k n b) (chk n (-1) b) := by
  have loop : ∀ (d i : Nat), i + d = b.length → ∀ last : Int, -1 ≤ last → (i = 0 → last = -1) → (0 < i → last = rd b ((i - 1 : Nat) : Int)) → Ev (fun k => r24_Block.l0 k n b (i : Int)) (chk n last (b.drop i)) := by
    intro d
    induction d with
    | zero =>
      intro i hi last _ _ _
      refine Ev.succ ?_
      simp only [r24_Block.l0, if_neg (show ¬ (i : Int) < (b.length : Int) by omega)]
      exact Ev.cast (Ev.some _) (by rw [List.drop_eq_nil_of_le (by omega), chk])
    | succ d ih =>
      intro i hi last h0 h1 h2
      have hil : i < b.length := by omega
      rw [drop_rd hil, chk]
      obtain ⟨p, hp⟩ : ∃ p, p = rd b (i : Int) := ⟨_, rfl⟩
      have wi : wrap64 ((i : Int) + 1) = ((i + 1 : Nat) : Int) := wn (by omega) (by omega)
      refine Ev.succ ?_
      simp only [r24_Block.l0, if_pos (show (i : Int) < (b.length : Int) by clear wi; omega), if_pos (show (0 : Int) ≤ (i : Int) from Int.natCast_nonneg _), wi, ← hp]
      by_cases g1 : p < 0
      · simp only [if_pos g1]
        exact Ev.cast (Ev.some _) (by rw [decide_eq_false (by clear wi; omega), Bool.false_and])
      simp only [if_neg g1]
      by_cases g2 : p ≥ n
      · simp only [if_pos g2]
        exact Ev.cast (Ev.some _) (by rw [decide_eq_false (by clear wi; omega), Bool.false_and])
      simp only [if_neg g2]
      have nx := ih (i + 1) (by clear wi; omega) p (by clear wi; omega) (fun h => by clear wi; omega) (fun _ => by rw [hp, show i + 1 - 1 = i by clear wi; omega])
      by_cases g3 : i = 0
      · simp only [if_neg (show ¬ (i : Int) > 0 by clear wi; omega)]
        have := h1 g3
        rw [decide_eq_true (show last < p ∧ p < n by clear wi; omega), Bool.true_and]
        exact nx
      · have wj : wrap64 ((i : Int) - 1) = ((i - 1 : Nat) : Int) := wn (by clear wi; omega) (by clear wi; omega)
        simp only [if_pos (show (i : Int) > 0 by clear wi wj; omega), wj, if_pos (show (0 : Int) ≤ ((i - 1 : Nat) : Int) from Int.natCast_nonneg _), if_pos (show ((i - 1 : Nat) : Int) < (b.length : Int) by clear wi wj; omega), ← h2 (by clear wi wj; omega)]
        by_cases g4 : p ≤ last
        · simp only [if_pos g4]
          exact Ev.cast (Ev.some _) (by rw [decide_eq_false (by clear wi wj; omega), Bool.false_and])
        · simp only [if_neg g4]
          rw [decide_eq_true (show last < p ∧ p < n by clear wi wj; omega), Bool.true_and]
          exact nx
  simp only [r24_Block.f]
  exact loop b.length 0 (by omega) (-1) (by omega) (fun _ => rfl) (fun h => by omega)
def tail (n t p d : Nat) : List (List Int) := (List.range' p d).flatMap (fun i : Nat => (sets n t (i + 1)).map (fun s => (i : Int) :: s))
theorem crowded_ev {bl : List (List Int)} (hlen : bl.length ≤ 9223372036854775807) : Rz (fun b => b = false → bl.length ≤ 300 ∧ ∀ b ∈ bl, b.length ≤ 100) (fun k => w24_crowded.f k bl) := by
  have loop : ∀ (d i : Nat), i + d = bl.length → (∀ b ∈ bl.take i, b.length ≤ 100) → Rz (fun b => b = false → bl.length ≤ 300 ∧ ∀ b ∈ bl, b.length ≤ 100) (fun k => w24_crowded.l0 k bl (i : Int)) := by
    intro d
    induction d with
    | zero =>
      intro i hi h
      rw [List.take_of_length_le (by omega)] at h
      refine Rz.succ ?_
      simp only [w24_crowded.l0, if_neg (show ¬ (i : Int) < (bl.length : Int) by omega)]
      exact Rz.some (fun e => ⟨by have := of_decide_eq_false e; omega, h⟩)
    | succ d ih =>
      intro i hi h
      have hil : i < bl.length := by omega
      refine Rz.succ ?_
      simp only [w24_crowded.l0, if_pos (show (i : Int) < (bl.length : Int) by omega), if_pos (show (0 : Int) ≤ (i : Int) from Int.natCast_nonneg _), rd1_lt hil]
      by_cases g : (bl[i].length : Int) > 100
      · simp only [if_pos g]
        exact Rz.some (fun e => by cases e)
      · simp only [if_neg g, wn (show (i : Int) + 1 = ((i + 1 : Nat) : Int) by omega) (by omega)]
        refine ih (i + 1) (by omega) (fun b hb => ?_)
        rw [List.take_succ_eq_append_getElem hil] at hb
        rcases List.mem_append.mp hb with hb | hb
        · exact h b hb
        · rw [List.mem_singleton.mp hb]; omega
  simp only [w24_crowded.f]
  exact loop bl.length 0 (by omega) (fun b hb => by simp at hb)
theorem run_all {v : Nat} : ∀ (ks : List Nat) (s : Bool), (∀ k ∈ ks, k = v) → (run ks (v : Int) s).2.1 = (v : Int) ∧ (s = true → (run ks (v : Int) s).2.2 = true)
  | [], s, _ => ⟨rfl, fun h => h⟩
  | k :: ks, s, h => by
    have hk := h k (List.mem_cons_self ..)
    subst hk
    have ih := run_all (v := k) ks true (fun j hj => h j (List.mem_cons_of_mem _ hj))
    rw [run, if_pos (by simp)]
    exact ⟨ih.1, fun _ => ih.2 rfl⟩
theorem desr_all {v : Nat} {ks : List Nat} (hne : ks ≠ []) (h : ∀ k ∈ ks, k = v) : desr ks = ((v : Int), 0) := by
  cases ks with
  | nil => exact absurd rfl hne
  | cons k ks =>
    have hk := h k (List.mem_cons_self ..)
    subst hk
    have ih := run_all (v := k) ks true (fun j hj => h j (List.mem_cons_of_mem _ hj))
    have e : run (k :: ks) (-1) true = run ks (k : Int) true := by rw [run, if_pos (by simp)]
    unfold desr
    rw [e, if_pos (ih.2 rfl), ih.1]
theorem run_same {v : Nat} : ∀ (ks : List Nat) (s : Bool), (run ks (v : Int) s).2.2 = true → ∀ k ∈ ks, k = v
  | [], _, _, k, hk => by simp at hk
  | j :: ks, s, h, k, hk => by
    rw [run] at h
    by_cases g : (decide ((v : Int) < 0) || ((j : Int) == (v : Int))) = true
    · rw [if_pos g] at h
      have e : j = v := by simp at g; omega
      subst e
      rcases List.mem_cons.mp hk with e | hk
      · exact e
      · exact run_same ks true h k hk
    · rw [if_neg g] at h
      exact absurd h (by simp)
theorem desr_cases (ks : List Nat) (hne : ks ≠ []) : desr ks = (0, 11) ∨ ∃ v : Nat, (∀ k ∈ ks, k = v) ∧ desr ks = ((v : Int), 0) := by
  cases ks with
  | nil => exact absurd rfl hne
  | cons j ks =>
    by_cases g : (run (j :: ks) (-1) true).2.2 = true
    · right
      have h := g
      rw [run, if_pos (by simp)] at h
      have hs := run_same ks true h
      have all : ∀ k ∈ j :: ks, k = j := fun k hk => by
        rcases List.mem_cons.mp hk with e | hk
        · exact e
        · exact hs k hk
      exact ⟨j, all, desr_all hne all⟩
    · left
      unfold desr
      rw [if_neg g]
theorem sets_ne {n : Nat} {t : Nat} (h : t ≤ n) : sets n t 0 ≠ [] := by
  have hm : (List.range t).map (fun i : Nat => (i : Int)) ∈ sets n t 0 := by
    refine sets_mem (by simp) ?_ (fun x hx => ?_)
    · rw [List.pairwise_map]
      exact List.pairwise_lt_range.imp (fun h => by omega)
    · obtain ⟨i, hi, rfl⟩ := List.mem_map.mp hx
      have := List.mem_range.mp hi
      omega
  intro e
  rw [e] at hm
  simp at hm
theorem ksl_ne {n t : Nat} (h : t ≤ n) (bl : List (List Int)) : ksl n t bl ≠ [] := by
  unfold ksl
  intro e
  exact sets_ne h (List.map_eq_nil_iff.mp e)
theorem bin_le_pow : ∀ n k : Nat, bin n k ≤ 2 ^ n
  | 0, 0 => by rw [bin_zero]; exact Nat.le_refl _
  | 0, k + 1 => by rw [bin_above (by omega)]; exact Nat.zero_le _
  | n + 1, 0 => by rw [bin_zero]; exact Nat.pow_pos (by omega)
  | n + 1, k + 1 => by
    have h1 := bin_le_pow n k
    have h2 := bin_le_pow n (k + 1)
    rw [bin_succ, Nat.pow_succ]
    omega
theorem dspec_few {n t : Nat} {bl : List (List Int)} (hn : n ≤ 14) (ht : t ≤ n) (hb : bl.all (chk (n : Int) (-1)) = true) : dspec (n : Int) (t : Int) bl = desr (ksl n t bl) := by
  have h1 := bin_le_pow n t
  have h2 : (2 : Nat) ^ n ≤ 2 ^ 14 := Nat.pow_le_pow_right (by omega) hn
  unfold dspec
  rw [if_neg (by omega), if_neg (by rw [hb]; simp), if_neg (by omega), Int.toNat_natCast, Int.toNat_natCast, if_neg (by omega)]
theorem mem_sum (n : Nat) : ∀ S : List Int, S.Nodup → (∀ x ∈ S, 0 ≤ x ∧ x < (n : Int)) → sm n (fun j => if (j : Int) ∈ S then 1 else 0) = (S.length : Int)
  | [], _, _ => sm_zero fun j _ => by rw [if_neg (by simp)]
  | a :: S, hn, hr => by
    have hn' := List.nodup_cons.mp hn
    have ha := hr a (List.mem_cons_self ..)
    obtain ⟨i, rfl⟩ : ∃ i : Nat, a = (i : Int) := ⟨a.toNat, by omega⟩
    have e : ∀ j, j < n → (if (j : Int) ∈ (i : Int) :: S then (1 : Int) else 0) = (if j = i then 1 else 0) + (if (j : Int) ∈ S then 1 else 0) := by
      intro j _
      by_cases g : j = i
      · subst g
        rw [if_pos (List.mem_cons_self ..), if_pos rfl, if_neg hn'.1]; rfl
      · rw [if_neg g]
        by_cases g2 : (j : Int) ∈ S
        · rw [if_pos (List.mem_cons_of_mem _ g2), if_pos g2]; rfl
        · rw [if_neg g2, if_neg (fun h => (List.mem_cons.mp h).elim (fun e => g (by omega)) g2)]; rfl
    rw [sm_congr e, sm_add, mem_sum n S hn'.2 (fun x hx => hr x (List.mem_cons_of_mem _ hx)), sm_single (a := i) (f := fun j => if j = i then (1 : Int) else 0) (by omega) (fun j _ hne => if_neg hne), if_pos rfl, List.length_cons]
    omega
theorem nodup_of_lt {l : List Int} (h : l.Pairwise (· < ·)) : l.Nodup := h.imp (fun hab e => by omega)
theorem double {n k : Nat} {S : List Int} (hS : S.Pairwise (· < ·)) (hr : ∀ x ∈ S, 0 ≤ x ∧ x < (n : Int)) : ∀ bl : List (List Int), (∀ b ∈ bl, b.length = k ∧ b.Pairwise (· < ·) ∧ ∀ x ∈ b, 0 ≤ x ∧ x < (n : Int)) →
    sm n (fun j => if (j : Int) ∈ S then 0 else (Kc ((j : Int) :: S) bl : Int)) = ((k : Int) - (S.length : Int)) * (Kc S bl : Int)
  | [], _ => by
    rw [sm_zero (fun j _ => by simp [Kc])]
    simp [Kc]
  | b :: bl, h => by
    obtain ⟨h1, h2, h3⟩ := h b (List.mem_cons_self ..)
    have ih := double hS hr bl (fun b hb => h b (List.mem_cons_of_mem _ hb))
    have e : ∀ j, j < n → (if (j : Int) ∈ S then (0 : Int) else (Kc ((j : Int) :: S) (b :: bl) : Int)) = (if (j : Int) ∈ S then 0 else (Kc ((j : Int) :: S) bl : Int)) + (if (j : Int) ∈ S then 0 else if inb ((j : Int) :: S) b = true then 1 else 0) := by
      intro j _
      by_cases g : (j : Int) ∈ S
      · rw [if_pos g, if_pos g, if_pos g]; rfl
      · rw [if_neg g, if_neg g, if_neg g, Kc]
        split <;> omega
    rw [sm_congr e, sm_add, ih, Kc]
    by_cases g : inb S b = true
    · have sub := inb_iff.mp g
      have e2 : ∀ j, j < n → (if (j : Int) ∈ S then (0 : Int) else if inb ((j : Int) :: S) b = true then 1 else 0) = (if (j : Int) ∈ b then 1 else 0) - (if (j : Int) ∈ S then 1 else 0) := by
        intro j _
        by_cases g1 : (j : Int) ∈ S
        · rw [if_pos g1, if_pos g1, if_pos (sub _ g1)]; rfl
        · rw [if_neg g1, if_neg g1]
          by_cases g2 : (j : Int) ∈ b
          · rw [if_pos g2, if_pos (inb_iff.mpr (fun x hx => (List.mem_cons.mp hx).elim (fun e => e ▸ g2) (sub x)))]; rfl
          · rw [if_neg g2, if_neg (fun hh => g2 (inb_iff.mp hh _ (List.mem_cons_self ..)))]; rfl
      rw [sm_congr e2, sm_sub, mem_sum n b (nodup_of_lt h2) h3, mem_sum n S (nodup_of_lt hS) hr, if_pos g, h1, Int.natCast_add, Int.mul_add]
      omega
    · rw [sm_zero (fun j _ => ?_), if_neg g, Nat.add_zero, Int.add_zero]
      by_cases g1 : (j : Int) ∈ S
      · rw [if_pos g1]
      · rw [if_neg g1, if_neg (fun hh => g (inb_iff.mpr (fun x hx => inb_iff.mp hh x (List.mem_cons_of_mem _ hx))))]
def ins (x : Int) : List Int → List Int
  | [] => [x]
  | a :: l => if x < a then x :: a :: l else a :: ins x l
theorem ins_mem (x y : Int) : ∀ l : List Int, y ∈ ins x l ↔ y = x ∨ y ∈ l
  | [] => by simp [ins]
  | a :: l => by
    rw [ins]
    split
    · simp
    · rw [List.mem_cons, ins_mem x y l, List.mem_cons]
      constructor
      · rintro (h | h | h)
        · exact .inr (.inl h)
        · exact .inl h
        · exact .inr (.inr h)
      · rintro (h | h | h)
        · exact .inr (.inl h)
        · exact .inl h
        · exact .inr (.inr h)
theorem ins_len (x : Int) : ∀ l : List Int, (ins x l).length = l.length + 1
  | [] => rfl
  | a :: l => by
    rw [ins]
    split
    · rfl
    · rw [List.length_cons, ins_len x l, List.length_cons]
theorem ins_up (x : Int) : ∀ l : List Int, x ∉ l → l.Pairwise (· < ·) → (ins x l).Pairwise (· < ·)
  | [], _, _ => List.pairwise_singleton _ _
  | a :: l, hx, h => by
    have hp := List.pairwise_cons.mp h
    have hxa : x ≠ a := fun e => hx (e ▸ List.mem_cons_self ..)
    rw [ins]
    split
    · refine List.pairwise_cons.mpr ⟨fun y hy => ?_, h⟩
      rcases List.mem_cons.mp hy with e | hy
      · omega
      · have := hp.1 y hy; omega
    · refine List.pairwise_cons.mpr ⟨fun y hy => ?_, ins_up x l (fun e => hx (List.mem_cons_of_mem _ e)) hp.2⟩
      rcases (ins_mem x y l).mp hy with e | hy
      · omega
      · exact hp.1 y hy
theorem Kc_congr {s t : List Int} (h : ∀ x, x ∈ s ↔ x ∈ t) : ∀ bl, Kc s bl = Kc t bl
  | [] => rfl
  | b :: bl => by
    rw [Kc, Kc, Kc_congr h bl]
    have : inb s b = inb t b := by
      rw [Bool.eq_iff_iff, inb_iff, inb_iff]
      exact ⟨fun g x hx => g x ((h x).mpr hx), fun g x hx => g x ((h x).mp hx)⟩
    rw [this]
theorem derive {n k s a : Nat} {bl : List (List Int)} (hs : s + 1 ≤ n) (hb : ∀ b ∈ bl, b.length = k ∧ b.Pairwise (· < ·) ∧ ∀ x ∈ b, 0 ≤ x ∧ x < (n : Int)) (ha : ∀ v ∈ ksl n (s + 1) bl, v = a) {v : Nat} (hv : v ∈ ksl n s bl) :
    (v : Int) * ((k : Int) - (s : Int)) = (a : Int) * ((n : Int) - (s : Int)) := by
  unfold ksl at hv
  obtain ⟨S, hS, rfl⟩ := List.mem_map.mp hv
  obtain ⟨l1, l2, l3⟩ := sets_rng hS
  have l3' : ∀ x ∈ S, 0 ≤ x ∧ x < (n : Int) := fun x hx => by have := l3 x hx; omega
  have h := double (k := k) l2 l3' bl hb
  have e : ∀ j, j < n → (if (j : Int) ∈ S then (0 : Int) else (Kc ((j : Int) :: S) bl : Int)) = (a : Int) * (1 - (if (j : Int) ∈ S then 1 else 0)) := by
    intro j hj
    by_cases g : (j : Int) ∈ S
    · rw [if_pos g, if_pos g]; simp
    · rw [if_neg g, if_neg g]
      have hm : ins (j : Int) S ∈ sets n (s + 1) 0 := by
        refine sets_mem (by rw [ins_len, l1]) (ins_up _ _ g l2) (fun x hx => ?_)
        rcases (ins_mem _ _ _).mp hx with e | hx
        · omega
        · exact l3 x hx
      have := ha (Kc (ins (j : Int) S) bl) (by unfold ksl; exact List.mem_map.mpr ⟨_, hm, rfl⟩)
      rw [← this, Kc_congr (fun x => (ins_mem (j : Int) x S).trans List.mem_cons.symm)]
      omega
  rw [sm_congr e, sm_mul, sm_sub, mem_sum n S (nodup_of_lt l2) l3', l1] at h
  have one : sm n (fun _ => (1 : Int)) = (n : Int) := by
    clear h e hS hv ha hb hs l1 l2 l3 l3'
    induction n with
    | zero => rfl
    | succ n ih => rw [sm, ih]; omega
  rw [one] at h
  rw [h, Int.mul_comm]
theorem two_points : dspec 2 1 [[0], [1]] = (1, 0) := by
  have e : dspec 2 1 [[0], [1]] = desr (ksl 2 1 [[0], [1]]) := dspec_few (n := 2) (t := 1) (by omega) (by omega) rfl
  rw [e]
  refine desr_all (v := 1) (ksl_ne (by omega) _) (fun k hk => ?_)
  have : ksl 2 1 [[0], [1]] = [1, 1] := rfl
  rw [this] at hk
  simpa using hk
def keep (n k : Nat) (b : List Int) : Bool := decide (b.length = k) && chk (n : Int) (-1) b
theorem derived_law {a1 a2 a3 : Int} {bl : List (List Int)} (hlen : bl.length ≤ 9223372036854775807) (h10 : 0 ≤ a1) (h11 : a1 ≤ 255) (h20 : 0 ≤ a2) (h21 : a2 ≤ 255) (h30 : 0 ≤ a3) (h31 : a3 ≤ 255) :
    Ev (fun k => w24_MacwilliamsDerived.f k bl a1 a2 a3) true := by
  obtain ⟨cr, hcr, hP⟩ := crowded_ev hlen
  obtain ⟨u1, rfl⟩ : ∃ u : Nat, a1 = (u : Int) := ⟨a1.toNat, by omega⟩
  obtain ⟨u2, rfl⟩ : ∃ u : Nat, a2 = (u : Int) := ⟨a2.toNat, by omega⟩
  obtain ⟨u3, rfl⟩ : ∃ u : Nat, a3 = (u : Int) := ⟨a3.toNat, by omega⟩
  have md : ∀ (u m : Nat), u ≤ 255 → m ≤ 1000 → 0 < m → wrap64 (Int.tmod (wrap64 (u : Int)) (m : Int) + 1) = ((u % m + 1 : Nat) : Int) := by
    intro u m hu hm h0
    have := Nat.mod_lt u h0
    rw [w64 (x := (u : Int)) (by omega) (by omega), Int.tmod_eq_emod_of_nonneg (by omega)]
    exact wn (by omega) (by omega)
  obtain ⟨n, hn⟩ : ∃ n, n = u1 % 9 + 1 := ⟨_, rfl⟩
  have hn9 : n ≤ 9 := by clear md; omega
  have hn1 : 1 ≤ n := by clear md; omega
  obtain ⟨k, hk⟩ : ∃ k, k = u2 % n + 1 := ⟨_, rfl⟩
  have hkn : k ≤ n := by
    have := Nat.mod_lt u2 (show 0 < n by clear md; omega)
    rw [hk]; exact this
  have hk1 : 1 ≤ k := by rw [hk]; exact Nat.succ_le_succ (Nat.zero_le _)
  obtain ⟨s, hs⟩ : ∃ s, s = u3 % k := ⟨_, rfl⟩
  have hsk : s + 1 ≤ k := by
    have := Nat.mod_lt u3 (show 0 < k by clear md hs; omega)
    rw [hs]; exact this
  have e1 : wrap64 (Int.tmod (wrap64 (u1 : Int)) 9 + 1) = (n : Int) := by rw [hn]; exact md u1 9 (by clear md; omega) (by clear md; omega) (by clear md; omega)
  have e2 : wrap64 (Int.tmod (wrap64 (u2 : Int)) (n : Int) + 1) = (k : Int) := by rw [hk]; exact md u2 n (by clear md e1; omega) (by clear md e1; omega) (by clear md e1; omega)
  have e3 : wrap64 (Int.tmod (wrap64 (u3 : Int)) (k : Int) + 1) = ((s + 1 : Nat) : Int) := by rw [hs]; exact md u3 k (by clear md e1 e2; omega) (by clear md e1 e2 hs; omega) (by clear md e1 e2 hs; omega)
  clear hn hk hs
  clear md
  simp only [w24_MacwilliamsDerived.f, e1, e2, e3]
  clear e1 e2 e3
  refine Ev.bind hcr ?_
  cases cr with
  | true => simp only [if_true]; exact Ev.some _
  | false =>
    obtain ⟨h300, h100⟩ := hP rfl
    simp only [Bool.false_eq_true, if_false, if_neg (show ¬ (n : Int) = 0 by omega), if_neg (show ¬ (k : Int) = 0 by omega)]
    have loop : ∀ (d i : Nat), i + d = bl.length → Ev (fun q => w24_MacwilliamsDerived.l0 q bl (n : Int) (k : Int) ((s + 1 : Nat) : Int) ((bl.take i).filter (keep n k)) (i : Int)) true := by
      intro d
      induction d with
      | zero =>
        intro i hi
        have : i = bl.length := by omega
        subst this
        rw [List.take_of_length_le (Nat.le_refl _)]
        obtain ⟨l, hl⟩ : ∃ l, l = bl.filter (keep n k) := ⟨_, rfl⟩
        rw [← hl]
        have hll : l.length ≤ 300 := by rw [hl]; have := List.length_filter_le (keep n k) bl; omega
        have hmem : ∀ b ∈ l, b ∈ bl ∧ keep n k b = true := fun b hb => by rw [hl] at hb; exact List.mem_filter.mp hb
        have hbl : ∀ b ∈ l, b.length ≤ 4096 := fun b hb => by have := h100 b (hmem b hb).1; omega
        have hall : l.all (chk (n : Int) (-1)) = true := List.all_eq_true.mpr (fun b hb => by have := (hmem b hb).2; unfold keep at this; rw [Bool.and_eq_true] at this; exact this.2)
        have hblk : ∀ b ∈ l, b.length = k ∧ b.Pairwise (· < ·) ∧ ∀ x ∈ b, 0 ≤ x ∧ x < (n : Int) := fun b hb => by
          have h := (hmem b hb).2
          unfold keep at h
          rw [Bool.and_eq_true] at h
          obtain ⟨c1, c2⟩ := chk_inc h.2
          exact ⟨of_decide_eq_true h.1, c1, fun x hx => by have := c2 x hx; omega⟩
        have des : ∀ t : Nat, t ≤ n → Ev (fun q => mw_Design.f q (n : Int) l (t : Int)) (desr (ksl n t l)) := fun t ht => by
          rw [← dspec_few (by omega) ht hall]
          exact ndesign_ev (by omega) hbl
        have w1 : wrap64 (((s + 1 : Nat) : Int) - 1) = (s : Int) := wn (by omega) (by omega)
        have zero : desr (ksl n 0 l) = ((l.length : Int), 0) := by
          refine desr_all (ksl_ne (by omega) _) (fun q hq => ?_)
          have : ksl n 0 l = [Kc [] l] := rfl
          rw [this] at hq
          rw [List.mem_singleton.mp hq]
          have : ∀ m : List (List Int), Kc [] m = m.length := by
            intro m
            induction m with
            | nil => rfl
            | cons b m ih => rw [Kc, ih, if_pos (show inb [] b = true from rfl), List.length_cons]
          exact this l
        refine Ev.succ ?_
        simp only [w24_MacwilliamsDerived.l0, if_neg (Int.lt_irrefl (bl.length : Int)), w1]
        clear w1
        refine Ev.bind (des (s + 1) (by omega)) (Ev.bind (des s (by omega)) (Ev.bind (des 0 (by omega)) ?_))
        simp only [zero, if_true, bne_self_eq_false]
        refine Ev.succ ?_
        simp only [w24_MacwilliamsDerived.j1, Bool.false_eq_true, if_false]
        have two := ndesign_ev (n := 2) (t := 1) (bl := [[0], [1]]) (by simp) (fun b hb => by simp at hb; rcases hb with e | e <;> subst e <;> simp)
        rw [two_points] at two
        refine Ev.bind two ?_
        simp only [if_true, bne_self_eq_false]
        refine Ev.succ ?_
        simp only [w24_MacwilliamsDerived.j2, Bool.false_eq_true, if_false]
        rcases desr_cases (ksl n (s + 1) l) (ksl_ne (by omega) _) with e | ⟨a, ha, e⟩
        · rw [e]
          simp only [if_neg (show ¬ (11 : Int) = 0 by omega), if_true]
          exact Ev.cast (Ev.some _) (by simp)
        · rw [e]
          have hd := fun {v : Nat} (hv : v ∈ ksl n s l) => derive (n := n) (k := k) (s := s) (a := a) (by omega) hblk ha hv
          obtain ⟨b, hb⟩ := List.exists_mem_of_ne_nil _ (ksl_ne (n := n) (t := s) (by omega) l)
          have h1 := hd hb
          have same : ∀ v ∈ ksl n s l, v = b := fun v hv => by
            have h2 := hd hv
            rw [← h1] at h2
            have := Int.eq_of_mul_eq_mul_right (show (k : Int) - (s : Int) ≠ 0 by omega) h2
            omega
          rw [desr_all (ksl_ne (by omega) _) same]
          simp only [if_true]
          have hb300 : b ≤ 300 := by
            unfold ksl at hb
            obtain ⟨S, _, rfl⟩ := List.mem_map.mp hb
            exact Nat.le_trans (Kc_le S l) hll
          have ha300 : a ≤ 300 := by
            obtain ⟨v, hv⟩ := List.exists_mem_of_ne_nil _ (ksl_ne (n := n) (t := s + 1) (by omega) l)
            rw [← ha v hv]
            unfold ksl at hv
            obtain ⟨S, _, rfl⟩ := List.mem_map.mp hv
            exact Nat.le_trans (Kc_le S l) hll
          have x1 : wrap64 (wrap64 ((k : Int) - ((s + 1 : Nat) : Int)) + 1) = ((k - s : Nat) : Int) := by
            rw [wn (x := (k : Int) - ((s + 1 : Nat) : Int)) (n := k - (s + 1)) (by omega) (by omega)]
            exact wn (by omega) (by omega)
          have x2 : wrap64 (wrap64 ((n : Int) - ((s + 1 : Nat) : Int)) + 1) = ((n - s : Nat) : Int) := by
            rw [wn (x := (n : Int) - ((s + 1 : Nat) : Int)) (n := n - (s + 1)) (by omega) (by omega)]
            exact wn (by omega) (by omega)
          have h3 : (b : Int) * ((k - s : Nat) : Int) = (a : Int) * ((n - s : Nat) : Int) := by
            rw [show ((k - s : Nat) : Int) = (k : Int) - (s : Int) by omega, show ((n - s : Nat) : Int) = (n : Int) - (s : Int) by omega]
            exact h1
          rw [x1, x2, h3]
          exact Ev.cast (Ev.some _) (by simp)
      | succ d ih =>
        intro i hi
        have hil : i < bl.length := by omega
        have nx := ih (i + 1) (by omega)
        rw [List.take_succ_eq_append_getElem hil, List.filter_append] at nx
        have hfl : ((bl.take i).filter (keep n k)).length < 5864062014805 := by
          have := List.length_filter_le (keep n k) (bl.take i)
          rw [List.length_take] at this
          omega
        have skip : keep n k bl[i] = false → Ev (fun q => w24_MacwilliamsDerived.l0 q bl (n : Int) (k : Int) ((s + 1 : Nat) : Int) ((bl.take i).filter (keep n k)) ((i + 1 : Nat) : Int)) true := fun h => by
          rw [List.filter_cons_of_neg (by rw [h]; simp), List.filter_nil, List.append_nil] at nx
          exact nx
        have hb := h100 _ (List.getElem_mem hil)
        refine Ev.succ ?_
        simp only [w24_MacwilliamsDerived.l0, if_pos (show (i : Int) < (bl.length : Int) by omega), if_pos (show (0 : Int) ≤ (i : Int) from Int.natCast_nonneg _), rd1_lt hil, wn (show (i : Int) + 1 = ((i + 1 : Nat) : Int) by omega) (by omega)]
        by_cases g : (bl[i].length : Int) = (k : Int)
        · simp only [if_pos g]
          refine Ev.bind (rblock_ev (by omega)) ?_
          by_cases g2 : chk (n : Int) (-1) bl[i] = true
          · simp only [if_pos g2, if_pos hfl]
            rw [List.filter_cons_of_pos (by unfold keep; rw [g2, decide_eq_true (show bl[i].length = k by omega)]; rfl), List.filter_nil] at nx
            exact nx
          · simp only [if_neg g2]
            exact skip (by unfold keep; rw [Bool.eq_false_iff.mpr g2, Bool.and_false])
        · simp only [if_neg g]
          exact skip (by unfold keep; rw [decide_eq_false (show ¬ bl[i].length = k by omega), Bool.false_and])
    exact loop bl.length 0 (by omega)
end Mw
end
section
namespace Mw
open Go Go.RowKit Go.ChangeShapes Go.WideShapes Go.Deep Go.Proofs.YtifkbghnmhineaaW.PrintWords
theorem open_rows {H : Type} {enc : TypeId × Value → H} {P : Program} {w : World} {base : Nat} {held : Bool} {t e q : TypeId} {k : IntKind} {A : Option Addr} {len cap : Nat} {d : DataW H} {ps : List MemPlace}
    (ht : P.underlying t = some (.slice e)) (he : P.underlying e = some (.slice q)) (hq : P.underlying q = some (.int k)) (ce : P.cellsOf e = 1) (cq : P.cellsOf q = 1)
    (h : DataW.Trod enc P w base (fun _ => true) held t (.slice A len cap) d ps) :
    ∃ l : List (List Int), l.length = len ∧ len ≤ cap ∧ len ≤ 9223372036854775807 ∧ Kd.C (Kd.slice q (Kd.int k)) w A len l ∧ ∀ x ∈ l, ∀ n ∈ x, (Lit.int k n).wf = true := by
  obtain ⟨fuel, hf⟩ := h
  rcases open_int_rows ht he hq ce cq hf with ⟨hcs, _⟩ | ⟨a, len', cap', A', L, C, Z, hcs, _, hl, hm, _, hrows⟩
  · simp [Value.cells] at hcs
    obtain ⟨rfl, rfl, rfl⟩ := hcs
    exact ⟨[], rfl, Nat.le_refl _, by omega, ⟨rfl, by omega, fun h => absurd h (by omega)⟩, fun x hx => by simp at hx⟩
  · simp [Value.cells] at hcs
    obtain ⟨rfl, rfl, rfl⟩ := hcs
    have hm9 : cap ≤ 9223372036854775807 := by simpa [maxLen] using hm
    refine ⟨(List.range len).map fun r => (Z r).take (L r), by simp, hl, by omega, ⟨by simp, by omega, fun _ => ⟨a, rfl, fun j p hj => ?_⟩⟩, fun x hx n hn => ?_⟩
    · have hjl : j < len := by
        by_cases g : j < len
        · exact g
        · rw [List.getElem?_eq_none (by simp; omega)] at hj; simp at hj
      obtain ⟨hc, hLC, hCm, hZ, hwf, hnil, hcells⟩ := hrows j (by omega)
      have hC9 : C j ≤ 9223372036854775807 := by simpa [maxLen] using hCm
      have hp : p = (Z j).take (L j) := by
        rw [List.getElem?_map, List.getElem?_range hjl] at hj
        simpa using hj.symm
      have hpl : p.length = L j := by rw [hp, List.length_take]; omega
      refine ⟨[.slice (A' j) p.length (C j)], rfl, ⟨A' j, C j, rfl, by omega, ?_⟩, fun i u hu => ?_⟩
      · refine Kd.C_of_reads (d := (0 : Int)) ⟨rfl, by omega, fun hpos => ?_⟩
        cases hA : A' j with
        | none => have := hnil hA; omega
        | some a' =>
          refine ⟨a', rfl, fun i hi => ?_⟩
          have := (hcells a' hA).2 i (by omega)
          rw [this, hp]
          congr 2
          simp only [List.getD_eq_getElem?_getD]
          rw [List.getElem?_take_of_lt (by omega)]
      · cases i with
        | zero =>
          have : Value.slice (A' j) p.length (C j) = u := by simpa using hu
          subst this
          rw [hpl]
          simpa [Kd.slice] using hc
        | succ i => simp at hu
    · obtain ⟨r, hr, rfl⟩ := List.mem_map.mp hx
      have hr := List.mem_range.mp hr
      exact (hrows r (by omega)).2.2.2.2.1 n (List.mem_of_mem_take hn)
end Mw
end
section
namespace Mw
open Go Go.Proofs
def headCodes : List Nat := [
  104, 97, 114, 110, 101, 115, 115, 32, 97, 52, 54, 100, 51, 98, 54, 57, 49, 99, 100, 102, 102, 55, 57, 50, 53, 50, 54, 98, 102, 49,
  54, 102, 48, 51, 48, 99, 54, 97, 97, 48, 53, 57, 101, 57, 49, 50, 49, 49, 52, 97, 101, 54, 102, 97, 52, 52, 54, 99, 49, 56,
  54, 102, 57, 55, 99, 52, 101, 54, 51, 97, 102, 50, 32, 99, 117, 116, 32, 97, 116, 32, 99, 111, 100, 101, 119, 114, 105, 103, 104, 116,
  47, 99, 111, 100, 101, 119, 114, 105, 103, 104, 116, 108, 97, 119, 50, 52, 46, 77, 97, 99, 119, 105, 108, 108, 105, 97, 109, 115, 80, 108,
  101, 115, 115, 32, 99, 111, 100, 101, 119, 114, 105, 103, 104, 116, 47, 99, 111, 100, 101, 119, 114, 105, 103, 104, 116, 108, 97, 119, 50, 52,
  46, 77, 97, 99, 119, 105, 108, 108, 105, 97, 109, 115, 68, 101, 115, 105, 103, 110, 115, 32, 99, 111, 100, 101, 119, 114, 105, 103, 104, 116,
  47, 99, 111, 100, 101, 119, 114, 105, 103, 104, 116, 108, 97, 119, 50, 52, 46, 77, 97, 99, 119, 105, 108, 108, 105, 97, 109, 115, 68, 101,
  114, 105, 118, 101, 100, 32, 99, 111, 100, 101, 119, 114, 105, 103, 104, 116, 47, 99, 111, 100, 101, 119, 114, 105, 103, 104, 116, 108, 97, 119,
  50, 52, 46, 77, 97, 99, 119, 105, 108, 108, 105, 97, 109, 115, 77, 111, 109, 101, 110, 116, 115, 32, 99, 111, 100, 101, 119, 114, 105, 103,
  104, 116, 47, 99, 111, 100, 101, 119, 114, 105, 103, 104, 116, 108, 97, 119, 50, 52, 46, 77, 97, 99, 119, 105, 108, 108, 105, 97, 109, 115,
  83, 116, 114, 101, 110, 103, 116, 104, 115, 32, 99, 111, 100, 101, 119, 114, 105, 103, 104, 116, 47, 99, 111, 100, 101, 119, 114, 105, 103, 104,
  116, 108, 97, 119, 50, 52, 46, 77, 97, 99, 119, 105, 108, 108, 105, 97, 109, 115, 75, 114, 97, 119, 116, 99, 104, 111, 117, 107, 32, 99,
  111, 100, 101, 119, 114, 105, 103, 104, 116, 47, 99, 111, 100, 101, 119, 114, 105, 103, 104, 116, 108, 97, 119, 50, 52, 46, 77, 97, 99, 119,
  105, 108, 108, 105, 97, 109, 115, 65, 115, 115, 109, 117, 115, 32, 99, 111, 100, 101, 119, 114, 105, 103, 104, 116, 47, 99, 111, 100, 101, 119,
  114, 105, 103, 104, 116, 108, 97, 119, 50, 52, 46, 77, 97, 99, 119, 105, 108, 108, 105, 97, 109, 115, 71, 101, 110, 101, 114, 97, 116, 105,
  110, 103, 32, 99, 111, 100, 101, 119, 114, 105, 103, 104, 116, 47, 99, 111, 100, 101, 119, 114, 105, 103, 104, 116, 108, 97, 119, 50, 52, 46,
  77, 97, 99, 119, 105, 108, 108, 105, 97, 109, 115, 79, 114, 116, 104, 111, 103, 111, 110, 97, 108, 32, 99, 111, 100, 101, 119, 114, 105, 103,
  104, 116, 47, 99, 111, 100, 101, 119, 114, 105, 103, 104, 116, 108, 97, 119, 50, 52, 46, 77, 97, 99, 119, 105, 108, 108, 105, 97, 109, 115,
  82, 101, 99, 105, 112, 114, 111, 99, 97, 108, 32, 99, 111, 100, 101, 119, 114, 105, 103, 104, 116, 47, 99, 111, 100, 101, 119, 114, 105, 103,
  104, 116, 108, 97, 119, 50, 52, 46, 77, 97, 99, 119, 105, 108, 108, 105, 97, 109, 115, 82, 101, 99, 117, 114, 114, 101, 110, 99, 101, 32,
  99, 111, 100, 101, 119, 114, 105, 103, 104, 116, 47, 99, 111, 100, 101, 119, 114, 105, 103, 104, 116, 108, 97, 119, 50, 52, 46, 77, 97, 99,
  119, 105, 108, 108, 105, 97, 109, 115, 73, 100, 101, 110, 116, 105, 116, 121, 32, 99, 111, 100, 101, 119, 114, 105, 103, 104, 116, 47, 99, 111,
  100, 101, 119, 114, 105, 103, 104, 116, 108, 97, 119, 50, 52, 46, 77, 97, 99, 119, 105, 108, 108, 105, 97, 109, 115, 68, 101, 108, 115, 97,
  114, 116, 101, 32, 99, 111, 100, 101, 119, 114, 105, 103, 104, 116, 47, 99, 111, 100, 101, 119, 114, 105, 103, 104, 116, 108, 97, 119, 50, 52,
  46, 77, 97, 99, 119, 105, 108, 108, 105, 97, 109, 115, 69, 120, 116, 101, 114, 110, 97, 108, 115, 32, 99, 111, 100, 101, 119, 114, 105, 103,
  104, 116, 47, 99, 111, 100, 101, 119, 114, 105, 103, 104, 116, 108, 97, 119, 50, 52, 46, 77, 97, 99, 119, 105, 108, 108, 105, 97, 109, 115,
  84, 114, 97, 110, 115, 102, 111, 114, 109, 115, 32, 99, 111, 100, 101, 119, 114, 105, 103, 104, 116, 47, 99, 111, 100, 101, 119, 114, 105, 103,
  104, 116, 108, 97, 119, 50, 52, 46, 77, 97, 99, 119, 105, 108, 108, 105, 97, 109, 115, 73, 110, 118, 101, 114, 116, 115]
theorem head_eq : Try.prog.initOrder = String.ofList (headCodes.map Char.ofNat) := by kernel_rfl
theorem head_list : Try.prog.initOrder.toList = headCodes.map Char.ofNat := by rw [head_eq, String.toList_ofList]
def cutSigns : List Char := [99, 117, 116].map Char.ofNat
theorem head_word0 : ∃ rest, behindMainWord (wordsSigns (headCodes.map Char.ofNat)) = cutSigns :: rest := ⟨(behindMainWord (wordsSigns (headCodes.map Char.ofNat))).tail, by kernel_rfl⟩
theorem head_word : ∃ rest, behindMainWord (wordsSigns Try.prog.initOrder.toList) = cutSigns :: rest := by rw [head_list]; exact head_word0
theorem head_strip (rest : List (List Char)) : stripLifts liftWords (cutSigns :: rest) = ([], cutSigns :: rest) := by kernel_rfl
theorem sign1 : (cutSigns == "gc".toList) = false := by kernel_rfl
theorem sign2 : (cutSigns == "spec".toList) = false := by kernel_rfl
theorem sign3 : (cutSigns == "carried".toList) = false := by kernel_rfl
theorem sign4 : (cutSigns == "cut".toList) = true := by kernel_rfl
theorem make_of (P : Program) (c : List Char) (rest : List (List Char)) (h : behindMainWord (wordsSigns P.initOrder.toList) = c :: rest) (h1 : (c == "gc".toList) = false) (h2 : (c == "spec".toList) = false) (h3 : (c == "cut".toList) = true) : P.make = some .cut := by
  unfold Program.make
  rw [h]
  simp only [h1, h2, h3, Bool.or_self, Bool.true_or, Bool.false_eq_true, if_false, if_true]
theorem enter_of (P : Program) (c : List Char) (rest : List (List Char)) (h : behindMainWord (wordsSigns P.initOrder.toList) = c :: rest) (hs : stripLifts liftWords (c :: rest) = ([], c :: rest)) (h3 : (some c == some "cut".toList) = true) (ll : P.laysLater = false) (br : P.bearsReflect = false) (df : P.doorFits [] = true) : P.mayEnter = true := by
  unfold Program.mayEnter
  rw [h]
  simp only [hs, List.head?_cons, h3, ll, br, df]
  simp
theorem final_of (P : Program) (c : List Char) (rest : List (List Char)) (h : behindMainWord (wordsSigns P.initOrder.toList) = c :: rest) (hs : stripLifts liftWords (c :: rest) = ([], c :: rest)) (h3 : (some c == some "carried".toList) = false) : P.liftsFinal = false := by
  unfold Program.liftsFinal Program.headLifts
  rw [h]
  simp only [hs, List.head?_cons, h3, Bool.false_and, Bool.false_or]
  split <;> rfl
theorem laysLater_ : Try.prog.laysLater = false := by kernel_rfl
theorem bearsReflect_ : Try.prog.bearsReflect = false := by kernel_rfl
theorem doorFits_ : Try.prog.doorFits [] = true := by kernel_rfl
theorem make_ : Try.prog.make = some .cut := by
  obtain ⟨rest, h⟩ := head_word
  exact make_of _ _ rest h sign1 sign2 sign4
theorem mayEnter_ : Try.prog.mayEnter = true := by
  obtain ⟨rest, h⟩ := head_word
  exact enter_of _ _ rest h (head_strip rest) sign4 laysLater_ bearsReflect_ doorFits_
theorem liftsFinal_ : Try.prog.liftsFinal = false := by
  obtain ⟨rest, h⟩ := head_word
  exact final_of _ _ rest h (head_strip rest) sign3
theorem laidOut : laidOutB Try.prog = true := by kernel_rfl
theorem mapsRowed_ : mapsRowed Try.prog = true := by kernel_rfl
theorem stopsHeard_ : Try.prog.stopsHeard = true := by kernel_rfl
theorem stops_ : (Try.prog.stops == []) = true := by kernel_rfl
theorem stopKnobs_ : (Try.prog.stopKnobs == []) = true := by kernel_rfl
theorem joined_of {P : Program} {f : FuncId} {fn : Func} {s : ChangeSpec} {c : OpenClaim} (k1 : c.wf (OpenSpec.ofChange s) = true) (k2 : laidOutB P = true) (k3 : mapsRowed P = true) (k4 : fn.params.all (P.readableRec ·) = true) (k5 : namedTie P c.named s.vars = true)
    (k6 : (c.stops == []) = true) (k7 : (P.stops == []) = true) (k8 : (c.knobs == []) = true) (k9 : (P.stopKnobs == []) = true) (k10 : (c.inPlace == P.inPlace f) = true) (k11 : (c.unfollowed == P.unfollowed f) = true) (k12 : (c.recurses == P.recurses f) = true) (k13 : (c.named == P.varsNamed f) = true)
    (k14 : (c.maps == (fn.params.toList ++ s.plain.varTypes P).any (P.mapsRec ·)) = true) (k15 : (c.ifaces == (fn.params.toList ++ s.plain.varTypes P).any (P.ifacesRec ·)) = true) (k16 : (c.mapsOut == P.mapsAmong fn.resultTypes.toList) = true) (k17 : (c.loops == (fn.params.toList ++ s.plain.varTypes P).any (P.loopsFrom ·)) = true) (k18 : (c.wideKeys == (fn.params.toList ++ s.plain.varTypes P ++ fn.resultTypes.toList).any (P.wideKeysFrom ·)) = true)
    (k19 : s.vars.all (P.varReadable ·) = true) (k20 : fn.resultTypes.all (fun t => P.readableRec t && decide (t < P.types.size)) = true) (k21 : (c.ifacesOut == fn.resultTypes.toList.any (P.ifacesRec ·)) = true) (k22 : (c.loopsOut == fn.resultTypes.toList.any (P.loopsFrom ·)) = true) (k23 : (c.plainKeys == P.plainKeys) = true) (k24 : c.shortTexts.isNone = true)
    (k25 : P.stopsHeard = true) (k26 : P.mayEnter = true) (k27 : (c.lifted == P.liftsFinal) = true) (k28 : (P.make == some c.make) = true) (k29 : (c.kinds == (if c.domain.isEmpty then [] else fn.params.toList.map fun t => match P.underlying t with | some (.int k) => some k | _ => none)) = true) (k30 : (c.pinned == c.pinnedBy) = true)
    (k31 : (c.veiled == (fn.params.toList ++ s.plain.varTypes P ++ fn.resultTypes.toList).any (P.veiledRec ·)) = true) (k32 : c.veiledFits P fn.params.toList (fn.params.toList ++ s.plain.varTypes P ++ fn.resultTypes.toList) = true) : joinedFacts P f fn s c = true := by
  unfold joinedFacts
  simp only [Bool.and_eq_true]
  exact ⟨⟨⟨⟨⟨⟨⟨⟨⟨⟨⟨⟨⟨⟨⟨⟨⟨⟨⟨⟨⟨⟨⟨⟨⟨⟨⟨⟨⟨⟨⟨k1, k2⟩, k3⟩, k4⟩, k5⟩, k6⟩, k7⟩, k8⟩, k9⟩, k10⟩, k11⟩, k12⟩, k13⟩, k14⟩, k15⟩, k16⟩, k17⟩, k18⟩, k19⟩, k20⟩, k21⟩, k22⟩, k23⟩, k24⟩, k25⟩, k26⟩, k27⟩, k28⟩, k29⟩, k30⟩, k31⟩, k32⟩
end Mw
end
section
namespace Go.Proofs.Ytifkbghnmhineaa.macwilliamsDerived
open Go.ChangeShapes Go.WideShapes Go.ChangeAt Go.RowKit
open Go.ChangeMaps (open_string shut_string)
set_option linter.unusedVariables false
theorem own : ownKnob Try.prog.godebug = none := by kernel_rfl
set_option maxRecDepth 100000 in
theorem lifted (os : Os) (started : os.Started) (H : Type) (enc : TypeId × Value → H) :
    ReturnsInHanded {} Try.checked os 5 .any (Rows.macwilliamsDerivedSpec.pre6 enc Try.prog Try.f5 Rows.macwilliamsDerivedRow.domain false) (Rows.macwilliamsDerivedSpec.post enc Try.prog Try.f5 false true false false) := by
  refine returnsInHanded_of_change_sized (C := Try.checked) own started (by kernel_rfl) Try.func5
    (ChangeSpec.witness6 (enc := enc) (C := Try.checked) false ⟨#[], #[.slice none 0 0, .int .u8 0, .int .u8 0, .int .u8 0], []⟩ 8 (by kernel_rfl) (by kernel_rfl) (by kernel_rfl) (by kernel_rfl)) ?_
  intro W base args ds gs before hval0 hW hcnd hsz0 _
  have hval : ∀ (j : Nat) t v, Try.f5.params[j]? = some t → args[j]? = some v → Value.okWide Try.prog W .any base t v := hval0
  have hW' := hW
  obtain ⟨p, q, hA0, hV, rfl, hfz, hnd⟩ := hW
  have hA : DataW.TrodAll enc Try.prog W 0 (fun _ => true) true Try.f5.params.toList args.toList ds p := hA0
  rw [Try.params5] at hA hval
  obtain ⟨v0, vs0, d0, ds0, p0, q0, hargs, rfl, rfl, h0, r0⟩ := trodAll_cons hA
  obtain ⟨v1, vs1, d1, ds1, p1, q1, rfl, rfl, rfl, h1, r1⟩ := trodAll_cons r0
  obtain ⟨v2, vs2, d2, ds2, p2, q2, rfl, rfl, rfl, h2, r2⟩ := trodAll_cons r1
  obtain ⟨v3, vs3, d3, ds3, p3, q3, rfl, rfl, rfl, h3, r3⟩ := trodAll_cons r2
  obtain ⟨rfl, rfl, rfl⟩ := trodAll_nil r3
  obtain rfl : args = #[v0, v1, v2, v3] := by cases args; simp_all
  obtain ⟨rfl, rfl⟩ := trodVars_none hV
  obtain ⟨a0, len0, cap0, rfl⟩ := okWide_slice Try.underlying25 (hval 0 25 v0 rfl rfl)
  have k0 := h0
  have lt0 : ∀ x ∈ p0, x.block < W.heap.size := by obtain ⟨m, hm⟩ := k0; exact DataW.trod_lt m _ _ _ hm
  obtain ⟨l0, rfl, hc0, hm0, hr0, _⟩ := Mw.open_rows Try.underlying25 Try.underlying22 Try.underlying3 (by kernel_rfl) (by kernel_rfl) h0
  obtain ⟨a1, rfl, rfl, rfl, w1⟩ := open_int Try.underlying5 (hval 1 5 v1 rfl rfl) h1
  obtain ⟨a2, rfl, rfl, rfl, w2⟩ := open_int Try.underlying5 (hval 2 5 v2 rfl rfl) h2
  obtain ⟨a3, rfl, rfl, rfl, w3⟩ := open_int Try.underlying5 (hval 3 5 v3 rfl rfl) h3
  clear hA0 hval0 hsz0
  obtain ⟨k, hk⟩ := (Mw.derived_law (a1 := a1) (a2 := a2) (a3 := a3) hm0 (by have := w1; simp [Lit.wf, show IntKind.u8.min = 0 from rfl, show IntKind.u8.max = 255 from rfl] at this; omega) (by have := w1; simp [Lit.wf, show IntKind.u8.min = 0 from rfl, show IntKind.u8.max = 255 from rfl] at this; omega) (by have := w2; simp [Lit.wf, show IntKind.u8.min = 0 from rfl, show IntKind.u8.max = 255 from rfl] at this; omega) (by have := w2; simp [Lit.wf, show IntKind.u8.min = 0 from rfl, show IntKind.u8.max = 255 from rfl] at this; omega) (by have := w3; simp [Lit.wf, show IntKind.u8.min = 0 from rfl, show IntKind.u8.max = 255 from rfl] at this; omega) (by have := w3; simp [Lit.wf, show IntKind.u8.min = 0 from rfl, show IntKind.u8.max = 255 from rfl] at this; omega)).get
  refine (PAll.w24_MacwilliamsDerived.calls k a0 cap0 l0 a1 a2 a3 true W hr0 hc0 hk).mono fun e W' ⟨he, bel⟩ => ?_
  subst he
  exact ⟨_, rfl, _, _, _, [], _, [], hW', trodAll_mk1 (shut_bool Try.underlying4 _), (trodAll_cons_mk (Below.trod Mw.laidOut (by kernel_rfl) (of_decide_eq_true (by kernel_rfl)) k0 bel lt0) (trodAll_cons_mk (shut_int Try.underlying5 w1) (trodAll_cons_mk (shut_int Try.underlying5 w2) (trodAll_cons_mk (shut_int Try.underlying5 w3) trodAll_mk0)))), rfl, bel.frame _, fun h => by cases h⟩
theorem closed : joinedFacts Try.prog 5 Try.f5 Rows.macwilliamsDerivedSpec Rows.macwilliamsDerivedRow = true :=
  Mw.joined_of (by as_aux_lemma => kernel_rfl) Mw.laidOut Mw.mapsRowed_ (by as_aux_lemma => kernel_rfl) (by as_aux_lemma => kernel_rfl) (by as_aux_lemma => kernel_rfl) Mw.stops_ (by as_aux_lemma => kernel_rfl) Mw.stopKnobs_ (by as_aux_lemma => kernel_rfl) (by as_aux_lemma => kernel_rfl) (by as_aux_lemma => kernel_rfl) (by as_aux_lemma => kernel_rfl) (by as_aux_lemma => kernel_rfl) (by as_aux_lemma => kernel_rfl) (by as_aux_lemma => kernel_rfl) (by as_aux_lemma => kernel_rfl) (by as_aux_lemma => kernel_rfl) (by as_aux_lemma => kernel_rfl) (by as_aux_lemma => kernel_rfl) (by as_aux_lemma => kernel_rfl) (by as_aux_lemma => kernel_rfl) (by as_aux_lemma => kernel_rfl) (by as_aux_lemma => kernel_rfl) Mw.stopsHeard_ Mw.mayEnter_ (by rw [Mw.liftsFinal_]; rfl) (by rw [Mw.make_]; rfl) (by as_aux_lemma => kernel_rfl) (by as_aux_lemma => kernel_rfl) (by as_aux_lemma => kernel_rfl) (by as_aux_lemma => kernel_rfl)
theorem over : Rows.macwilliamsDerivedRow.holds Try.pinned (OpenSpec.ofChange Rows.macwilliamsDerivedSpec) :=
  OpenClaim.holds_of_wide 5 Try.f5 rfl rfl rfl rfl rfl rfl rfl ⟨rfl, rfl, rfl, rfl, rfl⟩ rfl rfl rfl rfl rfl (by as_aux_lemma => kernel_rfl) Try.func5 closed
    (of_decide_eq_true (by as_aux_lemma => kernel_rfl)) (by unfold Func.isWrapper; first | (rw [if_pos (by decide +kernel)]; kernel_rfl) | (rw [if_neg (by decide +kernel)]; exact ⟨rfl, rfl⟩))
    (fun os started H enc _ => lifted os started H enc)
theorem proved : Rows.MacwilliamsDerivedSaid := over
end Go.Proofs.Ytifkbghnmhineaa.macwilliamsDerived
namespace Go.Proofs.Ytifkbghnmhineaa
theorem macwilliamsDerived_holds : Rows.MacwilliamsDerivedSaid := macwilliamsDerived.proved
end Go.Proofs.Ytifkbghnmhineaa
end
