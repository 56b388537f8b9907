/- The statement MacwilliamsPless, proved for every input, and what it rests on. No condition. -/
import Derived.Test.YtifkbghnmhineaaQPless3

section
set_option linter.unusedVariables false
set_option linter.unusedSimpArgs false
namespace Mw
open Go Go.RowKit Go.Proofs.YtifkbghnmhineaaW.PrintWords Go.Proofs.YtifkbghnmhineaaW.PrintLast Go.Proofs.YtifkbghnmhineaaW.PrintMore Go.Proofs.Ytifkbghnmhineaa.PAll
theorem pm_pos (m : Nat) : (0 : Int) < (2 : Int) ^ m := Int.pow_pos (by decide)
theorem pm_le {m : Nat} (hm : m < 32) : (2 : Int) ^ m ≤ 2147483648 := by
  have hp : 2 ^ m ≤ 2147483648 := Nat.pow_le_pow_right (n := 2) (by decide) (show m ≤ 31 by omega)
  have h2 : ((2 ^ m : Nat) : Int) ≤ 2147483648 := by omega
  rw [Int.natCast_pow] at h2
  exact h2
theorem shl_or {x c : Int} {m : Nat} (hx0 : 0 ≤ x) (hx1 : x < 4294967296) (hm : m < 32) (hc0 : 0 ≤ c) (hc1 : c < (2 : Int) ^ m) :
    Go.bits .or .u64 (shl .u64 (IntKind.u64.wrap x) (m : Int)) c = x * (2 : Int) ^ m + c ∧ 0 ≤ x * (2 : Int) ^ m + c ∧ x * (2 : Int) ^ m + c < 4294967296 * (2 : Int) ^ m ∧ x * (2 : Int) ^ m + c < 18446744073709551616 := by
  have hp := pm_le hm
  have hp0 := pm_pos m
  have hb : x * (2 : Int) ^ m ≤ 4294967295 * (2 : Int) ^ m := Int.mul_le_mul_of_nonneg_right (by omega) (by omega)
  have h0 : 0 ≤ x * (2 : Int) ^ m := Int.mul_nonneg hx0 (by omega)
  have hmod : x * (2 : Int) ^ m % (2 : Int) ^ m = 0 := Int.mul_emod_left _ _
  have e : shl .u64 (IntKind.u64.wrap x) (m : Int) = x * (2 : Int) ^ m := by
    unfold shl
    rw [u64w (x := x) hx0 (by omega), Int.toNat_natCast, Nat.min_eq_left (show m ≤ IntKind.u64.bits by simp [IntKind.bits]; omega)]
    exact u64w h0 (by omega)
  rw [e]
  refine ⟨bits_join .u64 64 (by decide) wraps_u64 m _ _ h0 hmod ?_ hc0 hc1 ?_, by omega, by omega, by omega⟩
  · have : x * (2 : Int) ^ m < 18446744073709551616 := by omega
    exact this
  · have : c < 18446744073709551616 := by omega
    exact this
def Shf (a : List Int) (m : Nat) (r : List Int) : Prop := r.length = a.length + 1 ∧ Lm r ∧ lv r = lv a * (2 : Int) ^ m
theorem nshift_loop {a : List Int} {m : Nat} (ha : Lm a) (hla : a.length < 268435456) (hm : m < 32) : ∀ (d i : Nat) (o : List Int) (c : Int), i + d = a.length → o.length = a.length + 1 → Lm o → 0 ≤ c → c < (2 : Int) ^ m → (∀ j : Nat, i ≤ j → rd o (j : Int) = 0) →
    Aside0 (lv o + (bp i : Int) * c = lv (a.take i) * (2 : Int) ^ m) → Rz (Shf a m) (fun k => nat_shift.l0 k a (m : Int) o c a (a.length : Int) (i : Int)) := by
  intro d
  induction d with
  | zero =>
    intro i o c hi hol ho hc0 hc1 hz hv
    have hi : i = a.length := by omega
    subst hi
    have hp := pm_le hm
    have hc2 : c % 4294967296 = c := by omega
    have hlen : (a.length : Int) < (o.length : Int) := by omega
    refine Rz.succ ?_
    simp only [nat_shift.l0, if_neg (show ¬ (a.length : Int) < (a.length : Int) from Int.lt_irrefl _), if_pos (show (0 : Int) ≤ (a.length : Int) from Int.natCast_nonneg _), if_pos hlen, Int.toNat_natCast, hc2]
    refine Rz.some ⟨by rw [List.length_set]; exact hol, lm_set ho hc0 (by omega), ?_⟩
    have hv := hv.out
    rw [List.take_of_length_le (Nat.le_refl _)] at hv
    rw [lv_set _ (by omega), hz a.length (Nat.le_refl _), ← hv]
    rw [Int.sub_zero]
  | succ d ih =>
    intro i o c hi hol ho hc0 hc1 hz hv
    have hia : i < a.length := by omega
    have ra := rd_lm ha (i : Int)
    obtain ⟨e1, s0, sP, s1⟩ := shl_or ra.1 ra.2 hm hc0 hc1
    have hp0 := pm_pos m
    have hsP : (rd a (i : Int) * (2 : Int) ^ m + c) / 4294967296 < (2 : Int) ^ m := Int.ediv_lt_of_lt_mul (by decide) (by rw [Int.mul_comm ((2 : Int) ^ m) 4294967296]; exact sP)
    have hd := div_bound s0 s1
    have hs := split_div (rd a (i : Int) * (2 : Int) ^ m + c)
    have c1 : (i : Int) < (a.length : Int) := by clear e1; omega
    have c2 : (i : Int) < (o.length : Int) := by clear e1; omega
    refine Rz.succ ?_
    simp only [nat_shift.l0, if_pos c1, if_pos (show (0 : Int) ≤ (i : Int) from Int.natCast_nonneg _), if_pos (show (0 : Int) ≤ (m : Int) from Int.natCast_nonneg _), if_pos c2, e1, Int.toNat_natCast, wn (show (i : Int) + 1 = ((i + 1 : Nat) : Int) by clear e1; omega) (by clear e1; omega)]
    clear e1
    refine ih (i + 1) _ _ (by omega) (by rw [List.length_set]; exact hol) (lm_set ho hd.1 hd.2.1) hd.2.2.1 hsP (fun j hj => by rw [rd_set_ne _ (by omega)]; exact hz j (by omega)) ⟨?_⟩
    rw [lv_set _ (by omega), lv_take_succ hia, bp_succ, Int.natCast_mul, hz i (Nat.le_refl _)]
    have hv := hv.out
    clear ih hd hsP s0 s1 sP hz
    generalize (rd a (i : Int) * (2 : Int) ^ m + c) / 4294967296 = c2 at *
    generalize (rd a (i : Int) * (2 : Int) ^ m + c) % 4294967296 = sm at *
    generalize (2 : Int) ^ m = P at *
    generalize (bp i : Int) = p at *
    generalize rd a (i : Int) = ai at *
    generalize lv o = lo at *
    generalize lv (a.take i) = lt at *
    show lo + p * (sm - 0) + 4294967296 * p * c2 = (lt + p * ai) * P
    have h2 : p * (sm + 4294967296 * c2) = p * (ai * P + c) := by rw [hs]
    grind
theorem nshift_ev {a : List Int} {m : Nat} (ha : Lm a) (hla : a.length < 268435456) (hm : m < 32) : Rz (Shf a m) (fun k => nat_shift.f k a (m : Int)) := by
  simp only [nat_shift.f, wn (show (a.length : Int) + 1 = ((a.length + 1 : Nat) : Int) by omega) (by omega), Int.toNat_natCast, if_pos (show (0 : Int) ≤ ((a.length + 1 : Nat) : Int) by omega), if_pos (show a.length + 1 ≤ 70368744177664 by omega)]
  exact nshift_loop ha hla hm a.length 0 _ 0 (by omega) (by simp) (lm_rep _) (by omega) (pm_pos m) (fun j _ => rd_rep _ j) ⟨by rw [lv_rep]; simp [lv_nil]⟩
theorem join_low {y x : Int} (hy0 : 0 ≤ y) (hy1 : y < 4294967296) (hx0 : 0 ≤ x) (hx1 : x < 4294967296) : Go.bits .or .u64 (IntKind.u64.wrap y) (IntKind.u64.wrap (IntKind.u64.wrap x * 4294967296)) = y + x * 4294967296 := by
  rw [u64w (x := x) hx0 (by omega), u64w (x := x * 4294967296) (by omega) (by omega), u64w (x := y) hy0 (by omega)]
  have h := bits_join .u64 64 (by decide) wraps_u64 32 (x * 4294967296) y (by omega) (by omega) (by omega) hy0 (by omega) (by omega)
  obtain ⟨a, ha⟩ := Int.eq_ofNat_of_zero_le hy0
  obtain ⟨b, hb⟩ := Int.eq_ofNat_of_zero_le (show 0 ≤ x * 4294967296 by omega)
  rw [ha, hb] at h ⊢
  rw [(bits_nat .u64 64 (by decide) wraps_u64 b a (by omega) (by omega)).2] at h
  rw [(bits_nat .u64 64 (by decide) wraps_u64 a b (by omega) (by omega)).2, Nat.or_comm, h]
  omega
theorem shr_limb {u0 u1 : Int} {m : Nat} (h00 : 0 ≤ u0) (h01 : u0 < 4294967296) (h10 : 0 ≤ u1) (h11 : u1 < 4294967296) (hm : m < 32) :
    ∃ x, shr .u64 (Go.bits .or .u64 (IntKind.u64.wrap u0) (IntKind.u64.wrap (IntKind.u64.wrap u1 * 4294967296))) (m : Int) % 4294967296 = x ∧ 0 ≤ x ∧ x < 4294967296 ∧ x * (2 : Int) ^ m = u0 - u0 % (2 : Int) ^ m + (u1 % (2 : Int) ^ m) * 4294967296 := by
  refine ⟨_, rfl, by omega, by omega, ?_⟩
  rw [join_low h00 h01 h10 h11]
  unfold shr
  rw [Int.toNat_natCast, Nat.min_eq_left (show m ≤ IntKind.u64.bits by simp [IntKind.bits]; omega)]
  have hp0 := pm_pos m
  have hq0 := pm_pos (32 - m)
  have hPP : (2 : Int) ^ m * (2 : Int) ^ (32 - m) = 4294967296 := by
    rw [← Int.pow_add, show m + (32 - m) = 32 by omega]; rfl
  generalize (2 : Int) ^ m = P at *
  generalize (2 : Int) ^ (32 - m) = P' at *
  have e1 : (u0 + u1 * 4294967296) / P = u0 / P + u1 * P' := by
    rw [← hPP, show u1 * (P * P') = (u1 * P') * P by grind]
    exact Int.add_mul_ediv_right _ _ (by omega)
  have hm0 := Int.emod_nonneg u1 (show P ≠ 0 by omega)
  have hm1 := Int.emod_lt_of_pos u1 hp0
  have hd := Int.mul_ediv_add_emod u1 P
  have hd0 := Int.mul_ediv_add_emod u0 P
  have hu := Int.ediv_nonneg h00 (show 0 ≤ P by omega)
  have hu1 : u0 / P < P' := Int.ediv_lt_of_lt_mul hp0 (by rw [Int.mul_comm, hPP]; exact h01)
  have e2 : (u0 / P + u1 * P') % 4294967296 = u0 / P + (u1 % P) * P' := by
    have e3 : u0 / P + u1 * P' = (u0 / P + (u1 % P) * P') + (u1 / P) * 4294967296 := by
      rw [← hPP]
      have : u1 * P' = (P * (u1 / P) + u1 % P) * P' := by rw [hd]
      grind
    rw [e3, Int.add_mul_emod_self_right]
    have h1 : 0 ≤ (u1 % P) * P' := Int.mul_nonneg hm0 (by omega)
    have h2 : (u1 % P + 1) * P' ≤ P * P' := Int.mul_le_mul_of_nonneg_right (by omega) (by omega)
    have h3 : (u1 % P + 1) * P' = (u1 % P) * P' + P' := by grind
    exact Int.emod_eq_of_lt (by omega) (by omega)
  rw [e1, e2]
  have : (u0 / P) * P = u0 - u0 % P := by rw [Int.mul_comm]; omega
  have h4 : (u1 % P) * P' * P = (u1 % P) * 4294967296 := by rw [← hPP]; grind
  rw [Int.add_mul, this, h4]
theorem rem_loop {u quo : List Int} {m n : Nat} (hu : Lm u) (hn : n < u.length) (hnl : n < 268435456) (hm : m < 32) : ∀ (d i : Nat) (o : List Int), i + d = n → o.length = n → Lm o → (∀ j : Nat, i ≤ j → rd o (j : Int) = 0) →
    Aside0 (lv o * (2 : Int) ^ m = lv (u.take i) - rd u ((0 : Nat) : Int) % (2 : Int) ^ m + (bp i : Int) * (rd u (i : Int) % (2 : Int) ^ m)) →
    Rz (fun r => r.1 = quo ∧ Lm r.2 ∧ r.2.length = n ∧ lv r.2 * (2 : Int) ^ m = lv (u.take n) - rd u ((0 : Nat) : Int) % (2 : Int) ^ m + (bp n : Int) * (rd u (n : Int) % (2 : Int) ^ m)) (fun k => nat_long.l1 k quo o (m : Int) u (n : Int) (i : Int)) := by
  intro d
  induction d with
  | zero =>
    intro i o hi hol ho hz hv
    have hi : i = n := by omega
    subst hi
    refine Rz.succ ?_
    simp only [nat_long.l1, if_neg (show ¬ (i : Int) < (i : Int) from Int.lt_irrefl _)]
    exact Rz.some ⟨rfl, ho, hol, hv.out⟩
  | succ d ih =>
    intro i o hi hol ho hz hv
    have r0 := rd_lm hu (i : Int)
    have r1 := rd_lm hu ((i + 1 : Nat) : Int)
    obtain ⟨x, ex, x0, x1, hx⟩ := shr_limb r0.1 r0.2 r1.1 r1.2 hm
    have c1 : (i : Int) < (n : Int) := by clear ex; omega
    have c2 : (i : Int) < (u.length : Int) := by clear ex; omega
    have c3 : ((i + 1 : Nat) : Int) < (u.length : Int) := by clear ex; omega
    have c4 : (i : Int) < (o.length : Int) := by clear ex; omega
    have ew := wn (show (i : Int) + 1 = ((i + 1 : Nat) : Int) by clear ex; omega) (by clear ex; omega)
    refine Rz.succ ?_
    simp only [nat_long.l1, if_pos c1, if_pos (show (0 : Int) ≤ (i : Int) from Int.natCast_nonneg _), if_pos c2, ew, if_pos (show (0 : Int) ≤ ((i + 1 : Nat) : Int) from Int.natCast_nonneg _), if_pos c3, if_pos (show (0 : Int) ≤ (m : Int) from Int.natCast_nonneg _), if_pos c4, ex, Int.toNat_natCast]
    clear ex ew
    refine ih (i + 1) _ (by omega) (by rw [List.length_set]; exact hol) (lm_set ho x0 x1) (fun j hj => by rw [rd_set_ne _ (by omega)]; exact hz j (by omega)) ⟨?_⟩
    rw [lv_set _ (by omega), hz i (Nat.le_refl _), lv_take_succ (by omega), bp_succ, Int.natCast_mul]
    have hv := hv.out
    clear ih hz
    generalize (2 : Int) ^ m = P at *
    generalize rd u ((i + 1 : Nat) : Int) % P = k1 at *
    generalize hk0 : rd u (i : Int) % P = k0 at *
    generalize rd u ((0 : Nat) : Int) % P = kz at *
    generalize (bp i : Int) = p at *
    generalize rd u (i : Int) = ui at *
    generalize lv o = lo at *
    generalize lv (u.take i) = lt at *
    show (lo + p * (x - 0)) * P = lt + p * ui - kz + 4294967296 * p * k1
    have h2 : p * (x * P) = p * (ui - k0 + k1 * 4294967296) := by rw [hx]
    grind
theorem win_split {u : List Int} {lo hi : Nat} (h1 : lo ≤ hi) (h2 : hi ≤ u.length) : u.take lo ++ ((u.take hi).drop lo ++ u.drop hi) = u := by
  have h3 : (u.take hi).take lo = u.take lo := by rw [List.take_take, Nat.min_eq_left h1]
  rw [← List.append_assoc, ← h3, List.take_append_drop, List.take_append_drop]
theorem lm_drop {l : List Int} (h : Lm l) (n : Nat) : Lm (l.drop n) := fun x hx => h x (List.mem_of_mem_drop hx)
theorem quo_loop {P : List Int × List Int → Prop} {v : List Int} {m N : Nat} {A : Int} (hv : Lm v) (hk : 2 ≤ v.length) (ht : 2147483648 ≤ rd v ((v.length - 1 : Nat) : Int)) (hN : N < 268435456)
    (hfin : ∀ (u quo : List Int), u.length = N → Lm u → Lm quo → quo.length = N - v.length → lv u < lv v → Aside0 (A = lv quo * lv v + lv u) → Rz P (fun k => nat_long.l0 k quo (m : Int) v u (v.length : Int) (-1))) :
    ∀ (d : Nat) (u quo : List Int), d + v.length ≤ N → u.length = N → Lm u → Lm quo → quo.length = N - v.length → (∀ i : Nat, i < d → rd quo (i : Int) = 0) → lv u < (bp d : Int) * lv v → Aside0 (A = lv quo * lv v + lv u) → Rz P (fun k => nat_long.l0 k quo (m : Int) v u (v.length : Int) ((d : Int) - 1)) := by
  intro d
  induction d with
  | zero =>
    intro u quo hd hul hu hq hql hz hlt he
    rw [bp_zero] at hlt
    exact hfin u quo hul hu hq hql (by rw [show ((1 : Nat) : Int) = 1 from rfl, Int.one_mul] at hlt; exact hlt) he
  | succ d ih =>
    intro u quo hd hul hu hq hql hz hlt he
    have hV0 := lv_nonneg hv
    have hV1 := lv_lt hv
    obtain ⟨w, hw⟩ : ∃ w, w = (u.take (d + v.length + 1)).drop d := ⟨_, rfl⟩
    obtain ⟨dr, hdr⟩ : ∃ dr, dr = u.drop (d + v.length + 1) := ⟨_, rfl⟩
    have hsp := win_split (u := u) (lo := d) (hi := d + v.length + 1) (by omega) (by omega)
    rw [← hw, ← hdr] at hsp
    have hwl : w.length = v.length + 1 := by rw [hw, List.length_drop, List.length_take]; omega
    have hdl : dr.length = N - (d + v.length + 1) := by rw [hdr, List.length_drop]; omega
    have hwm : Lm w := by rw [hw]; exact lm_drop (lm_take hu _) _
    have hdm : Lm dr := by rw [hdr]; exact lm_drop hu _
    have htl : (u.take d).length = d := by rw [List.length_take]; omega
    have hval : lv u = lv (u.take d) + (bp d : Int) * (lv w + (bp (v.length + 1) : Int) * lv dr) := by
      rw [← hwl]
      conv => lhs; rw [← hsp, lv_append, lv_append, htl]
    have tb := take_bound hu d
    have w0 := lv_nonneg hwm
    have d0 := lv_nonneg hdm
    have hb := bp_pos d
    have hbk := bp_pos v.length
    rw [bp_succ, Int.natCast_mul] at hlt
    have hdr0 : lv dr = 0 := by
      by_cases g : lv dr = 0
      · exact g
      · exfalso
        have h1 : (bp v.length : Int) * 1 ≤ (bp v.length : Int) * lv dr := Int.mul_le_mul_of_nonneg_left (by omega) (by omega)
        rw [bp_succ, Int.natCast_mul] at hval
        have h2 : (bp d : Int) * (lv w + 4294967296 * (bp v.length : Int) * lv dr) < (bp d : Int) * (4294967296 * lv v) := by
          have : ((4294967296 : Nat) : Int) * (bp d : Int) * lv v = (bp d : Int) * (4294967296 * lv v) := by
            show 4294967296 * (bp d : Int) * lv v = _
            grind
          have e2 : (bp d : Int) * (lv w + ((4294967296 : Nat) : Int) * (bp v.length : Int) * lv dr) = (bp d : Int) * (lv w + 4294967296 * (bp v.length : Int) * lv dr) := rfl
          omega
        have h3 := Int.lt_of_mul_lt_mul_left h2 (by omega)
        have h4 : 4294967296 * (bp v.length : Int) * lv dr = 4294967296 * ((bp v.length : Int) * lv dr) := by grind
        omega
    rw [hdr0, Int.mul_zero, Int.add_zero] at hval
    have hW : lv w < 4294967296 * lv v := by
      have h2 : (bp d : Int) * lv w < (bp d : Int) * (4294967296 * lv v) := by
        have : ((4294967296 : Nat) : Int) * (bp d : Int) * lv v = (bp d : Int) * (4294967296 * lv v) := by
          show 4294967296 * (bp d : Int) * lv v = _
          grind
        omega
      exact Int.lt_of_mul_lt_mul_left h2 (by omega)
    obtain ⟨⟨q, rl⟩, hev, hq1, hrl, hrm, hrv⟩ := step_ev hwm hv hwl (by omega) hk ht hW
    simp only at hq1 hrl hrm hrv
    have hVp : 0 < lv v := by omega
    have hdm2 := Int.mul_ediv_add_emod (lv w) (lv v)
    have hr0 := Int.emod_nonneg (lv w) (show lv v ≠ 0 by omega)
    have hr1 := Int.emod_lt_of_pos (lv w) hVp
    have hq0 : 0 ≤ q := by rw [hq1]; exact Int.ediv_nonneg w0 (by omega)
    have hqB : q < 4294967296 := by rw [hq1]; exact Int.ediv_lt_of_lt_mul hVp hW
    rw [← hq1, ← hrv] at hdm2
    rw [← hrv] at hr0 hr1
    have i1 : wrap64 ((d : Int) + (v.length : Int)) = ((d + v.length : Nat) : Int) := wn (by omega) (by omega)
    have i2 : wrap64 (((d + v.length : Nat) : Int) + 1) = ((d + v.length + 1 : Nat) : Int) := wn (by clear i1; omega) (by clear i1; omega)
    have i3 : wrap64 ((d : Int) - 1) = (d : Int) - 1 := w64 (by clear i1 i2; omega) (by clear i1 i2; omega)
    have c1 : (d : Int) ≥ 0 := Int.natCast_nonneg _
    have c2 : (d : Int) ≤ ((d + v.length + 1 : Nat) : Int) := by clear i1 i2 i3; omega
    have c3 : ((d + v.length + 1 : Nat) : Int) ≤ (u.length : Int) := by clear i1 i2 i3; omega
    have c4 : (d : Int) < (quo.length : Int) := by clear i1 i2 i3; omega
    refine Rz.succ ?_
    rw [show ((d + 1 : Nat) : Int) - 1 = (d : Int) by clear i1 i2 i3; omega]
    simp only [nat_long.l0, if_pos c1, if_pos (show (0 : Int) ≤ (d : Int) from c1), i1, i2, if_pos c2, if_pos c3, Int.toNat_natCast, ← hw, ← hdr]
    refine Rz.bind hev ?_
    simp only [if_pos c4, i3]
    clear i1 i2 i3 hev
    have hul2 : (u.take d ++ (rl ++ dr)).length = N := by rw [List.length_append, List.length_append, htl, hrl, hdl]; omega
    have hval2 : lv (u.take d ++ (rl ++ dr)) = lv (u.take d) + (bp d : Int) * lv rl := by
      rw [lv_append, lv_append, htl, hdr0, Int.mul_zero, Int.add_zero]
    refine ih _ _ (by omega) hul2 (lm_append (lm_take hu _) (lm_append hrm hdm)) (lm_set hq hq0 hqB) (by rw [List.length_set]; exact hql) (fun i hi => by rw [rd_set_ne _ (by omega)]; exact hz i (by omega)) ?_ ⟨?_⟩
    · rw [hval2]
      have h1 : (bp d : Int) * (lv rl + 1) ≤ (bp d : Int) * lv v := Int.mul_le_mul_of_nonneg_left (by omega) (by omega)
      have h2 : (bp d : Int) * (lv rl + 1) = (bp d : Int) * lv rl + bp d := by grind
      omega
    · rw [lv_set _ (by omega), hz d (by omega), hval2]
      have he := he.out
      rw [hval] at he
      rw [he]
      have h1 : (bp d : Int) * (lv v * q + lv rl) = (bp d : Int) * lv w := by rw [hdm2]
      generalize (bp d : Int) = p at *
      grind
theorem len32 {x : Int} (h0 : 0 ≤ x) (h1 : x < 4294967296) : bits_Len32.f x = some ((Lib.bitLen x.toNat : Nat) : Int) := by
  unfold bits_Len32.f
  rw [if_pos h0, if_pos (by omega)]
theorem nlong_ev {a b : Nat} (hb : 2 ≤ (dg b).length) (hab : b ≤ a) (hal : (dg a).length < 67108864) :
    Rz (fun r => Lm r.1 ∧ Lm r.2 ∧ lv r.1 = ((a / b : Nat) : Int) ∧ lv r.2 = ((a % b : Nat) : Int) ∧ r.1.length ≤ (dg a).length + 1 ∧ r.2.length ≤ (dg a).length + 1) (fun k => nat_long.f k (dg a) (dg b)) := by
  have hlab := dg_len_mono hab
  obtain ⟨n, hn⟩ : ∃ n, (dg b).length = n + 1 := ⟨(dg b).length - 1, by omega⟩
  have hb0 : b ≠ 0 := by intro e; rw [e, dg_zero] at hb; simp at hb
  have hr := rd_lm (lm_dg b) (n : Int)
  have hd := dg_head (n := b) (i := n) (by omega)
  obtain ⟨x, hx⟩ : ∃ x : Nat, rd (dg b) (n : Int) = (x : Int) := ⟨(rd (dg b) (n : Int)).toNat, by omega⟩
  rw [hx] at hr hd
  have hx0 : x ≠ 0 := by omega
  have hx1 : x < 4294967296 := by omega
  have hbl1 := bitLen_pos hx0 hx1
  have hbl2 := bits_half x hx1
  obtain ⟨m, hm⟩ : ∃ m, m = 32 - Lib.bitLen x := ⟨_, rfl⟩
  have hm32 : m < 32 := by omega
  have hblb : bl b = 32 * n + Lib.bitLen x := by
    unfold bl
    rw [if_neg hb0, hn, show n + 1 - 1 = n from rfl, hx, Int.toNat_natCast]
  obtain ⟨lo, hi, _⟩ := bl_bounds hb0
  obtain ⟨V, hV⟩ : ∃ V, V = b * 2 ^ m := ⟨_, rfl⟩
  have hVlo : 2147483648 * bp n ≤ V := by
    rw [hV, ← pow2_bp]
    have h1 := Nat.mul_le_mul_right (2 ^ m) lo
    rw [← Nat.pow_add, hblb, show 32 * n + Lib.bitLen x - 1 + m = 31 + 32 * n by omega, Nat.pow_add] at h1
    exact h1
  have hVhi : V < bp (n + 1) := by
    rw [hV, ← pow2_bp]
    have h1 := Nat.mul_lt_mul_of_pos_right hi (Nat.two_pow_pos m)
    rw [← Nat.pow_add, hblb, show 32 * n + Lib.bitLen x + m = 32 * (n + 1) by omega] at h1
    exact h1
  have hVl : (dg V).length = n + 1 := by
    have h1 := dg_len_le hVhi
    by_cases g : (dg V).length ≤ n
    · exfalso
      have h2 := dg_lt_len V
      have h3 := bp_mono g
      have h4 := bp_pos n
      omega
    · omega
  have hVt : 2147483648 ≤ rd (dg V) (((dg V).length - 1 : Nat) : Int) := by
    rw [hVl, show n + 1 - 1 = n from rfl]
    have h1 := lv_take_succ (l := dg V) (i := n) (by omega)
    rw [← hVl, List.take_of_length_le (Nat.le_refl _), lv_dg] at h1
    have h2 := take_bound (lm_dg V) n
    have h4 := bp_pos n
    have h5 : (bp n : Int) * 2147483647 < (bp n : Int) * rd (dg V) (n : Int) := by omega
    have := Int.lt_of_mul_lt_mul_left h5 (by omega)
    omega
  have hVm : Lm (dg V) := lm_dg V
  have hVv : lv (dg V) = (V : Int) := lv_dg V
  have hp2 : ((2 ^ m : Nat) : Int) = (2 : Int) ^ m := by rw [Int.natCast_pow]; rfl
  have hpm := pm_pos m
  obtain ⟨s1, hs1, hs1l, hs1m, hs1v⟩ := nshift_ev (a := dg b) (m := m) (lm_dg b) (by omega) hm32
  obtain ⟨u, hu, hul, hum, huv⟩ := nshift_ev (a := dg a) (m := m) (lm_dg a) (by omega) hm32
  have hs1V : (lv s1).toNat = V := by
    rw [hs1v, lv_dg, ← hp2, ← Int.natCast_mul, Int.toNat_natCast, hV]
  have hsh := short_ev hs1m (by omega)
  rw [hs1V] at hsh
  rw [lv_dg] at huv
  have i1 : wrap64 (((n + 1 : Nat) : Int) - 1) = (n : Int) := wn (by omega) (by omega)
  have i2 : wrap64 (32 - ((Lib.bitLen x : Nat) : Int)) = (m : Int) := wn (by clear i1; omega) (by clear i1; omega)
  have f1 : bits_LeadingZeros32.f (rd (dg b) (n : Int)) = some (m : Int) := by
    unfold bits_LeadingZeros32.f
    rw [hx, len32 (by clear i1 i2; omega) (by clear i1 i2; omega), Int.toNat_natCast, Option.bind_some, i2]
  have i3 : wrap64 ((u.length : Int) - ((dg V).length : Int)) = ((u.length - (n + 1) : Nat) : Int) := wn (by clear i1 i2; omega) (by clear i1 i2; omega)
  have i4 : wrap64 (((u.length - (n + 1) : Nat) : Int) - 1) = ((u.length - (n + 1) : Nat) : Int) - 1 := w64 (by clear i1 i2 i3; omega) (by clear i1 i2 i3; omega)
  have c1 : (0 : Int) ≤ (n : Int) := Int.natCast_nonneg _
  have c2 : (n : Int) < ((n + 1 : Nat) : Int) := by clear i1 i2 i3 i4; omega
  have c3 : u.length - (n + 1) ≤ 70368744177664 := by clear i1 i2 i3 i4; omega
  simp only [nat_long.f, hn, i1, if_pos c1, if_pos c2]
  refine Rz.bind (Ev.of (fun k => f1)) ?_
  refine Rz.bind hs1 ?_
  refine Rz.bind hsh ?_
  refine Rz.bind hu ?_
  simp only [i3, i4, if_pos (show (0 : Int) ≤ ((u.length - (n + 1) : Nat) : Int) from Int.natCast_nonneg _), Int.toNat_natCast, if_pos c3]
  clear i1 i2 i3 i4 f1
  have hb1 : bp n ≤ b := by
    have h1 : bp n * 2 ^ (Lib.bitLen x - 1) ≤ b := by
      rw [← pow2_bp, ← Nat.pow_add, show 32 * n + (Lib.bitLen x - 1) = bl b - 1 by omega]; exact lo
    have h2 := Nat.two_pow_pos (Lib.bitLen x - 1)
    have h3 : bp n * 1 ≤ bp n * 2 ^ (Lib.bitLen x - 1) := Nat.mul_le_mul_left _ h2
    omega
  refine quo_loop (A := (a : Int) * (2 : Int) ^ m) (N := u.length) hVm (by omega) hVt (by omega) (fun u2 quo hu2l hu2m hqm hql hlt he => ?_) (u.length - (n + 1)) u _ (by omega) rfl hum (lm_rep _) (by rw [List.length_replicate, hVl]) (fun i _ => rd_rep _ i) ?_ ⟨by rw [lv_rep, huv]; omega⟩
  ·
    rw [hVv] at hlt he
    have he := he.out
    have hVi : (V : Int) = (b : Int) * (2 : Int) ^ m := by rw [hV, Int.natCast_mul, hp2]
    have hu20 := lv_nonneg hu2m
    obtain ⟨r, hr2⟩ : ∃ r, r = (a : Int) - lv quo * b := ⟨_, rfl⟩
    have hrP : lv u2 = r * (2 : Int) ^ m := by
      rw [hVi] at he
      rw [hr2]
      generalize (2 : Int) ^ m = P at *
      grind
    have hr0 : 0 ≤ r := by
      by_cases g : 0 ≤ r
      · exact g
      · exfalso
        have h1 : r * (2 : Int) ^ m ≤ -1 * (2 : Int) ^ m := Int.mul_le_mul_of_nonneg_right (by omega) (by omega)
        omega
    have hrb : r < (b : Int) := by
      rw [hrP, hVi] at hlt
      exact Int.lt_of_mul_lt_mul_right hlt (by omega)
    have hqr := (Int.ediv_emod_unique (a := (a : Int)) (b := (b : Int)) (r := r) (q := lv quo) (by omega)).mpr ⟨by rw [hr2, Int.mul_comm (b : Int)]; omega, hr0, hrb⟩
    have hz1 : rd u2 ((n + 1 : Nat) : Int) = 0 ∧ lv (u2.take (n + 1)) = lv u2 := by
      have h1 := take_bound hu2m (n + 1)
      have hsp : lv u2 = lv (u2.take (n + 1)) + (bp (n + 1) : Int) * lv (u2.drop (n + 1)) := by
        conv => lhs; rw [← List.take_append_drop (n + 1) u2, lv_append, List.length_take, Nat.min_eq_left (show n + 1 ≤ u2.length by omega)]
      have h2 := lv_nonneg (lm_drop hu2m (n + 1))
      have h3 := bp_pos (n + 1)
      have hz : lv (u2.drop (n + 1)) = 0 := by
        by_cases g : lv (u2.drop (n + 1)) = 0
        · exact g
        · exfalso
          have : (bp (n + 1) : Int) * 1 ≤ (bp (n + 1) : Int) * lv (u2.drop (n + 1)) := Int.mul_le_mul_of_nonneg_left (by omega) (by omega)
          omega
      rw [hz, Int.mul_zero, Int.add_zero] at hsp
      refine ⟨?_, hsp.symm⟩
      have h4 := lv_take_succ (l := u2) (i := n + 1) (by omega)
      have h5 := rd_lm hu2m ((n + 1 : Nat) : Int)
      have hsp2 : lv u2 = lv (u2.take (n + 2)) + (bp (n + 2) : Int) * lv (u2.drop (n + 2)) := by
        conv => lhs; rw [← List.take_append_drop (n + 2) u2, lv_append, List.length_take, Nat.min_eq_left (show n + 2 ≤ u2.length by omega)]
      have h6 : 0 ≤ (bp (n + 2) : Int) * lv (u2.drop (n + 2)) := Int.mul_nonneg (Int.natCast_nonneg _) (lv_nonneg (lm_drop hu2m (n + 2)))
      by_cases g : rd u2 ((n + 1 : Nat) : Int) = 0
      · exact g
      · exfalso
        have : (bp (n + 1) : Int) * 1 ≤ (bp (n + 1) : Int) * rd u2 ((n + 1 : Nat) : Int) := Int.mul_le_mul_of_nonneg_left (by omega) (by omega)
        have h4' : lv (u2.take (n + 2)) = lv (u2.take (n + 1)) + (bp (n + 1) : Int) * rd u2 ((n + 1 : Nat) : Int) := h4
        omega
    have hc0 : rd u2 ((0 : Nat) : Int) % (2 : Int) ^ m = 0 := by
      have h1 := lv_take_succ (l := u2) (i := 0) (by omega)
      have hsp : lv u2 = lv (u2.take 1) + (bp 1 : Int) * lv (u2.drop 1) := by
        conv => lhs; rw [← List.take_append_drop 1 u2, lv_append, List.length_take, Nat.min_eq_left (show 1 ≤ u2.length by omega)]
      rw [List.take_zero, lv_nil, bp_zero] at h1
      have h2 : lv (u2.take 1) = rd u2 ((0 : Nat) : Int) := by
        have : lv (u2.take (0 + 1)) = 0 + ((1 : Nat) : Int) * rd u2 ((0 : Nat) : Int) := h1
        rw [show u2.take 1 = u2.take (0 + 1) from rfl, this]; omega
      have hPP : (2 : Int) ^ m * (2 : Int) ^ (32 - m) = 4294967296 := by
        rw [← Int.pow_add, show m + (32 - m) = 32 by omega]; rfl
      rw [h2, show (bp 1 : Int) = 4294967296 by rw [show bp 1 = bp (0 + 1) from rfl, bp_succ, bp_zero]; rfl, ← hPP, hrP] at hsp
      have : rd u2 ((0 : Nat) : Int) = (r - (2 : Int) ^ (32 - m) * lv (u2.drop 1)) * (2 : Int) ^ m := by
        generalize (2 : Int) ^ m = P at *
        grind
      rw [this]
      exact Int.mul_emod_left _ _
    have c5 : ¬ ((-1 : Int) ≥ 0) := by omega
    have c6 : n + 1 ≤ 70368744177664 := by omega
    refine Rz.succ ?_
    rw [hVl]
    simp only [nat_long.l0, if_neg c5, if_pos (show (0 : Int) ≤ ((n + 1 : Nat) : Int) from Int.natCast_nonneg _), Int.toNat_natCast, if_pos c6, Option.bind_some, List.length_replicate]
    obtain ⟨⟨q3, r3⟩, h31, h32, h33, h34, h35⟩ := rem_loop (u := u2) (quo := quo) (m := m) (n := n + 1) hu2m (by omega) (by omega) hm32 (n + 1) 0 (List.replicate (n + 1) 0) (by omega) (List.length_replicate) (lm_rep _) (fun j _ => rd_rep _ j) ⟨by
      rw [lv_rep, List.take_zero, lv_nil, bp_zero]
      show 0 * _ = 0 - _ + 1 * _
      omega⟩
    refine ⟨(q3, r3), h31, ?_⟩
    simp only at h32 h33 h34 h35
    rw [hz1.1, hz1.2, hc0, hrP] at h35
    have hr3 : lv r3 = r := by
      have h36 : (2 : Int) ^ m * lv r3 = (2 : Int) ^ m * r := by
        rw [Int.zero_emod, Int.mul_zero] at h35
        rw [Int.mul_comm, h35, Int.mul_comm r]; omega
      exact Int.eq_of_mul_eq_mul_left (by omega) h36
    refine ⟨?_, h33, ?_, ?_, ?_, ?_⟩
    · show Lm q3
      rw [h32]; exact hqm
    · show lv q3 = _
      rw [h32, ← hqr.1, Int.natCast_ediv]
    · show lv r3 = _
      rw [hr3, ← hqr.2, Int.natCast_emod]
    · show q3.length ≤ _
      rw [h32, hql]; omega
    · show r3.length ≤ _
      rw [h34]; omega
  ·
    rw [huv, hVv, hV, Int.natCast_mul, hp2]
    have h1 : (a : Int) < (bp (u.length - (n + 1)) : Int) * (b : Int) := by
      have h2 := dg_lt_len a
      have h3 : bp (u.length - (n + 1)) * bp n ≤ bp (u.length - (n + 1)) * b := Nat.mul_le_mul_left _ hb1
      rw [← bp_add, show u.length - (n + 1) + n = (dg a).length by omega] at h3
      have h4 : a < bp (u.length - (n + 1)) * b := by omega
      have := Int.ofNat_lt.mpr h4
      rw [Int.natCast_mul] at this
      exact this
    have h5 := Int.mul_lt_mul_of_pos_right h1 hpm
    rw [Int.mul_assoc] at h5
    exact h5
theorem ndivmod_ev {a b : Nat} (hb0 : b ≠ 0) (hla : (dg a).length < 67108864) (hlb : (dg b).length < 67108864) : Ev (fun k => nat_DivMod.f k (dg a) (dg b)) (dg (a / b), dg (a % b), 0) := by
  by_cases hb1 : b < 4294967296
  · exact ndivmod1_ev hb0 hb1 (by omega)
  have hb2 : 2 ≤ (dg b).length := by
    by_cases g : (dg b).length ≤ 1
    · exfalso
      have h2 := dg_lt_len b
      have h3 := bp_mono g
      rw [show bp 1 = bp (0 + 1) from rfl, bp_succ, bp_zero] at h3
      omega
    · omega
  simp only [nat_DivMod.f]
  refine Ev.bind (short2_ev (by omega)) ?_
  refine Ev.bind (short2_ev (by omega)) ?_
  simp only [if_neg (show ¬ ((dg b).length : Int) = 0 by omega)]
  refine Ev.bind (ncmp_ev (by omega) (by omega)) ?_
  by_cases h : a < b
  · have hc : cmpZ (a : Int) (b : Int) < 0 := by unfold cmpZ; rw [if_pos (by omega)]; omega
    simp only [if_pos hc]
    refine Ev.bind (trim2_ev (by omega)) ?_
    rw [Nat.div_eq_of_lt h, Nat.mod_eq_of_lt h, dg_zero]
    exact Ev.some _
  · have hc : ¬ cmpZ (a : Int) (b : Int) < 0 := by unfold cmpZ; rw [if_neg (by omega)]; split <;> omega
    simp only [if_neg hc, if_neg (show ¬ ((dg b).length : Int) = 1 by omega)]
    obtain ⟨⟨q, r⟩, hev, hq, hr, hqv, hrv, hql, hrl⟩ := nlong_ev hb2 (by omega) hla
    simp only at hq hr hqv hrv hql hrl
    refine Ev.bind hev ?_
    refine Ev.bind (trim_ev hq (by simp only; omega)) ?_
    refine Ev.bind (trim_ev hr (by simp only; omega)) ?_
    simp only [hqv, hrv, Int.toNat_natCast]
    exact Ev.some _
theorem sg_len {b : Bool} {n : Nat} {z : Int} (h : sg b n = z) : n = z.natAbs := by rw [← h, sg_abs]
theorem nplus_ev {b1 b2 : Bool} {n1 n2 : Nat} (h1 : (dg n1).length < 134217728) (h2 : (dg n2).length < 134217728) :
    ∃ b n, Ev (fun k => mw_plus.f k b1 (dg n1) b2 (dg n2)) (b, dg n) ∧ sg b n = sg b1 n1 + sg b2 n2 := by
  by_cases hs : (b1 == b2) = true
  · refine ⟨b1, n1 + n2, ?_, ?_⟩
    · simp only [mw_plus.f, hs, if_true]
      refine Ev.bind (add2_ev (by omega) (by omega)) ?_
      exact Ev.some _
    · have e : b1 = b2 := by simpa using hs
      subst e
      unfold sg
      cases b1 <;> simp <;> omega
  · have hne : b1 ≠ b2 := by intro e; exact hs (by simp [e])
    by_cases hlt : n1 < n2
    · refine ⟨b2, n2 - n1, ?_, ?_⟩
      · have hc : cmpZ (n1 : Int) (n2 : Int) < 0 := by unfold cmpZ; rw [if_pos (by omega)]; omega
        simp only [mw_plus.f, hs, Bool.false_eq_true, if_false]
        refine Ev.bind (ncmp_ev (by omega) (by omega)) ?_
        simp only [if_pos hc]
        refine Ev.bind (nsub_ev (by omega) (by omega)) ?_
        exact Ev.some _
      · unfold sg
        cases b1 <;> cases b2 <;> simp at hne ⊢ <;> omega
    · refine ⟨b1, n1 - n2, ?_, ?_⟩
      · have hc : ¬ cmpZ (n1 : Int) (n2 : Int) < 0 := by unfold cmpZ; rw [if_neg (by omega)]; split <;> omega
        simp only [mw_plus.f, hs, Bool.false_eq_true, if_false]
        refine Ev.bind (ncmp_ev (by omega) (by omega)) ?_
        simp only [if_neg hc]
        refine Ev.bind (nsub_ev (by omega) (by omega)) ?_
        exact Ev.some _
      · unfold sg
        cases b1 <;> cases b2 <;> simp at hne ⊢ <;> omega
theorem sg_not (b : Bool) (n : Nat) : sg (!b) n = - sg b n := by unfold sg; cases b <;> simp
theorem nminus_ev {b1 b2 : Bool} {n1 n2 : Nat} (h1 : (dg n1).length < 134217728) (h2 : (dg n2).length < 134217728) :
    ∃ b n, Ev (fun k => mw_minus.f k b1 (dg n1) b2 (dg n2)) (b, dg n) ∧ sg b n = sg b1 n1 - sg b2 n2 := by
  obtain ⟨b, n, h, e⟩ := nplus_ev (b1 := b1) (b2 := !b2) h1 h2
  refine ⟨b, n, ?_, ?_⟩
  · simp only [mw_minus.f]
    refine Ev.bind h ?_
    exact Ev.some _
  · rw [e, sg_not]; omega
theorem ntimes_ev {b1 b2 : Bool} {n1 n2 : Nat} (h1 : (dg n1).length < 134217728) (h2 : (dg n2).length < 134217728) :
    ∃ b n, Ev (fun k => mw_times.f k b1 (dg n1) b2 (dg n2)) (b, dg n) ∧ sg b n = sg b1 n1 * sg b2 n2 := by
  refine ⟨b1 != b2, n1 * n2, ?_, ?_⟩
  · simp only [mw_times.f]
    refine Ev.bind (mul2_ev h1 h2) ?_
    exact Ev.some _
  · unfold sg
    cases b1 <;> cases b2 <;> simp [Int.neg_mul, Int.mul_neg]
theorem sm_abs {M : Nat} {f : Nat → Int} : ∀ n : Nat, (∀ i, i < n → (f i).natAbs ≤ M) → (sm n f).natAbs ≤ n * M := by
  intro n
  induction n with
  | zero => intro _; simp [sm]
  | succ n ih =>
    intro h
    have h1 := ih (fun i hi => h i (by omega))
    have h2 := h n (by omega)
    rw [sm, Nat.succ_mul]
    have := Int.natAbs_add_le (sm n f) (f n)
    omega
theorem kr_len {g a b k : Nat} (hg : g < 4294967296) (ha : a ≤ 64) (hb : b ≤ 64) (hk : k ≤ 64) : (dg (kr (g : Int) a b k).natAbs).length ≤ 324 := by
  rw [kr_formula]
  have hgl : (dg g).length ≤ 1 := dg_len_le (by rw [show (1 : Nat) = 0 + 1 from rfl, bp_succ, bp_zero]; omega)
  have hterm : ∀ j, j < k + 1 → ((-1 : Int) ^ j * ((g : Int) ^ (k - j) * ((bin b j : Int) * (bin a (k - j) : Int)))).natAbs ≤ bp 323 := by
    intro j hj
    have h1 : (dg (g ^ (k - j))).length ≤ 65 := by have := pow_len g (k - j) 1 hgl; omega
    have h2 := bin_len (n := b) (by omega) j
    have h3 := bin_len (n := a) (by omega) (k - j)
    have e : ((-1 : Int) ^ j * ((g : Int) ^ (k - j) * ((bin b j : Int) * (bin a (k - j) : Int)))).natAbs = g ^ (k - j) * (bin b j * bin a (k - j)) := by
      rw [Int.natAbs_mul, Int.natAbs_pow, Int.natAbs_mul, Int.natAbs_pow, Int.natAbs_mul]
      simp
    rw [e]
    have h4 := mul_len (bin b j) (bin a (k - j))
    have h5 := mul_len (g ^ (k - j)) (bin b j * bin a (k - j))
    exact Nat.le_of_lt (Nat.lt_of_lt_of_le (dg_lt_len _) (bp_mono (by omega)))
  have h := sm_abs (k + 1) hterm
  unfold krF
  refine dg_len_le ?_
  refine Nat.lt_of_le_of_lt h ?_
  rw [show 324 = 323 + 1 from rfl, bp_succ 323]
  have hp := bp_pos 323
  have : (k + 1) * bp 323 ≤ 65 * bp 323 := Nat.mul_le_mul_right _ (by omega)
  generalize bp 323 = p at *
  omega
def Num (e : S113) (z : Int) : Prop := ∃ b n, e = ⟨b, dg n⟩ ∧ sg b n = z
structure PRow (g n x m : Nat) (row : List S113) : Prop where
  len : row.length = m
  at' : ∀ k, k < m → Num (rd_T113 row (k : Int)) (kr (g : Int) (n - x) x k)
theorem rdT_app_lt {l m : List S113} {k : Nat} (h : k < l.length) : rd_T113 (l ++ m) (k : Int) = rd_T113 l (k : Int) := by
  unfold rd_T113
  simp [List.getD_eq_getElem?_getD, List.getElem?_append_left h]
theorem rdT_app_eq {l : List S113} {e : S113} {k : Nat} (h : k = l.length) : rd_T113 (l ++ [e]) (k : Int) = e := by
  subst h
  unfold rd_T113
  simp [List.getD_eq_getElem?_getD]
theorem rdL_app_lt {l m : List (List S113)} {k : Nat} (h : k < l.length) : rd_L6 (l ++ m) (k : Int) = rd_L6 l (k : Int) := by
  unfold rd_L6
  simp [List.getD_eq_getElem?_getD, List.getElem?_append_left h]
theorem rdL_app_eq {l : List (List S113)} {e : List S113} {k : Nat} (h : k = l.length) : rd_L6 (l ++ [e]) (k : Int) = e := by
  subst h
  unfold rd_L6
  simp [List.getD_eq_getElem?_getD]
theorem rdT_set_eq {l : List S113} {e : S113} {i : Nat} (h : i < l.length) : rd_T113 (l.set i e) (i : Int) = e := by
  unfold rd_T113
  simp [List.getD_eq_getElem?_getD, h]
theorem rdT_set_ne {l : List S113} {e : S113} {i j : Nat} (h : i ≠ j) : rd_T113 (l.set i e) (j : Int) = rd_T113 l (j : Int) := by
  unfold rd_T113
  simp [List.getD_eq_getElem?_getD, h]
theorem row_loop {g n x : Nat} (hg : g < 256) (hn : n ≤ 64) (hx : x < n) {rows : List (List S113)} {old : List S113} {T : List (List S113) → Prop} (hrl : rows.length ≤ 65) (hold : PRow g n x (n + 1) old)
    (next : ∀ row, PRow g n (x + 1) (n + 1) row → ∃ t, Ev (fun k => mw_table.l1 k (n : Int) (rows ++ [row]) (n : Int) ((x + 1 : Nat) : Int) false (dg g)) t ∧ T t) :
    ∀ (d k : Nat) (row : List S113), k + 1 + d = n + 1 → PRow g n (x + 1) (k + 1) row →
      ∃ t, Ev (fun kk => mw_table.l2 kk (n : Int) rows old row ((k + 1 : Nat) : Int) (n : Int) (x : Int) false (dg g)) t ∧ T t := by
  intro d
  induction d with
  | zero =>
    intro k row hk hrow
    have hk : k = n := by omega
    subst hk
    obtain ⟨t, ht, hT⟩ := next row hrow
    refine ⟨t, Ev.succ ?_, hT⟩
    simp only [mw_table.l2, if_neg (show ¬ ((k + 1 : Nat) : Int) ≤ (k : Int) by omega), if_pos (show rows.length < 5864062014805 by omega), wn (show (x : Int) + 1 = ((x + 1 : Nat) : Int) by omega) (by omega)]
    exact ht
  | succ d ih =>
    intro k row hk hrow
    have hol := hold.len
    have hrl2 := hrow.len
    obtain ⟨b1, n1, e1, s1⟩ := hold.at' (k + 1) (by omega)
    obtain ⟨b2, n2, e2, s2⟩ := hold.at' k (by omega)
    obtain ⟨b3, n3, e3, s3⟩ := hrow.at' k (by omega)
    have l1 : (dg n1).length ≤ 324 := by rw [sg_len s1]; exact kr_len (by omega) (by omega) (by omega) (by omega)
    have l2 : (dg n2).length ≤ 324 := by rw [sg_len s2]; exact kr_len (by omega) (by omega) (by omega) (by omega)
    have l3 : (dg n3).length ≤ 324 := by rw [sg_len s3]; exact kr_len (by omega) (by omega) (by omega) (by omega)
    have lg : (dg g).length ≤ 1 := dg_len_le (by rw [show (1 : Nat) = 0 + 1 from rfl, bp_succ, bp_zero]; omega)
    obtain ⟨b4, n4, v4, s4⟩ := nminus_ev (b1 := b1) (b2 := b2) (n1 := n1) (n2 := n2) (by omega) (by omega)
    have l4 : (dg n4).length ≤ 326 := by
      refine dg_len_le ?_
      rw [sg_len s4]
      have t := Int.natAbs_sub_le (sg b1 n1) (sg b2 n2)
      rw [sg_abs, sg_abs] at t
      have q1 := Nat.lt_of_lt_of_le (dg_lt_len n1) (bp_mono l1)
      have q2 := Nat.lt_of_lt_of_le (dg_lt_len n2) (bp_mono l2)
      rw [show 326 = 324 + 1 + 1 from rfl, bp_succ, bp_succ]
      generalize bp 324 = p at *
      omega
    obtain ⟨b5, n5, v5, s5⟩ := ntimes_ev (b1 := false) (b2 := b3) (n1 := g) (n2 := n3) (by omega) (by omega)
    have l5 : (dg n5).length ≤ 326 := by
      have t : n5 = g * n3 := by rw [sg_len s5, Int.natAbs_mul, sg_abs, sg_abs]
      have := mul_len g n3
      rw [t]
      omega
    obtain ⟨b6, n6, v6, s6⟩ := nminus_ev (b1 := b4) (b2 := b5) (n1 := n4) (n2 := n5) (by omega) (by omega)
    have hval : sg b6 n6 = kr (g : Int) (n - (x + 1)) (x + 1) (k + 1) := by
      rw [s6, s4, s5, s1, s2, s3]
      have hr := kr_row (g : Int) (n - (x + 1)) x k
      rw [show n - (x + 1) + 1 = n - x by omega] at hr
      rw [hr]
      rfl
    have hnew : PRow g n (x + 1) (k + 1 + 1) (row ++ [⟨b6, dg n6⟩]) := by
      refine ⟨by rw [List.length_append, hrl2]; rfl, fun j hj => ?_⟩
      by_cases hjk : j < k + 1
      · rw [rdT_app_lt (by omega)]; exact hrow.at' j hjk
      · have hj2 : j = k + 1 := by omega
        subst hj2
        rw [rdT_app_eq hrl2.symm]
        exact ⟨b6, n6, rfl, hval⟩
    obtain ⟨t, ht, hT⟩ := ih (k + 1) _ (by omega) hnew
    refine ⟨t, Ev.succ ?_, hT⟩
    simp only [mw_table.l2, wn (show ((k + 1 : Nat) : Int) - 1 = (k : Int) by omega) (by omega), wn (show ((k + 1 : Nat) : Int) + 1 = ((k + 1 + 1 : Nat) : Int) by omega) (by omega), if_pos (show ((k + 1 : Nat) : Int) ≤ (n : Int) by omega), if_pos (show (0 : Int) ≤ ((k + 1 : Nat) : Int) by omega), if_pos (show ((k + 1 : Nat) : Int) < (old.length : Int) by omega), if_pos (show (0 : Int) ≤ (k : Int) by omega), if_pos (show (k : Int) < (old.length : Int) by omega), if_pos (show (k : Int) < (row.length : Int) by omega), if_pos (show row.length < 4398046511104 by omega), e1, e2, e3]
    refine Ev.bind v4 ?_
    refine Ev.bind v5 ?_
    refine Ev.bind v6 ?_
    exact ht
structure Tab (g n m : Nat) (t : List (List S113)) : Prop where
  len : t.length = m
  at' : ∀ x, x < m → PRow g n x (n + 1) (rd_L6 t (x : Int))
theorem rows_loop {g n : Nat} (hg : g < 256) (hn : n ≤ 64) : ∀ (d x : Nat) (rows : List (List S113)), x + d = n → Tab g n (x + 1) rows →
    ∃ t, Ev (fun k => mw_table.l1 k (n : Int) rows (n : Int) (x : Int) false (dg g)) t ∧ Tab g n (n + 1) t := by
  intro d
  induction d with
  | zero =>
    intro x rows hx ht
    have hx : x = n := by omega
    subst hx
    refine ⟨rows, Ev.succ ?_, ht⟩
    simp only [mw_table.l1, if_neg (show ¬ (x : Int) < (x : Int) by omega)]
    exact Ev.some _
  | succ d ih =>
    intro x rows hx ht
    have hl := ht.len
    have hold := ht.at' x (by omega)
    obtain ⟨b0, n0, e0, s0⟩ := hold.at' 0 (by omega)
    have hol := hold.len
    have hfirst : PRow g n (x + 1) (0 + 1) [⟨b0, dg n0⟩] := by
      refine ⟨rfl, fun k hk => ?_⟩
      have hk : k = 0 := by omega
      subst hk
      refine ⟨b0, n0, rfl, ?_⟩
      rw [s0, kr_zero, kr_zero]
    obtain ⟨t, hev, hT⟩ := row_loop hg hn (show x < n by omega) (rows := rows) (T := Tab g n (n + 1)) (by omega) hold (fun row hrow => ih (x + 1) (rows ++ [row]) (by omega) ⟨by rw [List.length_append, hl]; rfl, fun y hy => by
      by_cases hyx : y < x + 1
      · rw [rdL_app_lt (by omega)]; exact ht.at' y hyx
      · have : y = x + 1 := by omega
        subst this
        rw [rdL_app_eq hl.symm]; exact hrow⟩) n 0 _ (by omega) hfirst
    refine ⟨t, Ev.succ ?_, hT⟩
    have e0' : rd_T113 (rd_L6 rows (x : Int)) 0 = ⟨b0, dg n0⟩ := e0
    simp only [mw_table.l1, if_pos (show (x : Int) < (n : Int) by omega), wn (show (rows.length : Int) - 1 = (x : Int) by omega) (by omega), if_pos (show (0 : Int) ≤ (x : Int) by omega), if_pos (show (x : Int) < (rows.length : Int) by omega), if_pos (show (0 : Int) < ((rd_L6 rows (x : Int)).length : Int) by omega), e0']
    exact hev
theorem first_loop {q n : Nat} (hq : 2 ≤ q) (hq2 : q ≤ 256) (hn : n ≤ 64) : ∀ (d i : Nat) (row : List S113), i + d = n + 1 → row.length = n + 1 → (∀ k, k < i → Num (rd_T113 row (k : Int)) (kr ((q - 1 : Nat) : Int) n 0 k)) →
    ∃ t, Ev (fun k => mw_table.l0 k (q : Int) (n : Int) row ((n + 1 : Nat) : Int) (i : Int)) t ∧ Tab (q - 1) n (n + 1) t := by
  intro d
  have hw : wrap64 ((q : Int) - 1) = ((q - 1 : Nat) : Int) := wn (by omega) (by omega)
  have hu : IntKind.u64.wrap ((q - 1 : Nat) : Int) = ((q - 1 : Nat) : Int) := u64w (by clear hw; omega) (by clear hw; omega)
  have hw := Aside0.mk hw
  have hu := Aside0.mk hu
  induction d with
  | zero =>
    intro i row hi hrl hrow
    have hi : i = n + 1 := by omega
    subst hi
    obtain ⟨t, ht, hT⟩ := rows_loop (g := q - 1) (n := n) (by omega) hn n 0 [row] (by omega) ⟨rfl, fun x hx => by
      have : x = 0 := by omega
      subst this
      exact ⟨hrl, fun k hk => hrow k hk⟩⟩
    refine ⟨t, Ev.succ ?_, hT⟩
    simp only [mw_table.l0, if_neg (show ¬ ((n + 1 : Nat) : Int) < ((n + 1 : Nat) : Int) by omega), mw_small.f, hw.out, hu.out]
    refine Ev.bind (Ev.bind (of_ev (by omega)) (Ev.some _)) ?_
    exact ht
  | succ d ih =>
    intro i row hi hrl hrow
    have hlb := bin_len (n := n) (by omega) i
    have hgl : (dg (q - 1)).length ≤ 1 := dg_len_le (by rw [show (1 : Nat) = 0 + 1 from rfl, bp_succ, bp_zero]; omega)
    have hlp := pow_len (q - 1) i 1 hgl
    obtain ⟨t, ht, hT⟩ := ih (i + 1) (row.set i ⟨false, dg (bin n i * (q - 1) ^ i)⟩) (by omega) (by rw [List.length_set]; exact hrl) (fun k hk => by
      by_cases e : k = i
      · subst e
        rw [rdT_set_eq (by omega)]
        refine ⟨false, _, rfl, ?_⟩
        rw [kr_first]
        unfold sg
        simp [Int.natCast_mul, Int.natCast_pow]
      · rw [rdT_set_ne (by omega)]; exact hrow k (by omega))
    refine ⟨t, Ev.succ ?_, hT⟩
    simp only [mw_table.l0, if_pos (show (i : Int) < ((n + 1 : Nat) : Int) by omega), hw.out, hu.out, if_pos (show (0 : Int) ≤ (i : Int) by omega), if_pos (show (i : Int) < (row.length : Int) by omega), wn (show (i : Int) + 1 = ((i + 1 : Nat) : Int) by omega) (by omega), Int.toNat_natCast]
    refine Ev.bind (binomial_ev (by omega) (by omega)) ?_
    refine Ev.bind (of_ev (by omega)) ?_
    refine Ev.bind (pow_ev (by omega) (by omega)) ?_
    refine Ev.bind (mul2_ev (by omega) (by omega)) ?_
    exact ht
theorem table_ev {q n : Nat} (hq : 2 ≤ q) (hq2 : q ≤ 256) (hn : n ≤ 64) : ∃ t, Ev (fun k => mw_table.f k (q : Int) (n : Int)) t ∧ Tab (q - 1) n (n + 1) t := by
  obtain ⟨t, ht, hT⟩ := first_loop hq hq2 hn (n + 1) 0 (List.replicate (n + 1) z113) (by omega) (by simp) (fun k hk => by omega)
  refine ⟨t, ?_, hT⟩
  simp only [mw_table.f, wn (show (n : Int) + 1 = ((n + 1 : Nat) : Int) by omega) (by omega), Int.toNat_natCast, if_pos (show (0 : Int) ≤ ((n + 1 : Nat) : Int) by omega), if_pos (show n + 1 ≤ 8796093022208 by omega), Option.bind_some, List.length_replicate]
  exact ht
theorem mulq_len {x y : Int} {m n : Nat} (hx : (dg x.natAbs).length ≤ m) (hy : (dg y.natAbs).length ≤ n) : (dg (x * y).natAbs).length ≤ m + n := by
  rw [Int.natAbs_mul]
  have := mul_len x.natAbs y.natAbs
  omega
theorem nat_len {m n : Nat} (h : (dg n).length ≤ m) : (dg ((n : Nat) : Int).natAbs).length ≤ m := by rw [Int.natAbs_natCast]; exact h
theorem sm_len {M m : Nat} {f : Nat → Int} (hm : m ≤ 4096) (h : ∀ i, i < m → (dg (f i).natAbs).length ≤ M) : (dg (sm m f).natAbs).length ≤ M + 1 := by
  have h1 : (sm m f).natAbs ≤ m * bp M := sm_abs m (fun i hi => Nat.le_of_lt (Nat.lt_of_lt_of_le (dg_lt_len _) (bp_mono (h i hi))))
  refine dg_len_le ?_
  rw [bp_succ M]
  have hp := bp_pos M
  have : m * bp M ≤ 4096 * bp M := Nat.mul_le_mul_right _ hm
  generalize bp M = p at *
  omega
def An (l : List (List Int)) (i : Nat) : Nat := (lv (rd_L3 l (i : Int))).toNat
def tT (g : Nat) (l : List (List Int)) (j i : Nat) : Int := (An l i : Int) * kr (g : Int) (l.length - 1 - i) i j
def tS (g : Nat) (l : List (List Int)) (j : Nat) : Int := sm l.length (tT g l j)
theorem An_len {l : List (List Int)} (h : Wl l) {i : Nat} (hi : i < l.length) : (dg (An l i)).length ≤ 20 := dg_len_le (lv_le_of_len (h.at hi).1 (h.at hi).2)
theorem tT_len {g : Nat} {l : List (List Int)} (h : Wl l) (hg : g < 4294967296) {j i : Nat} (hi : i < l.length) (hj : j < l.length) : (dg (tT g l j i).natAbs).length ≤ 344 := by
  have f := h.few
  have := mulq_len (nat_len (An_len h hi)) (kr_len (g := g) (a := l.length - 1 - i) (b := i) (k := j) hg (by omega) (by omega) (by omega))
  unfold tT; omega
theorem tS_len {g : Nat} {l : List (List Int)} (h : Wl l) (hg : g < 4294967296) {j m : Nat} (hm : m ≤ l.length) (hj : j < l.length) : (dg (sm m (tT g l j)).natAbs).length ≤ 345 :=
  sm_len (by have := h.few; omega) (fun i hi => tT_len h hg (by omega) hj)
theorem num_zero : Num z113 0 := ⟨false, 0, by rw [dg_zero]; rfl, by simp [sg]⟩
def Whl (l : List (List Int)) (w : List S113) : Prop := w.length = l.length ∧ ∀ i, i < l.length → rd_T113 w (i : Int) = ⟨false, dg (An l i)⟩
structure Out (g : Nat) (l : List (List Int)) (j m : Nat) (o : List S113) : Prop where
  len : o.length = l.length
  below : ∀ j', j' < j → Num (rd_T113 o (j' : Int)) (tS g l j')
  here : j < l.length → Num (rd_T113 o (j : Int)) (sm m (tT g l j))
  above : ∀ j', j < j' → j' < l.length → Num (rd_T113 o (j' : Int)) 0
theorem sums_loop {g : Nat} {l : List (List Int)} {w : List S113} {t : List (List S113)} (hl : Wl l) (hg : g < 256) (hw : Whl l w) (ht : Tab g (l.length - 1) l.length t) : ∀ (d j : Nat), j + d = l.length → ∀ (o : List S113), Out g l j 0 o →
    Rz (fun o => o.length = l.length ∧ ∀ j, j < l.length → Num (rd_T113 o (j : Int)) (tS g l j)) (fun k => mw_sums.l0 k w t o (l.length : Int) (j : Int)) := by
  intro d
  have few := hl.few
  have hwl := hw.1
  induction d with
  | zero =>
    intro j hj o ho
    have hj : j = l.length := by omega
    subst hj
    refine Rz.succ ?_
    simp only [mw_sums.l0, if_neg (show ¬ (l.length : Int) < (l.length : Int) from Int.lt_irrefl _)]
    exact Rz.some ⟨ho.len, ho.below⟩
  | succ d ih =>
    intro j hj o ho
    have hjl : j < l.length := by omega
    refine Rz.succ ?_
    simp only [mw_sums.l0, if_pos (show (j : Int) < (l.length : Int) by omega)]
    rw [hwl]
    have inner : ∀ (d2 i : Nat), i + d2 = l.length → ∀ (o : List S113), Out g l j i o → Rz (fun o => o.length = l.length ∧ ∀ j, j < l.length → Num (rd_T113 o (j : Int)) (tS g l j)) (fun k => mw_sums.l1 k w t o (j : Int) (l.length : Int) (j : Int) w (l.length : Int) (i : Int)) := by
      intro d2
      induction d2 with
      | zero =>
        intro i hi o ho
        have hi : i = l.length := by omega
        subst hi
        refine Rz.succ ?_
        simp only [mw_sums.l1, if_neg (show ¬ (l.length : Int) < (l.length : Int) from Int.lt_irrefl _), wn (show (j : Int) + 1 = ((j + 1 : Nat) : Int) by omega) (by omega)]
        refine ih (j + 1) (by omega) o ⟨ho.len, fun j' hj' => ?_, fun hlt => ?_, fun j' h1 h2 => ho.above j' (by omega) h2⟩
        · by_cases e : j' = j
          · subst e; exact ho.here hjl
          · exact ho.below j' (by omega)
        · exact ho.above (j + 1) (by omega) hlt
      | succ d2 ih2 =>
        intro i hi o ho
        have hil : i < l.length := by omega
        have ew := hw.2 i hil
        have hol := ho.len
        have hrow := ht.at' i hil
        have hrl := hrow.len
        have htl := ht.len
        have ea := An_len hl hil
        refine Rz.succ ?_
        simp only [mw_sums.l1, if_pos (show (i : Int) < (l.length : Int) by omega), if_pos (show (0 : Int) ≤ (i : Int) from Int.natCast_nonneg _), if_pos (show (i : Int) < (w.length : Int) by omega), ew, wn (show (i : Int) + 1 = ((i + 1 : Nat) : Int) by omega) (by omega)]
        by_cases h0 : An l i = 0
        · have hz : ¬ ((dg (An l i)).length : Int) > 0 := by rw [h0, dg_zero]; simp
          simp only [if_neg hz]
          refine ih2 (i + 1) (by omega) o ⟨ho.len, ho.below, fun h => ?_, ho.above⟩
          have := ho.here h
          have e : sm (i + 1) (tT g l j) = sm i (tT g l j) := by
            rw [sm]
            have : tT g l j i = 0 := by unfold tT; rw [h0]; simp
            omega
          rw [e]; exact this
        · have hnz : ((dg (An l i)).length : Int) > 0 := by
            have : (dg (An l i)).length ≠ 0 := by rw [Ne, dg_len_zero]; exact h0
            omega
          obtain ⟨b2, n2, e2, s2⟩ := hrow.at' j (by omega)
          obtain ⟨b1, n1, e1, s1⟩ := ho.here hjl
          have l2 : (dg n2).length ≤ 324 := by rw [sg_len s2]; exact kr_len (by omega) (by omega) (by omega) (by omega)
          have l1 : (dg n1).length ≤ 345 := by rw [sg_len s1]; exact tS_len hl (by omega) (by omega) hjl
          obtain ⟨b3, n3, v3, s3⟩ := ntimes_ev (b1 := false) (b2 := b2) (n1 := An l i) (n2 := n2) (by omega) (by omega)
          have l3 : (dg n3).length ≤ 344 := by
            have t : n3 = An l i * n2 := by rw [sg_len s3, Int.natAbs_mul, sg_abs, sg_abs]
            have := mul_len (An l i) n2
            rw [t]; omega
          obtain ⟨b4, n4, v4, s4⟩ := nplus_ev (b1 := b1) (b2 := b3) (n1 := n1) (n2 := n3) (by omega) (by omega)
          simp only [if_pos hnz, if_pos (show (0 : Int) ≤ (j : Int) from Int.natCast_nonneg _), if_pos (show (j : Int) < (o.length : Int) by omega), if_pos (show (i : Int) < (t.length : Int) by omega), if_pos (show (j : Int) < ((rd_L6 t (i : Int)).length : Int) by omega), e1, e2, Int.toNat_natCast]
          refine Rz.bind v3 ?_
          refine Rz.bind v4 ?_
          refine ih2 (i + 1) (by omega) _ ⟨by rw [List.length_set]; exact hol, fun j' hj' => ?_, fun _ => ?_, fun j' h1 h2 => ?_⟩
          · rw [rdT_set_ne (by omega)]; exact ho.below j' hj'
          · rw [rdT_set_eq (by omega)]
            refine ⟨b4, n4, rfl, ?_⟩
            rw [s4, s3, s1, s2, sm]
            rfl
          · rw [rdT_set_ne (by omega)]; exact ho.above j' h1 h2
    exact inner l.length 0 (by omega) o ho
theorem sums_ev {q : Nat} {l : List (List Int)} {w : List S113} (hl : Wl l) (h1 : 1 ≤ l.length) (hq : 2 ≤ q) (hq2 : q ≤ 256) (hw : Whl l w) :
    Rz (fun o => o.length = l.length ∧ ∀ j, j < l.length → Num (rd_T113 o (j : Int)) (tS (q - 1) l j)) (fun k => mw_sums.f k (q : Int) w) := by
  have few := hl.few
  obtain ⟨t, ht, hT⟩ := table_ev (q := q) (n := l.length - 1) hq hq2 (by omega)
  rw [show l.length - 1 + 1 = l.length by omega] at hT
  simp only [mw_sums.f, hw.1, wn (show (l.length : Int) - 1 = ((l.length - 1 : Nat) : Int) by omega) (by omega)]
  refine Rz.bind ht ?_
  simp only [if_pos (show (0 : Int) ≤ (l.length : Int) from Int.natCast_nonneg _), Int.toNat_natCast, if_pos (show l.length ≤ 8796093022208 by omega), Option.bind_some, List.length_replicate]
  have hz : ∀ j : Nat, Num (rd_T113 (List.replicate l.length z113) (j : Int)) 0 := by
    intro j
    have : rd_T113 (List.replicate l.length z113) (j : Int) = z113 := by
      unfold rd_T113
      simp only [Int.toNat_natCast, List.getD_eq_getElem?_getD]
      by_cases h : j < l.length
      · simp [h]
      · rw [List.getElem?_eq_none (by simp; omega)]; rfl
    rw [this]; exact num_zero
  exact sums_loop hl (by omega) hw hT l.length 0 (by omega) _ ⟨List.length_replicate, fun j' h => by omega, fun _ => hz 0, fun j' _ _ => hz j'⟩
def Good (T : Nat) (z : Int) : Prop := 0 ≤ z ∧ z % (T : Int) = 0
open Classical in
noncomputable def dres (g : Nat) (l : List (List Int)) (T : Nat) : List (List Int) × Int :=
  if ∀ j, j < l.length → Good T (tS g l j) then ((List.range l.length).map (fun j => dg ((tS g l j).toNat / T)), 0) else ([], 5)
theorem dres_good {g T : Nat} {l : List (List Int)} (h : ∀ j, j < l.length → Good T (tS g l j)) : dres g l T = ((List.range l.length).map (fun j => dg ((tS g l j).toNat / T)), 0) := by unfold dres; rw [if_pos h]
theorem dres_bad {g T : Nat} {l : List (List Int)} {j : Nat} (hj : j < l.length) (h : ¬ Good T (tS g l j)) : dres g l T = ([], 5) := by unfold dres; rw [if_neg (fun f => h (f j hj))]
theorem map_range_succ {α : Type} (f : Nat → α) (n : Nat) : (List.range (n + 1)).map f = (List.range n).map f ++ [f n] := by rw [List.range_succ, List.map_append]; rfl
theorem dual_loop {g T : Nat} {l : List (List Int)} {o : List S113} (hl : Wl l) (hg : g < 256) (hT : T ≠ 0) (hTl : (dg T).length ≤ 22) (hol : o.length = l.length) (ho : ∀ j, j < l.length → Num (rd_T113 o (j : Int)) (tS g l j)) : ∀ (d j : Nat), j + d = l.length → (∀ i, i < j → Good T (tS g l i)) →
    Ev (fun k => mw_Dual.l1 k (dg T) ((List.range j).map (fun j => dg ((tS g l j).toNat / T))) o (l.length : Int) (j : Int)) (dres g l T) := by
  intro d
  have few := hl.few
  induction d with
  | zero =>
    intro j hj hgd
    have hj : j = l.length := by omega
    subst hj
    refine Ev.succ ?_
    simp only [mw_Dual.l1, if_neg (show ¬ (l.length : Int) < (l.length : Int) from Int.lt_irrefl _)]
    rw [dres_good hgd]
    exact Ev.some _
  | succ d ih =>
    intro j hj hgd
    have hjl : j < l.length := by omega
    obtain ⟨b, n, e, s⟩ := ho j hjl
    have hn : n = (tS g l j).natAbs := sg_len s
    have hnl : (dg n).length ≤ 345 := by rw [hn]; exact tS_len hl (by omega) (Nat.le_refl _) hjl
    have hrl : ((List.range j).map (fun j => dg ((tS g l j).toNat / T))).length = j := by simp
    refine Ev.succ ?_
    simp only [mw_Dual.l1, if_pos (show (j : Int) < (l.length : Int) by omega), if_pos (show (0 : Int) ≤ (j : Int) from Int.natCast_nonneg _), if_pos (show (j : Int) < (o.length : Int) by omega), e, wn (show (j : Int) + 1 = ((j + 1 : Nat) : Int) by omega) (by omega), hrl, if_pos (show j < 5864062014805 by omega)]
    refine Ev.bind (ndivmod_ev hT (by omega) (by omega)) ?_
    by_cases hm : n % T = 0
    · simp only [hm, dg_zero, List.length_nil, if_neg (show ¬ ((0 : Nat) : Int) > 0 by omega)]
      have go : Good T (tS g l j) → Ev (fun k => mw_Dual.l1 k (dg T) ((List.range j).map (fun j => dg ((tS g l j).toNat / T)) ++ [dg (n / T)]) o (l.length : Int) ((j + 1 : Nat) : Int)) (dres g l T) := by
        intro hgj
        have := ih (j + 1) (by omega) (fun i hi => by
          by_cases e : i = j
          · subst e; exact hgj
          · exact hgd i (by omega))
        rw [map_range_succ] at this
        rw [show n = (tS g l j).toNat by have := hgj.1; omega]
        exact this
      have hdv : 0 ≤ tS g l j → Good T (tS g l j) := by
        intro h0
        refine ⟨h0, ?_⟩
        have : tS g l j = (n : Int) := by omega
        rw [this, ← Int.natCast_emod, hm]; rfl
      by_cases hb : b = true
      · simp only [hb, if_true]
        by_cases h0 : n = 0
        · have hz : ¬ ((dg n).length : Int) > 0 := by rw [h0, dg_zero]; simp
          simp only [if_neg hz]
          exact go (hdv (by omega))
        · have hz : ((dg n).length : Int) > 0 := by
            have : (dg n).length ≠ 0 := by rw [Ne, dg_len_zero]; exact h0
            omega
          simp only [if_pos hz]
          rw [dres_bad hjl (fun hgj => by
            have h1 := hgj.1
            rw [hb] at s
            unfold sg at s
            simp at s
            omega)]
          exact Ev.some _
      · simp only [if_neg hb]
        exact go (hdv (by
          have hb : b = false := by simpa using hb
          rw [hb] at s
          unfold sg at s
          simp at s
          omega))
    · have hz : ((dg (n % T)).length : Int) > 0 := by
        have : (dg (n % T)).length ≠ 0 := by rw [Ne, dg_len_zero]; exact hm
        omega
      simp only [if_pos hz]
      rw [dres_bad hjl (fun hgj => by
        have h1 := hgj.1
        have h2 := hgj.2
        have : tS g l j = (n : Int) := by omega
        rw [this, ← Int.natCast_emod] at h2
        omega)]
      exact Ev.some _
theorem whole_loop {q T : Nat} {l : List (List Int)} (hl : Wl l) (h1 : 1 ≤ l.length) (hq : 2 ≤ q) (hq2 : q ≤ 256) (hT : T ≠ 0) (hTl : (dg T).length ≤ 22) : ∀ (d i : Nat) (w : List S113), i + d = l.length → w.length = i → (∀ j, j < i → rd_T113 w (j : Int) = ⟨false, dg (An l j)⟩) →
    Ev (fun k => mw_Dual.l0 k (q : Int) (dg T) w l (l.length : Int) (i : Int)) (dres (q - 1) l T) := by
  intro d
  have few := hl.few
  induction d with
  | zero =>
    intro i w hi hwl hw
    have hi : i = l.length := by omega
    subst hi
    obtain ⟨o, hev, hol, ho⟩ := sums_ev (q := q) hl h1 hq hq2 ⟨hwl, hw⟩
    refine Ev.succ ?_
    simp only [mw_Dual.l0, if_neg (show ¬ (l.length : Int) < (l.length : Int) from Int.lt_irrefl _)]
    refine Ev.bind hev ?_
    rw [hol]
    exact dual_loop hl (by omega) hT hTl hol ho l.length 0 (by omega) (fun i hi => by omega)
  | succ d ih =>
    intro i w hi hwl hw
    have hil : i < l.length := by omega
    have hx := hl.at hil
    refine Ev.succ ?_
    simp only [mw_Dual.l0, if_pos (show (i : Int) < (l.length : Int) by omega), if_pos (show (0 : Int) ≤ (i : Int) from Int.natCast_nonneg _), wn (show (i : Int) + 1 = ((i + 1 : Nat) : Int) by omega) (by omega), if_pos (show w.length < 4398046511104 by omega)]
    refine Ev.bind (trim_ev hx.1 (by omega)) ?_
    refine ih (i + 1) _ (by omega) (by rw [List.length_append, hwl]; rfl) (fun j hj => ?_)
    by_cases e : j = i
    · subst e; rw [rdT_app_eq hwl.symm]; rfl
    · rw [rdT_app_lt (by omega)]; exact hw j (by omega)
theorem wl_lms {l : List (List Int)} (h : Wl l) : Lms l := fun x hx => ⟨h.lm x hx, by have := h.short x hx; omega⟩
theorem lsum_len {l : List (List Int)} (h : Wl l) : ∀ i : Nat, i ≤ l.length → 0 ≤ lsum (l.take i) ∧ lsum (l.take i) ≤ (i * bp 20 : Nat) := by
  intro i
  induction i with
  | zero => intro _; rw [List.take_zero]; simp [lsum]
  | succ i ih =>
    intro hi
    have h1 := ih (by omega)
    have hx := h.at (i := i) (by omega)
    rw [rd3_lt (by omega)] at hx
    have h2 := lv_nonneg hx.1
    have h3 := lv_le_of_len hx.1 hx.2
    rw [lsum_take (by omega), Nat.succ_mul]
    omega
theorem tot_len {l : List (List Int)} (h : Wl l) {i : Nat} (hi : i ≤ l.length) : (dg (lsum (l.take i)).toNat).length ≤ 21 := by
  have h1 := lsum_len h i hi
  have f := h.few
  refine dg_len_le ?_
  rw [show 21 = 20 + 1 from rfl, bp_succ]
  have h2 : i * bp 20 ≤ 65 * bp 20 := Nat.mul_le_mul_right _ (by omega)
  have := bp_pos 20
  generalize bp 20 = p at *
  omega
theorem ndual_ev {q : Nat} {l : List (List Int)} (hl : Wl l) (h1 : 1 ≤ l.length) (hq : 2 ≤ q) (hq2 : q ≤ 256) :
    Ev (fun k => mw_Dual.f k (q : Int) l) (if (lsum l).toNat = 0 then ([], 7) else dres (q - 1) l (lsum l).toNat) := by
  have few := hl.few
  have hsh : mw_wrong.f (q : Int) (l.length : Int) = some 0 := by
    simp only [mw_wrong.f, mw_shape.f, if_neg (show ¬ (q : Int) < 2 by omega), if_neg (show ¬ (q : Int) > 256 by omega), if_neg (show ¬ (l.length : Int) < 1 by omega), if_neg (show ¬ (l.length : Int) > 65 by omega), Option.bind_some]
  simp only [mw_Dual.f, hsh, Option.bind_some, if_true]
  refine Ev.bind (add_ev (wl_lms hl) (by omega)) ?_
  have ht := tot_len hl (Nat.le_refl l.length)
  rw [List.take_of_length_le (Nat.le_refl _)] at ht
  by_cases h0 : (lsum l).toNat = 0
  · have hz : ((dg (lsum l).toNat).length : Int) = 0 := by rw [h0, dg_zero]; rfl
    simp only [if_pos hz, if_pos h0]
    exact Ev.some _
  · have hz : ¬ ((dg (lsum l).toNat).length : Int) = 0 := by
      have : (dg (lsum l).toNat).length ≠ 0 := by rw [Ne, dg_len_zero]; exact h0
      omega
    simp only [if_neg hz, if_neg h0]
    exact whole_loop hl h1 hq hq2 h0 (by omega) l.length 0 [] (by omega) rfl (fun j hj => by omega)
end Mw
end
section
set_option linter.unusedVariables false
set_option linter.unusedSimpArgs false
namespace Mw
section
variable {q : Nat} {add mul : Int → Int → Int}
theorem wd_zero_one (F : Fld q add mul) {n : Nat} {C : List Int → Prop} (h0 : C (List.replicate n 0)) {T : List Bool} (hT : Van T (List.replicate n 0)) : wd q n C T 0 = 1 := by
  unfold wd
  rw [ws_single (v := List.replicate n 0) (wd_rep F.el0) (fun w hw hne => ?_)]
  · rw [ind_true h0, ind_true hT, ind_true (wt_rep n)]; rfl
  · rw [ind_false (fun e : wt w = 0 => hne (by have := wt_zero e; rw [hw.1] at this; exact this))]; simp
end
end Mw
end
section
set_option linter.unusedVariables false
set_option linter.unusedSimpArgs false
namespace Mw
open Go Go.RowKit Go.Proofs.YtifkbghnmhineaaW.PrintWords Go.Proofs.YtifkbghnmhineaaW.PrintLast Go.Proofs.YtifkbghnmhineaaW.PrintMore Go.Proofs.Ytifkbghnmhineaa.PAll
theorem an_wl {n j : Nat} {l : List (List Int)} (h : j < n + 1) : An (WL n l) j = wcnt l j := by
  unfold An
  rw [wl_rd h, lv_dg, Int.toNat_natCast]
theorem wl_sum {n : Nat} {l : List (List Int)} : ∀ i, i ≤ n + 1 → lsum ((WL n l).take i) = sm i (fun j => (wcnt l j : Int)) := by
  intro i
  induction i with
  | zero => intro _; rfl
  | succ i ih =>
    intro hi
    have hl : i < (WL n l).length := by rw [wl_len]; omega
    rw [lsum_take hl, ih (by omega), sm]
    congr 1
    rw [← rd3_lt hl, wl_rd (by omega), lv_dg]
theorem wcnt_sum {q n : Nat} : ∀ {l : List (List Int)}, (∀ w, w ∈ l → Wd q n w) → sm (n + 1) (fun j => (wcnt l j : Int)) = (l.length : Int)
  | [], _ => sm_zero fun _ _ => rfl
  | w :: l, h => by
    have hw := h w (List.mem_cons_self ..)
    have hl := wt_le w
    rw [hw.1] at hl
    have e : ∀ j, j < n + 1 → ((wcnt (w :: l) j : Nat) : Int) = (wcnt l j : Int) + ind (wt w = j) := by
      intro j _
      rw [wcnt]
      by_cases g : wt w = j
      · rw [if_pos g, ind_true g]; omega
      · rw [if_neg g, ind_false g]; omega
    rw [sm_congr e, sm_add, wcnt_sum (fun w hw => h w (List.mem_cons_of_mem _ hw)), sm_single (a := wt w) (f := fun j => ind (wt w = j)) (by omega) (fun i _ hne => ind_false (fun e => hne e.symm)), ind_true rfl, List.length_cons]
    omega
theorem wl_tot {q n : Nat} {l : List (List Int)} (h : ∀ w, w ∈ l → Wd q n w) : (lsum (WL n l)).toNat = l.length := by
  have := wl_sum (n := n) (l := l) (n + 1) (Nat.le_refl _)
  rw [List.take_of_length_le (by rw [wl_len]; omega), wcnt_sum h] at this
  omega
section
variable {P M : Int} {md : List Int} {n : Nat} {code dual : List (List Int)} {p m : Nat} {add mul : Int → Int → Int}
theorem Cds.qs (S : Cds P M md n code dual p m add mul) : 2 ≤ p ^ m ∧ p ^ m ≤ 256 := ⟨S.E.fld.two, S.E.fd.small⟩
theorem Cds.pos (S : Cds P M md n code dual p m add mul) : 1 ≤ code.length := by
  have := S.lin.zero
  cases h : code with
  | nil => rw [h] at this; simp at this
  | cons a l => simp
theorem Cds.dl (S : Cds P M md n code dual p m add mul) : ∀ w, w ∈ dual → Wd (p ^ m) n w := fun w h => ((S.dwd w).mp h).1
theorem Cds.mac (S : Cds P M md n code dual p m add mul) {j : Nat} (hj : j ≤ n) : tS (p ^ m - 1) (WL n code) j = (code.length : Int) * (wcnt dual j : Int) := by
  have h := macwilliams S.E.fld n (· ∈ code) S.lin j hj
  have h2 := S.qs
  rw [ws_len S.cnd S.cwd, wd_cnt2 S.dnd S.dwd] at h
  rw [h]
  unfold tS tT
  rw [wl_len]
  refine sm_congr fun i hi => ?_
  rw [an_wl hi, wd_cnt S.cnd S.cwd, show n + 1 - 1 - i = n - i by omega, show ((p ^ m - 1 : Nat) : Int) = ((p ^ m : Nat) : Int) - 1 by omega]
theorem Cds.dres (S : Cds P M md n code dual p m add mul) : (if (lsum (WL n code)).toNat = 0 then (([], 7) : List (List Int) × Int) else Mw.dres (p ^ m - 1) (WL n code) (lsum (WL n code)).toNat) = (WL n dual, 0) := by
  have h1 := S.pos
  have hp : 0 < code.length := by omega
  rw [wl_tot S.cwd, if_neg (by omega), dres_good (fun j hj => ?_), wl_len]
  · refine Prod.ext ?_ rfl
    show (List.range (n + 1)).map (fun j => dg ((tS (p ^ m - 1) (WL n code) j).toNat / code.length)) = (List.range (n + 1)).map (fun j => dg (wcnt dual j))
    refine List.map_congr_left fun j hj => ?_
    have hj := List.mem_range.mp hj
    rw [S.mac (j := j) (by omega), ← Int.natCast_mul, Int.toNat_natCast, Nat.mul_div_cancel_left _ hp]
  · rw [wl_len] at hj
    rw [S.mac (by omega)]
    exact ⟨Int.mul_nonneg (Int.natCast_nonneg _) (Int.natCast_nonneg _), Int.mul_emod_right _ _⟩
theorem Cds.wl (S : Cds P M md n code dual p m add mul) : Wl (WL n code) := wl_wl S.few S.cfew
theorem Cds.nd (S : Cds P M md n code dual p m add mul) : Ev (fun k => mw_Dual.f k ((p ^ m : Nat) : Int) (WL n code)) (WL n dual, 0) := by
  have := ndual_ev (q := p ^ m) S.wl (by rw [wl_len]; omega) S.qs.1 S.qs.2
  rw [S.dres] at this
  exact this
theorem Cds.ord (S : Cds P M md n code dual p m add mul) : Ev (fun k => r4_Order.f k P M md) ((p ^ m : Nat) : Int) := by
  rw [S.p_, S.m_]
  exact order_ok S.E.fd md
theorem Cds.cw (S : Cds P M md n code dual p m add mul) : Ev (fun k => r24_Weights.f k (n : Int) code) (WL n code) := weights_ev S.cwd S.few S.cfew
theorem Cds.dw (S : Cds P M md n code dual p m add mul) : Ev (fun k => r24_Weights.f k (n : Int) dual) (WL n dual) := weights_ev S.dl S.few S.dfew
end
theorem codes_get {P M a : Int} {md : List Int} {rows : List (List Int)} (hmd : md.length ≤ 9223372036854775807) (ha0 : 0 ≤ a) (ha1 : a ≤ 255) (hrl : rows.length ≤ 9223372036854775807) :
    ∃ (len : Int) (code dual all : List (List Int)) (ok : Bool), Ev (fun k => w24_codes.f k P M md a rows) (len, code, dual, all, ok) ∧ (ok = false ∨ (ok = true ∧ ∃ n : Nat, len = (n : Int) ∧ ∃ p m add mul, Cds P M md n code dual p m add mul)) := by
  obtain ⟨⟨len, code, dual, all, ok⟩, h1, h2⟩ := codes_ev (P := P) (M := M) hmd ha0 ha1 hrl
  exact ⟨len, code, dual, all, ok, h1, h2⟩
theorem pless_law {P M a v : Int} {md : List Int} {rows : List (List Int)} (hmd : md.length ≤ 9223372036854775807) (ha0 : 0 ≤ a) (ha1 : a ≤ 255) (hrl : rows.length ≤ 9223372036854775807) (hv0 : 0 ≤ v) (hv1 : v ≤ 255) :
    Ev (fun k => w24_MacwilliamsPless.f k P M md a rows v) true := by
  obtain ⟨len, code, dual, all, ok, h1, h2⟩ := codes_get (P := P) (M := M) hmd ha0 ha1 hrl
  simp only [w24_MacwilliamsPless.f]
  refine Ev.bind h1 ?_
  rcases h2 with rfl | ⟨rfl, n, rfl, p, m, add, mul, S⟩
  · simp only [Bool.false_eq_true, if_false]
    exact Ev.some _
  · have few := S.few
    have one := S.one
    have qs := S.qs
    obtain ⟨u, rfl⟩ : ∃ u : Nat, v = (u : Int) := ⟨v.toNat, by omega⟩
    have w1 : wrap64 ((n : Int) + 1) = ((n + 1 : Nat) : Int) := wn (by omega) (by omega)
    have w2 : Int.tmod (wrap64 (u : Int)) ((n + 1 : Nat) : Int) = ((u % (n + 1) : Nat) : Int) := by
      rw [w64 (x := (u : Int)) (by omega) (by omega), Int.tmod_eq_emod_of_nonneg (by omega)]
      omega
    obtain ⟨t, ht⟩ : ∃ t, t = u % (n + 1) := ⟨_, rfl⟩
    have htn : t ≤ n := by have := Nat.mod_lt u (show 0 < n + 1 by omega); omega
    have w3 : wrap64 ((n : Int) - (t : Int)) = ((n - t : Nat) : Int) := wn (by omega) (by omega)
    simp only [if_true, w1, w2, if_neg (show ¬ ((n + 1 : Nat) : Int) = 0 by omega), ← ht, w3]
    clear w1 w2 w3
    refine Ev.bind S.cw ?_
    refine Ev.bind (moment_ok S.wl (v := t) (by rw [wl_len]; omega)) ?_
    refine Ev.bind S.dw ?_
    refine Ev.bind (moment_ok (wl_wl S.few S.dfew) (v := n - t) (by rw [wl_len]; omega)) ?_
    refine Ev.bind S.ord ?_
    obtain ⟨q, hq⟩ : ∃ q, q = p ^ m := ⟨_, rfl⟩
    rw [← hq] at qs ⊢
    have u1 : IntKind.u64.wrap (q : Int) = (q : Int) := u64w (by omega) (by omega)
    have u2 : IntKind.u64.wrap (code.length : Int) = (code.length : Int) := u64w (by omega) (by have := S.cfew; omega)
    simp only [u1, u2]
    refine Ev.bind (rof_ev (by omega)) ?_
    refine Ev.bind (rpow_ev (x := q) (n := t) (by omega) (by omega)) ?_
    simp only [if_true]
    obtain ⟨A, hA⟩ : ∃ A, A = fsum (fun i => bin ((WL n code).length - 1 - i) t) (WL n code) (WL n code).length := ⟨_, rfl⟩
    obtain ⟨B, hB⟩ : ∃ B, B = fsum (fun i => bin ((WL n dual).length - 1 - i) (n - t)) (WL n dual) (WL n dual).length := ⟨_, rfl⟩
    have sA : (dg A).length ≤ 150 := by
      rw [hA]
      exact fsum_short S.wl (fun i hi => bin_len (by rw [wl_len] at *; omega) t) (Nat.le_refl _)
    have sB : (dg B).length ≤ 150 := by
      rw [hB]
      exact fsum_short (wl_wl S.few S.dfew) (fun i hi => bin_len (by rw [wl_len] at *; omega) (n - t)) (Nat.le_refl _)
    have sq : (dg (q ^ t)).length ≤ 12 := by
      refine dg_len_le ?_
      have e1 : q ^ t ≤ 256 ^ t := Nat.pow_le_pow_left qs.2 t
      have e2 : 256 ^ t ≤ 256 ^ 12 := Nat.pow_le_pow_right (by omega) (by omega)
      have e3 : (256 : Nat) ^ 12 < bp 12 := by simp only [bp_succ, bp_zero]; omega
      omega
    have sc : (dg code.length).length ≤ 1 := small_dg (by have := S.cfew; omega)
    have eq : q ^ t * A = code.length * B := by
      have h := pless S.E.fld n (· ∈ code) S.lin t htn
      rw [ws_len S.cnd S.cwd] at h
      have a1 : ((A : Nat) : Int) = sm (n + 1) (fun i => wd (p ^ m) n (· ∈ code) (none' n) i * (bin (n - i) t : Int)) := by
        rw [hA, wl_len, fsum_wl _ (n + 1) (Nat.le_refl _)]
        exact sm_congr fun i _ => by rw [wd_cnt S.cnd S.cwd, show n + 1 - 1 - i = n - i by omega]
      have b1 : ((B : Nat) : Int) = sm (n + 1) (fun i => wd (p ^ m) n (Dl (p ^ m) add mul n (· ∈ code)) (none' n) i * (bin (n - i) (n - t) : Int)) := by
        rw [hB, wl_len, fsum_wl _ (n + 1) (Nat.le_refl _)]
        exact sm_congr fun i _ => by rw [wd_cnt2 S.dnd S.dwd, show n + 1 - 1 - i = n - i by omega]
      rw [← a1, ← b1, ← hq] at h
      have : ((q ^ t * A : Nat) : Int) = ((code.length * B : Nat) : Int) := by
        rw [Int.natCast_mul, Int.natCast_mul, Int.natCast_pow]; exact h
      omega
    have pos : A ≠ 0 := by
      have e0 : 1 ≤ wcnt code 0 := by
        have := wd_zero_one S.E.fld (C := (· ∈ code)) S.lin.zero (T := none' n) (none_van n _)
        rw [wd_cnt S.cnd S.cwd] at this
        omega
      have le : ∀ i, 1 ≤ i → i ≤ n + 1 → 0 < fsum (fun i => bin ((WL n code).length - 1 - i) t) (WL n code) i := by
        intro i
        induction i with
        | zero => intro h _; omega
        | succ i ih =>
          intro _ hi
          rw [fsum]
          by_cases g : i = 0
          · subst g
            rw [wl_rd (by omega), lv_dg, Int.toNat_natCast, wl_len]
            have := bin_pos (n := n + 1 - 1 - 0) (k := t) (by omega)
            have := Nat.mul_pos this (show 0 < wcnt code 0 by omega)
            omega
          · have := ih (by omega) (by omega); omega
      have := le (n + 1) (by omega) (Nat.le_refl _)
      rw [hA, wl_len]
      rw [wl_len] at this
      omega
    have posB : B ≠ 0 := fun e => by
      rw [e, Nat.mul_zero] at eq
      rcases Nat.mul_eq_zero.mp eq with h | h
      · have := Nat.pow_pos (n := t) (show 0 < q by omega); omega
      · exact pos h
    rw [← hA, ← hB]
    refine Ev.bind (rmul2_ev (by omega) (by omega)) ?_
    refine Ev.bind (rof_ev (by have := S.cfew; omega)) ?_
    refine Ev.bind (rmul2_ev (by omega) (by omega)) ?_
    have sl : (dg (q ^ t * A)).length < 549755813888 := by
      have := dg_len_le (n := q ^ t * A) (m := 12 + 150) (by
        rw [bp_add]
        have e1 := Nat.lt_of_lt_of_le (dg_lt_len (q ^ t)) (bp_mono sq)
        have e2 := Nat.lt_of_lt_of_le (dg_lt_len A) (bp_mono sA)
        exact Nat.mul_lt_mul'' e1 e2)
      omega
    refine Ev.bind (same_ev _ _ sl) ?_
    simp only [eq, decide_true, if_true]
    refine Ev.bind (rzero_ev (by omega)) ?_
    exact Ev.cast (Ev.some _) (by simp [posB])
end Mw
end
section
namespace Mw
open Go Go.RowKit Go.ChangeShapes Go.WideShapes Go.Deep Go.Proofs.YtifkbghnmhineaaW.PrintWords
theorem open_rows {H : Type} {enc : TypeId × Value → H} {P : Program} {w : World} {base : Nat} {held : Bool} {t e q : TypeId} {k : IntKind} {A : Option Addr} {len cap : Nat} {d : DataW H} {ps : List MemPlace}
    (ht : P.underlying t = some (.slice e)) (he : P.underlying e = some (.slice q)) (hq : P.underlying q = some (.int k)) (ce : P.cellsOf e = 1) (cq : P.cellsOf q = 1)
    (h : DataW.Trod enc P w base (fun _ => true) held t (.slice A len cap) d ps) :
    ∃ l : List (List Int), l.length = len ∧ len ≤ cap ∧ len ≤ 9223372036854775807 ∧ Kd.C (Kd.slice q (Kd.int k)) w A len l ∧ ∀ x ∈ l, ∀ n ∈ x, (Lit.int k n).wf = true := by
  obtain ⟨fuel, hf⟩ := h
  rcases open_int_rows ht he hq ce cq hf with ⟨hcs, _⟩ | ⟨a, len', cap', A', L, C, Z, hcs, _, hl, hm, _, hrows⟩
  · simp [Value.cells] at hcs
    obtain ⟨rfl, rfl, rfl⟩ := hcs
    exact ⟨[], rfl, Nat.le_refl _, by omega, ⟨rfl, by omega, fun h => absurd h (by omega)⟩, fun x hx => by simp at hx⟩
  · simp [Value.cells] at hcs
    obtain ⟨rfl, rfl, rfl⟩ := hcs
    have hm9 : cap ≤ 9223372036854775807 := by simpa [maxLen] using hm
    refine ⟨(List.range len).map fun r => (Z r).take (L r), by simp, hl, by omega, ⟨by simp, by omega, fun _ => ⟨a, rfl, fun j p hj => ?_⟩⟩, fun x hx n hn => ?_⟩
    · have hjl : j < len := by
        by_cases g : j < len
        · exact g
        · rw [List.getElem?_eq_none (by simp; omega)] at hj; simp at hj
      obtain ⟨hc, hLC, hCm, hZ, hwf, hnil, hcells⟩ := hrows j (by omega)
      have hC9 : C j ≤ 9223372036854775807 := by simpa [maxLen] using hCm
      have hp : p = (Z j).take (L j) := by
        rw [List.getElem?_map, List.getElem?_range hjl] at hj
        simpa using hj.symm
      have hpl : p.length = L j := by rw [hp, List.length_take]; omega
      refine ⟨[.slice (A' j) p.length (C j)], rfl, ⟨A' j, C j, rfl, by omega, ?_⟩, fun i u hu => ?_⟩
      · refine Kd.C_of_reads (d := (0 : Int)) ⟨rfl, by omega, fun hpos => ?_⟩
        cases hA : A' j with
        | none => have := hnil hA; omega
        | some a' =>
          refine ⟨a', rfl, fun i hi => ?_⟩
          have := (hcells a' hA).2 i (by omega)
          rw [this, hp]
          congr 2
          simp only [List.getD_eq_getElem?_getD]
          rw [List.getElem?_take_of_lt (by omega)]
      · cases i with
        | zero =>
          have : Value.slice (A' j) p.length (C j) = u := by simpa using hu
          subst this
          rw [hpl]
          simpa [Kd.slice] using hc
        | succ i => simp at hu
    · obtain ⟨r, hr, rfl⟩ := List.mem_map.mp hx
      have hr := List.mem_range.mp hr
      exact (hrows r (by omega)).2.2.2.2.1 n (List.mem_of_mem_take hn)
end Mw
end
section
namespace Mw
open Go Go.RowKit Go.ChangeShapes Go.WideShapes Go.Deep Go.Proofs Go.Proofs.YtifkbghnmhineaaW.PrintWords Go.Proofs.Ytifkbghnmhineaa.PAll
set_option maxRecDepth 100000
section
variable {H : Type} {enc : TypeId × Value → H} {w : World} {base : Nat} {held : Bool}
theorem ints_cells {fuel : Nat} {cs : List Value} {y : DataW H × List MemPlace} (h : DataW.trod enc Try.prog w base (fun _ => true) held fuel 22 cs = some y) :
    ∃ (l : List Int) (A : Option Addr) (c : Nat), cs = [.slice A l.length c] ∧ l.length ≤ c ∧ l.length ≤ 9223372036854775807 ∧ (Kd.int .i64).C w A l.length l ∧ ∀ n ∈ l, (Lit.int .i64 n).wf = true := by
  rcases open_ints Try.underlying22 Try.underlying3 (by kernel_rfl) h with ⟨hcs, _⟩ | ⟨a, len, cap, zs, hcs, hb, hl, hm, hz, hx, hcell, hwz⟩
  · exact ⟨[], none, 0, hcs, Nat.le_refl _, by simp, Kd.C_nil _ _, fun n hn => by simp at hn⟩
  · simp only [if_true] at hz
    have hm9 : cap ≤ 9223372036854775807 := by simpa [maxLen] using hm
    have hll : (zs.take len).length = len := by rw [List.length_take]; omega
    refine ⟨zs.take len, some a, cap, by rw [hll]; exact hcs, by omega, by omega, ?_, fun n hn => hwz n (List.mem_of_mem_take hn)⟩
    refine Kd.C_of_reads (d := (0 : Int)) ⟨rfl, by omega, fun hpos => ⟨a, rfl, fun i hi => ?_⟩⟩
    rw [hcell i (by omega)]
    congr 2
    simp only [List.getD_eq_getElem?_getD]
    rw [List.getElem?_take_of_lt (by omega)]
theorem open_field {t : TypeId} {cs : Array Value} {d : DataW H} {ps : List MemPlace} (ht : Try.prog.underlying t = Try.prog.underlying 24) (hc : Try.prog.cellsOf t = 3) (h : DataW.Trod enc Try.prog w base (fun _ => true) held t (.agg cs) d ps) :
    ∃ (P M : Int) (l : List Int) (A : Option Addr) (c : Nat), cs = #[.int .i64 P, .int .i64 M, .slice A l.length c] ∧ l.length ≤ c ∧ l.length ≤ 9223372036854775807 ∧ (Kd.int .i64).C w A l.length l := by
  obtain ⟨fuel, hf⟩ := h
  have hf : DataW.trod enc Try.prog w base (fun _ => true) held fuel t cs.toList = some (d, ps) := hf
  obtain ⟨y0, y1, y2, n, _, hlen, g0, g1, g2⟩ := trod_struct3 (ht.trans Try.underlying24) hf
  have h3 : Try.prog.cellsOf 3 = 1 := by kernel_rfl
  have h22 : Try.prog.cellsOf 22 = 1 := by kernel_rfl
  rw [hc] at hlen
  obtain ⟨a, b, c, e⟩ : ∃ a b c, cs.toList = [a, b, c] := by
    match cs.toList, hlen with
    | [a, b, c], _ => exact ⟨a, b, c, rfl⟩
  rw [e] at g0 g1 g2
  have g0 : DataW.trod enc Try.prog w base (fun _ => true) held n 3 (List.take (Try.prog.cellsOf 3) (List.drop 0 [a, b, c])) = some y0 := g0
  have g1 : DataW.trod enc Try.prog w base (fun _ => true) held n 3 (List.take (Try.prog.cellsOf 3) (List.drop 1 [a, b, c])) = some y1 := g1
  have g2 : DataW.trod enc Try.prog w base (fun _ => true) held n 22 (List.take (Try.prog.cellsOf 22) (List.drop 2 [a, b, c])) = some y2 := g2
  rw [h3] at g0 g1
  rw [h22] at g2
  obtain ⟨P, e0, _⟩ := DataW.trod_int Try.underlying3 g0
  obtain ⟨M, e1, _⟩ := DataW.trod_int Try.underlying3 g1
  obtain ⟨l, A, cp, e2, p1, p2, p3, _⟩ := ints_cells g2
  have f0 : a = .int .i64 P := by simpa using e0
  have f1 : b = .int .i64 M := by simpa using e1
  have f2 : c = .slice A l.length cp := by simpa using e2
  subst f0 f1 f2
  exact ⟨P, M, l, A, cp, by cases cs; simp at e; rw [e], p1, p2, p3⟩
end
end Mw
end
section
namespace Mw
open Go Go.Proofs
def headCodes : List Nat := [
  104, 97, 114, 110, 101, 115, 115, 32, 97, 52, 54, 100, 51, 98, 54, 57, 49, 99, 100, 102, 102, 55, 57, 50, 53, 50, 54, 98, 102, 49,
  54, 102, 48, 51, 48, 99, 54, 97, 97, 48, 53, 57, 101, 57, 49, 50, 49, 49, 52, 97, 101, 54, 102, 97, 52, 52, 54, 99, 49, 56,
  54, 102, 57, 55, 99, 52, 101, 54, 51, 97, 102, 50, 32, 99, 117, 116, 32, 97, 116, 32, 99, 111, 100, 101, 119, 114, 105, 103, 104, 116,
  47, 99, 111, 100, 101, 119, 114, 105, 103, 104, 116, 108, 97, 119, 50, 52, 46, 77, 97, 99, 119, 105, 108, 108, 105, 97, 109, 115, 80, 108,
  101, 115, 115, 32, 99, 111, 100, 101, 119, 114, 105, 103, 104, 116, 47, 99, 111, 100, 101, 119, 114, 105, 103, 104, 116, 108, 97, 119, 50, 52,
  46, 77, 97, 99, 119, 105, 108, 108, 105, 97, 109, 115, 68, 101, 115, 105, 103, 110, 115, 32, 99, 111, 100, 101, 119, 114, 105, 103, 104, 116,
  47, 99, 111, 100, 101, 119, 114, 105, 103, 104, 116, 108, 97, 119, 50, 52, 46, 77, 97, 99, 119, 105, 108, 108, 105, 97, 109, 115, 68, 101,
  114, 105, 118, 101, 100, 32, 99, 111, 100, 101, 119, 114, 105, 103, 104, 116, 47, 99, 111, 100, 101, 119, 114, 105, 103, 104, 116, 108, 97, 119,
  50, 52, 46, 77, 97, 99, 119, 105, 108, 108, 105, 97, 109, 115, 77, 111, 109, 101, 110, 116, 115, 32, 99, 111, 100, 101, 119, 114, 105, 103,
  104, 116, 47, 99, 111, 100, 101, 119, 114, 105, 103, 104, 116, 108, 97, 119, 50, 52, 46, 77, 97, 99, 119, 105, 108, 108, 105, 97, 109, 115,
  83, 116, 114, 101, 110, 103, 116, 104, 115, 32, 99, 111, 100, 101, 119, 114, 105, 103, 104, 116, 47, 99, 111, 100, 101, 119, 114, 105, 103, 104,
  116, 108, 97, 119, 50, 52, 46, 77, 97, 99, 119, 105, 108, 108, 105, 97, 109, 115, 75, 114, 97, 119, 116, 99, 104, 111, 117, 107, 32, 99,
  111, 100, 101, 119, 114, 105, 103, 104, 116, 47, 99, 111, 100, 101, 119, 114, 105, 103, 104, 116, 108, 97, 119, 50, 52, 46, 77, 97, 99, 119,
  105, 108, 108, 105, 97, 109, 115, 65, 115, 115, 109, 117, 115, 32, 99, 111, 100, 101, 119, 114, 105, 103, 104, 116, 47, 99, 111, 100, 101, 119,
  114, 105, 103, 104, 116, 108, 97, 119, 50, 52, 46, 77, 97, 99, 119, 105, 108, 108, 105, 97, 109, 115, 71, 101, 110, 101, 114, 97, 116, 105,
  110, 103, 32, 99, 111, 100, 101, 119, 114, 105, 103, 104, 116, 47, 99, 111, 100, 101, 119, 114, 105, 103, 104, 116, 108, 97, 119, 50, 52, 46,
  77, 97, 99, 119, 105, 108, 108, 105, 97, 109, 115, 79, 114, 116, 104, 111, 103, 111, 110, 97, 108, 32, 99, 111, 100, 101, 119, 114, 105, 103,
  104, 116, 47, 99, 111, 100, 101, 119, 114, 105, 103, 104, 116, 108, 97, 119, 50, 52, 46, 77, 97, 99, 119, 105, 108, 108, 105, 97, 109, 115,
  82, 101, 99, 105, 112, 114, 111, 99, 97, 108, 32, 99, 111, 100, 101, 119, 114, 105, 103, 104, 116, 47, 99, 111, 100, 101, 119, 114, 105, 103,
  104, 116, 108, 97, 119, 50, 52, 46, 77, 97, 99, 119, 105, 108, 108, 105, 97, 109, 115, 82, 101, 99, 117, 114, 114, 101, 110, 99, 101, 32,
  99, 111, 100, 101, 119, 114, 105, 103, 104, 116, 47, 99, 111, 100, 101, 119, 114, 105, 103, 104, 116, 108, 97, 119, 50, 52, 46, 77, 97, 99,
  119, 105, 108, 108, 105, 97, 109, 115, 73, 100, 101, 110, 116, 105, 116, 121, 32, 99, 111, 100, 101, 119, 114, 105, 103, 104, 116, 47, 99, 111,
  100, 101, 119, 114, 105, 103, 104, 116, 108, 97, 119, 50, 52, 46, 77, 97, 99, 119, 105, 108, 108, 105, 97, 109, 115, 68, 101, 108, 115, 97,
  114, 116, 101, 32, 99, 111, 100, 101, 119, 114, 105, 103, 104, 116, 47, 99, 111, 100, 101, 119, 114, 105, 103, 104, 116, 108, 97, 119, 50, 52,
  46, 77, 97, 99, 119, 105, 108, 108, 105, 97, 109, 115, 69, 120, 116, 101, 114, 110, 97, 108, 115, 32, 99, 111, 100, 101, 119, 114, 105, 103,
  104, 116, 47, 99, 111, 100, 101, 119, 114, 105, 103, 104, 116, 108, 97, 119, 50, 52, 46, 77, 97, 99, 119, 105, 108, 108, 105, 97, 109, 115,
  84, 114, 97, 110, 115, 102, 111, 114, 109, 115, 32, 99, 111, 100, 101, 119, 114, 105, 103, 104, 116, 47, 99, 111, 100, 101, 119, 114, 105, 103,
  104, 116, 108, 97, 119, 50, 52, 46, 77, 97, 99, 119, 105, 108, 108, 105, 97, 109, 115, 73, 110, 118, 101, 114, 116, 115]
theorem head_eq : Try.prog.initOrder = String.ofList (headCodes.map Char.ofNat) := by kernel_rfl
theorem head_list : Try.prog.initOrder.toList = headCodes.map Char.ofNat := by rw [head_eq, String.toList_ofList]
def cutSigns : List Char := [99, 117, 116].map Char.ofNat
theorem head_word0 : ∃ rest, behindMainWord (wordsSigns (headCodes.map Char.ofNat)) = cutSigns :: rest := ⟨(behindMainWord (wordsSigns (headCodes.map Char.ofNat))).tail, by kernel_rfl⟩
theorem head_word : ∃ rest, behindMainWord (wordsSigns Try.prog.initOrder.toList) = cutSigns :: rest := by rw [head_list]; exact head_word0
theorem head_strip (rest : List (List Char)) : stripLifts liftWords (cutSigns :: rest) = ([], cutSigns :: rest) := by kernel_rfl
theorem sign1 : (cutSigns == "gc".toList) = false := by kernel_rfl
theorem sign2 : (cutSigns == "spec".toList) = false := by kernel_rfl
theorem sign3 : (cutSigns == "carried".toList) = false := by kernel_rfl
theorem sign4 : (cutSigns == "cut".toList) = true := by kernel_rfl
theorem make_of (P : Program) (c : List Char) (rest : List (List Char)) (h : behindMainWord (wordsSigns P.initOrder.toList) = c :: rest) (h1 : (c == "gc".toList) = false) (h2 : (c == "spec".toList) = false) (h3 : (c == "cut".toList) = true) : P.make = some .cut := by
  unfold Program.make
  rw [h]
  simp only [h1, h2, h3, Bool.or_self, Bool.true_or, Bool.false_eq_true, if_false, if_true]
theorem enter_of (P : Program) (c : List Char) (rest : List (List Char)) (h : behindMainWord (wordsSigns P.initOrder.toList) = c :: rest) (hs : stripLifts liftWords (c :: rest) = ([], c :: rest)) (h3 : (some c == some "cut".toList) = true) (ll : P.laysLater = false) (br : P.bearsReflect = false) (df : P.doorFits [] = true) : P.mayEnter = true := by
  unfold Program.mayEnter
  rw [h]
  simp only [hs, List.head?_cons, h3, ll, br, df]
  simp
theorem final_of (P : Program) (c : List Char) (rest : List (List Char)) (h : behindMainWord (wordsSigns P.initOrder.toList) = c :: rest) (hs : stripLifts liftWords (c :: rest) = ([], c :: rest)) (h3 : (some c == some "carried".toList) = false) : P.liftsFinal = false := by
  unfold Program.liftsFinal Program.headLifts
  rw [h]
  simp only [hs, List.head?_cons, h3, Bool.false_and, Bool.false_or]
  split <;> rfl
theorem laysLater_ : Try.prog.laysLater = false := by kernel_rfl
theorem bearsReflect_ : Try.prog.bearsReflect = false := by kernel_rfl
theorem doorFits_ : Try.prog.doorFits [] = true := by kernel_rfl
theorem make_ : Try.prog.make = some .cut := by
  obtain ⟨rest, h⟩ := head_word
  exact make_of _ _ rest h sign1 sign2 sign4
theorem mayEnter_ : Try.prog.mayEnter = true := by
  obtain ⟨rest, h⟩ := head_word
  exact enter_of _ _ rest h (head_strip rest) sign4 laysLater_ bearsReflect_ doorFits_
theorem liftsFinal_ : Try.prog.liftsFinal = false := by
  obtain ⟨rest, h⟩ := head_word
  exact final_of _ _ rest h (head_strip rest) sign3
theorem laidOut : laidOutB Try.prog = true := by kernel_rfl
theorem mapsRowed_ : mapsRowed Try.prog = true := by kernel_rfl
theorem stopsHeard_ : Try.prog.stopsHeard = true := by kernel_rfl
theorem stops_ : (Try.prog.stops == []) = true := by kernel_rfl
theorem stopKnobs_ : (Try.prog.stopKnobs == []) = true := by kernel_rfl
theorem joined_of {P : Program} {f : FuncId} {fn : Func} {s : ChangeSpec} {c : OpenClaim} (k1 : c.wf (OpenSpec.ofChange s) = true) (k2 : laidOutB P = true) (k3 : mapsRowed P = true) (k4 : fn.params.all (P.readableRec ·) = true) (k5 : namedTie P c.named s.vars = true)
    (k6 : (c.stops == []) = true) (k7 : (P.stops == []) = true) (k8 : (c.knobs == []) = true) (k9 : (P.stopKnobs == []) = true) (k10 : (c.inPlace == P.inPlace f) = true) (k11 : (c.unfollowed == P.unfollowed f) = true) (k12 : (c.recurses == P.recurses f) = true) (k13 : (c.named == P.varsNamed f) = true)
    (k14 : (c.maps == (fn.params.toList ++ s.plain.varTypes P).any (P.mapsRec ·)) = true) (k15 : (c.ifaces == (fn.params.toList ++ s.plain.varTypes P).any (P.ifacesRec ·)) = true) (k16 : (c.mapsOut == P.mapsAmong fn.resultTypes.toList) = true) (k17 : (c.loops == (fn.params.toList ++ s.plain.varTypes P).any (P.loopsFrom ·)) = true) (k18 : (c.wideKeys == (fn.params.toList ++ s.plain.varTypes P ++ fn.resultTypes.toList).any (P.wideKeysFrom ·)) = true)
    (k19 : s.vars.all (P.varReadable ·) = true) (k20 : fn.resultTypes.all (fun t => P.readableRec t && decide (t < P.types.size)) = true) (k21 : (c.ifacesOut == fn.resultTypes.toList.any (P.ifacesRec ·)) = true) (k22 : (c.loopsOut == fn.resultTypes.toList.any (P.loopsFrom ·)) = true) (k23 : (c.plainKeys == P.plainKeys) = true) (k24 : c.shortTexts.isNone = true)
    (k25 : P.stopsHeard = true) (k26 : P.mayEnter = true) (k27 : (c.lifted == P.liftsFinal) = true) (k28 : (P.make == some c.make) = true) (k29 : (c.kinds == (if c.domain.isEmpty then [] else fn.params.toList.map fun t => match P.underlying t with | some (.int k) => some k | _ => none)) = true) (k30 : (c.pinned == c.pinnedBy) = true)
    (k31 : (c.veiled == (fn.params.toList ++ s.plain.varTypes P ++ fn.resultTypes.toList).any (P.veiledRec ·)) = true) (k32 : c.veiledFits P fn.params.toList (fn.params.toList ++ s.plain.varTypes P ++ fn.resultTypes.toList) = true) : joinedFacts P f fn s c = true := by
  unfold joinedFacts
  simp only [Bool.and_eq_true]
  exact ⟨⟨⟨⟨⟨⟨⟨⟨⟨⟨⟨⟨⟨⟨⟨⟨⟨⟨⟨⟨⟨⟨⟨⟨⟨⟨⟨⟨⟨⟨⟨k1, k2⟩, k3⟩, k4⟩, k5⟩, k6⟩, k7⟩, k8⟩, k9⟩, k10⟩, k11⟩, k12⟩, k13⟩, k14⟩, k15⟩, k16⟩, k17⟩, k18⟩, k19⟩, k20⟩, k21⟩, k22⟩, k23⟩, k24⟩, k25⟩, k26⟩, k27⟩, k28⟩, k29⟩, k30⟩, k31⟩, k32⟩
end Mw
end
section
namespace Go.Proofs.Ytifkbghnmhineaa.macwilliamsPless
open Go.ChangeShapes Go.WideShapes Go.ChangeAt Go.RowKit
open Go.ChangeMaps (open_string shut_string)
set_option linter.unusedVariables false
theorem own : ownKnob Try.prog.godebug = none := by kernel_rfl
set_option maxRecDepth 100000 in
theorem lifted (os : Os) (started : os.Started) (H : Type) (enc : TypeId × Value → H) :
    ReturnsInHanded {} Try.checked os 3 .any (Rows.macwilliamsPlessSpec.pre6 enc Try.prog Try.f3 Rows.macwilliamsPlessRow.domain false) (Rows.macwilliamsPlessSpec.post enc Try.prog Try.f3 false true false false) := by
  refine returnsInHanded_of_change_sized (C := Try.checked) own started (by kernel_rfl) Try.func3
    (ChangeSpec.witness6 (enc := enc) (C := Try.checked) false ⟨#[], #[.agg #[.int .i64 0, .int .i64 0, .slice none 0 0], .int .u8 0, .slice none 0 0, .int .u8 0], []⟩ 8 (by kernel_rfl) (by kernel_rfl) (by kernel_rfl) (by kernel_rfl)) ?_
  intro W base args ds gs before hval0 hW hcnd hsz0 _
  have hval : ∀ (j : Nat) t v, Try.f3.params[j]? = some t → args[j]? = some v → Value.okWide Try.prog W .any base t v := hval0
  have hW' := hW
  obtain ⟨p, q, hA0, hV, rfl, hfz, hnd⟩ := hW
  have hA : DataW.TrodAll enc Try.prog W 0 (fun _ => true) true Try.f3.params.toList args.toList ds p := hA0
  rw [Try.params3] at hA hval
  obtain ⟨v0, vs0, d0, ds0, p0, q0, hargs, rfl, rfl, h0, r0⟩ := trodAll_cons hA
  obtain ⟨v1, vs1, d1, ds1, p1, q1, rfl, rfl, rfl, h1, r1⟩ := trodAll_cons r0
  obtain ⟨v2, vs2, d2, ds2, p2, q2, rfl, rfl, rfl, h2, r2⟩ := trodAll_cons r1
  obtain ⟨v3, vs3, d3, ds3, p3, q3, rfl, rfl, rfl, h3, r3⟩ := trodAll_cons r2
  obtain ⟨rfl, rfl, rfl⟩ := trodAll_nil r3
  obtain rfl : args = #[v0, v1, v2, v3] := by cases args; simp_all
  obtain ⟨rfl, rfl⟩ := trodVars_none hV
  obtain ⟨cs0, rfl, _⟩ := okWide_struct Try.underlying24 (hval 0 24 v0 rfl rfl)
  have k0 := h0
  have lt0 : ∀ x ∈ p0, x.block < W.heap.size := by obtain ⟨m, hm⟩ := k0; exact DataW.trod_lt m _ _ _ hm
  obtain ⟨P, M, l0, A0, c0, rfl, hc0, hm0, hr0⟩ := Mw.open_field rfl (by kernel_rfl) h0
  obtain ⟨a1, rfl, rfl, rfl, w1⟩ := open_int Try.underlying5 (hval 1 5 v1 rfl rfl) h1
  obtain ⟨a2, len2, cap2, rfl⟩ := okWide_slice Try.underlying25 (hval 2 25 v2 rfl rfl)
  have k2 := h2
  have lt2 : ∀ x ∈ p2, x.block < W.heap.size := by obtain ⟨m, hm⟩ := k2; exact DataW.trod_lt m _ _ _ hm
  obtain ⟨l2, rfl, hc2, hm2, hr2, _⟩ := Mw.open_rows Try.underlying25 Try.underlying22 Try.underlying3 (by kernel_rfl) (by kernel_rfl) h2
  obtain ⟨a3, rfl, rfl, rfl, w3⟩ := open_int Try.underlying5 (hval 3 5 v3 rfl rfl) h3
  clear hA0 hval0 hsz0
  obtain ⟨k, hk⟩ := (Mw.pless_law (P := P) (M := M) (md := l0) (rows := l2) (a := a1) (v := a3) hm0 (by have := w1; simp [Lit.wf, show IntKind.u8.min = 0 from rfl, show IntKind.u8.max = 255 from rfl] at this; omega) (by have := w1; simp [Lit.wf, show IntKind.u8.min = 0 from rfl, show IntKind.u8.max = 255 from rfl] at this; omega) hm2 (by have := w3; simp [Lit.wf, show IntKind.u8.min = 0 from rfl, show IntKind.u8.max = 255 from rfl] at this; omega) (by have := w3; simp [Lit.wf, show IntKind.u8.min = 0 from rfl, show IntKind.u8.max = 255 from rfl] at this; omega)).get
  refine (PAll.w24_MacwilliamsPless.calls k P M A0 c0 l0 a1 a2 cap2 l2 a3 true W hr0 hc0 hr2 hc2 hk).mono fun e W' ⟨he, bel⟩ => ?_
  subst he
  exact ⟨_, rfl, _, _, _, [], _, [], hW', trodAll_mk1 (shut_bool Try.underlying4 _), (trodAll_cons_mk (Below.trod Mw.laidOut (by kernel_rfl) (of_decide_eq_true (by kernel_rfl)) k0 bel lt0) (trodAll_cons_mk (shut_int Try.underlying5 w1) (trodAll_cons_mk (Below.trod Mw.laidOut (by kernel_rfl) (of_decide_eq_true (by kernel_rfl)) k2 bel lt2) (trodAll_cons_mk (shut_int Try.underlying5 w3) trodAll_mk0)))), rfl, bel.frame _, fun h => by cases h⟩
theorem closed : joinedFacts Try.prog 3 Try.f3 Rows.macwilliamsPlessSpec Rows.macwilliamsPlessRow = true :=
  Mw.joined_of (by as_aux_lemma => kernel_rfl) Mw.laidOut Mw.mapsRowed_ (by as_aux_lemma => kernel_rfl) (by as_aux_lemma => kernel_rfl) (by as_aux_lemma => kernel_rfl) Mw.stops_ (by as_aux_lemma => kernel_rfl) Mw.stopKnobs_ (by as_aux_lemma => kernel_rfl) (by as_aux_lemma => kernel_rfl) (by as_aux_lemma => kernel_rfl) (by as_aux_lemma => kernel_rfl) (by as_aux_lemma => kernel_rfl) (by as_aux_lemma => kernel_rfl) (by as_aux_lemma => kernel_rfl) (by as_aux_lemma => kernel_rfl) (by as_aux_lemma => kernel_rfl) (by as_aux_lemma => kernel_rfl) (by as_aux_lemma => kernel_rfl) (by as_aux_lemma => kernel_rfl) (by as_aux_lemma => kernel_rfl) (by as_aux_lemma => kernel_rfl) (by as_aux_lemma => kernel_rfl) Mw.stopsHeard_ Mw.mayEnter_ (by rw [Mw.liftsFinal_]; rfl) (by rw [Mw.make_]; rfl) (by as_aux_lemma => kernel_rfl) (by as_aux_lemma => kernel_rfl) (by as_aux_lemma => kernel_rfl) (by as_aux_lemma => kernel_rfl)
theorem over : Rows.macwilliamsPlessRow.holds Try.pinned (OpenSpec.ofChange Rows.macwilliamsPlessSpec) :=
  OpenClaim.holds_of_wide 3 Try.f3 rfl rfl rfl rfl rfl rfl rfl ⟨rfl, rfl, rfl, rfl, rfl⟩ rfl rfl rfl rfl rfl (by as_aux_lemma => kernel_rfl) Try.func3 closed
    (of_decide_eq_true (by as_aux_lemma => kernel_rfl)) (by unfold Func.isWrapper; first | (rw [if_pos (by decide +kernel)]; kernel_rfl) | (rw [if_neg (by decide +kernel)]; exact ⟨rfl, rfl⟩))
    (fun os started H enc _ => lifted os started H enc)
theorem proved : Rows.MacwilliamsPlessSaid := over
end Go.Proofs.Ytifkbghnmhineaa.macwilliamsPless
namespace Go.Proofs.Ytifkbghnmhineaa
theorem macwilliamsPless_holds : Rows.MacwilliamsPlessSaid := macwilliamsPless.proved
end Go.Proofs.Ytifkbghnmhineaa
end
