/- The statement MacwilliamsInverts, proved for every input, and what it rests on. No condition. -/
import Derived.Test.YtifkbghnmhineaaQInverts4

section
set_option linter.unusedVariables false
set_option linter.unusedSimpArgs false
namespace Mw
open Go Go.RowKit Go.Proofs.YtifkbghnmhineaaW.PrintWords Go.Proofs.YtifkbghnmhineaaW.PrintLast Go.Proofs.YtifkbghnmhineaaW.PrintMore Go.Proofs.Ytifkbghnmhineaa.PAll
def gT (g c : Nat) (z : Nat → Int) (j i : Nat) : Int := z i * kr (g : Int) (c - 1 - i) i j
def gS (g c : Nat) (z : Nat → Int) (j : Nat) : Int := sm c (gT g c z j)
theorem gT_len {g c M : Nat} {z : Nat → Int} (hz : ∀ i, i < c → (dg (z i).natAbs).length ≤ M) (hc : c ≤ 65) (hg : g < 4294967296) {j i : Nat} (hi : i < c) (hj : j < c) : (dg (gT g c z j i).natAbs).length ≤ M + 324 := by
  have := mulq_len (hz i hi) (kr_len (g := g) (a := c - 1 - i) (b := i) (k := j) hg (by omega) (by omega) (by omega))
  unfold gT; omega
theorem gS_len {g c M : Nat} {z : Nat → Int} (hz : ∀ i, i < c → (dg (z i).natAbs).length ≤ M) (hc : c ≤ 65) (hg : g < 4294967296) {j m : Nat} (hm : m ≤ c) (hj : j < c) : (dg (sm m (gT g c z j)).natAbs).length ≤ M + 325 :=
  sm_len (by omega) (fun i hi => gT_len hz hc hg (by omega) hj)
structure OutG (g c : Nat) (z : Nat → Int) (j m : Nat) (o : List S113) : Prop where
  len : o.length = c
  below : ∀ j', j' < j → Num (rd_T113 o (j' : Int)) (gS g c z j')
  here : j < c → Num (rd_T113 o (j : Int)) (sm m (gT g c z j))
  above : ∀ j', j < j' → j' < c → Num (rd_T113 o (j' : Int)) 0
theorem sumsG_loop {g c M : Nat} {z : Nat → Int} {w : List S113} {t : List (List S113)} (hz : ∀ i, i < c → (dg (z i).natAbs).length ≤ M) (hM : M < 1048576) (hc : c ≤ 65) (hg : g < 256) (hwl : w.length = c) (hw : ∀ i, i < c → Num (rd_T113 w (i : Int)) (z i)) (ht : Tab g (c - 1) c t) : ∀ (d j : Nat), j + d = c → ∀ (o : List S113), OutG g c z j 0 o →
    Rz (fun o => o.length = c ∧ ∀ j, j < c → Num (rd_T113 o (j : Int)) (gS g c z j)) (fun k => mw_sums.l0 k w t o (c : Int) (j : Int)) := by
  intro d
  induction d with
  | zero =>
    intro j hj o ho
    have hj : j = c := by omega
    subst hj
    refine Rz.succ ?_
    simp only [mw_sums.l0, if_neg (show ¬ (j : Int) < (j : Int) from Int.lt_irrefl _)]
    exact Rz.some ⟨ho.len, ho.below⟩
  | succ d ih =>
    intro j hj o ho
    have hjl : j < c := by omega
    refine Rz.succ ?_
    simp only [mw_sums.l0, if_pos (show (j : Int) < (c : Int) by omega)]
    rw [hwl]
    have inner : ∀ (d2 i : Nat), i + d2 = c → ∀ (o : List S113), OutG g c z j i o → Rz (fun o => o.length = c ∧ ∀ j, j < c → Num (rd_T113 o (j : Int)) (gS g c z j)) (fun k => mw_sums.l1 k w t o (j : Int) (c : Int) (j : Int) w (c : Int) (i : Int)) := by
      intro d2
      induction d2 with
      | zero =>
        intro i hi o ho
        have hi : i = c := by omega
        subst hi
        refine Rz.succ ?_
        simp only [mw_sums.l1, if_neg (show ¬ (i : Int) < (i : Int) from Int.lt_irrefl _), wn (show (j : Int) + 1 = ((j + 1 : Nat) : Int) by omega) (by omega)]
        refine ih (j + 1) (by omega) o ⟨ho.len, fun j' hj' => ?_, fun hlt => ?_, fun j' h1 h2 => ho.above j' (by omega) h2⟩
        · by_cases e : j' = j
          · subst e; exact ho.here hjl
          · exact ho.below j' (by omega)
        · exact ho.above (j + 1) (by omega) hlt
      | succ d2 ih2 =>
        intro i hi o ho
        have hil : i < c := by omega
        obtain ⟨b0, n0, ew, s0⟩ := hw i hil
        have hol := ho.len
        have hrow := ht.at' i hil
        have hrl := hrow.len
        have htl := ht.len
        have ea : (dg n0).length ≤ M := by rw [sg_len s0]; exact hz i hil
        refine Rz.succ ?_
        simp only [mw_sums.l1, if_pos (show (i : Int) < (c : Int) by omega), if_pos (show (0 : Int) ≤ (i : Int) from Int.natCast_nonneg _), if_pos (show (i : Int) < (w.length : Int) by omega), ew, wn (show (i : Int) + 1 = ((i + 1 : Nat) : Int) by omega) (by omega)]
        by_cases h0 : n0 = 0
        · have hzz : ¬ ((dg n0).length : Int) > 0 := by rw [h0, dg_zero]; simp
          simp only [if_neg hzz]
          refine ih2 (i + 1) (by omega) o ⟨ho.len, ho.below, fun h => ?_, ho.above⟩
          have := ho.here h
          have e : sm (i + 1) (gT g c z j) = sm i (gT g c z j) := by
            rw [sm]
            have : gT g c z j i = 0 := by unfold gT; rw [← s0, h0, sg_zero]; simp
            omega
          rw [e]; exact this
        · have hnz : ((dg n0).length : Int) > 0 := by
            have : (dg n0).length ≠ 0 := by rw [Ne, dg_len_zero]; exact h0
            omega
          obtain ⟨b2, n2, e2, s2⟩ := hrow.at' j (by omega)
          obtain ⟨b1, n1, e1, s1⟩ := ho.here hjl
          have l2 : (dg n2).length ≤ 324 := by rw [sg_len s2]; exact kr_len (by omega) (by omega) (by omega) (by omega)
          have l1 : (dg n1).length ≤ M + 325 := by rw [sg_len s1]; exact gS_len hz hc (by omega) (by omega) hjl
          obtain ⟨b3, n3, v3, s3⟩ := ntimes_ev (b1 := b0) (b2 := b2) (n1 := n0) (n2 := n2) (by omega) (by omega)
          have l3 : (dg n3).length ≤ M + 324 := by
            have t : n3 = n0 * n2 := by rw [sg_len s3, Int.natAbs_mul, sg_abs, sg_abs]
            have := mul_len n0 n2
            rw [t]; omega
          obtain ⟨b4, n4, v4, s4⟩ := nplus_ev (b1 := b1) (b2 := b3) (n1 := n1) (n2 := n3) (by omega) (by omega)
          simp only [if_pos hnz, if_pos (show (0 : Int) ≤ (j : Int) from Int.natCast_nonneg _), if_pos (show (j : Int) < (o.length : Int) by omega), if_pos (show (i : Int) < (t.length : Int) by omega), if_pos (show (j : Int) < ((rd_L6 t (i : Int)).length : Int) by omega), e1, e2, Int.toNat_natCast]
          refine Rz.bind v3 ?_
          refine Rz.bind v4 ?_
          refine ih2 (i + 1) (by omega) _ ⟨by rw [List.length_set]; exact hol, fun j' hj' => ?_, fun _ => ?_, fun j' h1 h2 => ?_⟩
          · rw [rdT_set_ne (by omega)]; exact ho.below j' hj'
          · rw [rdT_set_eq (by omega)]
            refine ⟨b4, n4, rfl, ?_⟩
            rw [s4, s3, s1, s2, s0, sm]
            rfl
          · rw [rdT_set_ne (by omega)]; exact ho.above j' h1 h2
    exact inner c 0 (by omega) o ho
theorem sumsG_ev {q c M : Nat} {z : Nat → Int} {w : List S113} (hz : ∀ i, i < c → (dg (z i).natAbs).length ≤ M) (hM : M < 1048576) (h1 : 1 ≤ c) (hc : c ≤ 65) (hq : 2 ≤ q) (hq2 : q ≤ 256) (hwl : w.length = c) (hw : ∀ i, i < c → Num (rd_T113 w (i : Int)) (z i)) :
    Rz (fun o => o.length = c ∧ ∀ j, j < c → Num (rd_T113 o (j : Int)) (gS (q - 1) c z j)) (fun k => mw_sums.f k (q : Int) w) := by
  obtain ⟨t, ht, hT⟩ := table_ev (q := q) (n := c - 1) hq hq2 (by omega)
  rw [show c - 1 + 1 = c by omega] at hT
  simp only [mw_sums.f, hwl, wn (show (c : Int) - 1 = ((c - 1 : Nat) : Int) by omega) (by omega)]
  refine Rz.bind ht ?_
  simp only [if_pos (show (0 : Int) ≤ (c : Int) from Int.natCast_nonneg _), Int.toNat_natCast, if_pos (show c ≤ 8796093022208 by omega), Option.bind_some, List.length_replicate]
  have hzz : ∀ j : Nat, Num (rd_T113 (List.replicate c z113) (j : Int)) 0 := by
    intro j
    have : rd_T113 (List.replicate c z113) (j : Int) = z113 := by
      unfold rd_T113
      simp only [Int.toNat_natCast, List.getD_eq_getElem?_getD]
      by_cases h : j < c
      · simp [h]
      · rw [List.getElem?_eq_none (by simp; omega)]; rfl
    rw [this]; exact num_zero
  exact sumsG_loop hz hM hc (by omega) hwl hw hT c 0 (by omega) _ ⟨List.length_replicate, fun j' h => by omega, fun _ => hzz 0, fun j' _ _ => hzz j'⟩
def eN (a : List S60) (i : Nat) : Nat := (qn (rd_T60 a (i : Int))).natAbs / Nat.gcd (qn (rd_T60 a (i : Int))).natAbs (qd (rd_T60 a (i : Int)))
def eD (a : List S60) (i : Nat) : Nat := qd (rd_T60 a (i : Int)) / Nat.gcd (qn (rd_T60 a (i : Int))).natAbs (qd (rd_T60 a (i : Int)))
def eB (a : List S60) (i : Nat) : Bool := decide (qn (rd_T60 a (i : Int)) < 0)
theorem e_rq (a : List S60) (i : Nat) : rq (qn (rd_T60 a (i : Int))) (qd (rd_T60 a (i : Int))) = (eB a i, dg (eN a i), dg (eD a i)) := rfl
theorem eD_ne (a : List S60) (i : Nat) : eD a i ≠ 0 := by
  have hd := qd_ne (rd_T60 a (i : Int))
  have h := Nat.div_mul_cancel (Nat.gcd_dvd_right (qn (rd_T60 a (i : Int))).natAbs (qd (rd_T60 a (i : Int))))
  intro e
  unfold eD at e
  rw [e, Nat.zero_mul] at h
  exact hd h.symm
theorem e_low (a : List S60) (i : Nat) : rq (sg (eB a i) (eN a i)) (eD a i) = rq (qn (rd_T60 a (i : Int))) (qd (rd_T60 a (i : Int))) := by
  obtain ⟨m, e, g, hg, he, hr, hn, hde, hm, hee⟩ := rq_parts (n := qn (rd_T60 a (i : Int))) (qd_ne (rd_T60 a (i : Int)))
  rw [e_rq] at hr
  simp only [Prod.mk.injEq] at hr
  have h1 := dg_inj hr.2.1
  have h2 := dg_inj hr.2.2
  rw [h1, h2, hr.1]
  conv => rhs; rw [hn, hde]
  rw [rq_scale hg]
structure Ql (M : Nat) (a : List S60) : Prop where
  at' : ∀ i, i < a.length → Lq M (rd_T60 a (i : Int))
  few : a.length ≤ 65
theorem eN_len {M : Nat} {a : List S60} (h : Ql M a) {i : Nat} (hi : i < a.length) : (dg (eN a i)).length ≤ M := Nat.le_trans (dg_len_mono (Nat.div_le_self _ _)) (h.at' i hi).qn_len
theorem eD_len {M : Nat} {a : List S60} (h : Ql M a) (hM : 1 ≤ M) {i : Nat} (hi : i < a.length) : (dg (eD a i)).length ≤ M := Nat.le_trans (dg_len_mono (Nat.div_le_self _ _)) ((h.at' i hi).qd_len hM)
def eL (a : List S60) : Nat → Nat
  | 0 => 1
  | i + 1 => eL a i * (eD a i / Nat.gcd (eD a i) (eL a i))
theorem eL_ne (a : List S60) : ∀ i, eL a i ≠ 0 := by
  intro i
  induction i with
  | zero => exact Nat.one_ne_zero
  | succ i ih =>
    rw [eL]
    refine Nat.mul_ne_zero ih ?_
    have h := Nat.div_mul_cancel (Nat.gcd_dvd_left (eD a i) (eL a i))
    intro e
    rw [e, Nat.zero_mul] at h
    exact eD_ne a i h.symm
theorem eL_dvd (a : List S60) : ∀ i t, t < i → eD a t ∣ eL a i := by
  intro i
  induction i with
  | zero => intro t h; omega
  | succ i ih =>
    intro t h
    rw [eL]
    by_cases e : t = i
    · subst e
      have h1 := Nat.gcd_dvd_right (eD a t) (eL a t)
      have h2 := Nat.div_mul_cancel (Nat.gcd_dvd_left (eD a t) (eL a t))
      obtain ⟨c, hc⟩ := h1
      refine ⟨c, ?_⟩
      generalize Nat.gcd (eD a t) (eL a t) = g at *
      generalize eD a t / g = y at *
      rw [hc, ← h2]
      grind
    · exact Nat.dvd_trans (ih t (by omega)) (Nat.dvd_mul_right _ _)
theorem eL_len {M : Nat} {a : List S60} (h : Ql M a) (hM : 1 ≤ M) : ∀ i, i ≤ a.length → (dg (eL a i)).length ≤ M * i + 1 := by
  intro i
  induction i with
  | zero => intro _; rw [eL, one_len]; omega
  | succ i ih =>
    intro hi
    have h1 := ih (by omega)
    have h2 := eD_len h hM (i := i) (by omega)
    have h3 := dg_len_mono (Nat.div_le_self (eD a i) (Nat.gcd (eD a i) (eL a i)))
    have := mul_len (eL a i) (eD a i / Nat.gcd (eD a i) (eL a i))
    rw [eL, Nat.mul_succ]
    omega
def eZ (a : List S60) (i : Nat) : Int := sg (eB a i) (eN a i * (eL a a.length / eD a i))
theorem e_whole {a : List S60} {i : Nat} (hi : i < a.length) : rq (eZ a i) (eL a a.length) = rq (qn (rd_T60 a (i : Int))) (qd (rd_T60 a (i : Int))) := by
  rw [← e_low]
  have hd := Nat.div_mul_cancel (eL_dvd a a.length i hi)
  have hne : eL a a.length / eD a i ≠ 0 := by
    intro e
    rw [e, Nat.zero_mul] at hd
    exact eL_ne a a.length hd.symm
  have h1 : eZ a i = sg (eB a i) (eN a i) * ((eL a a.length / eD a i : Nat) : Int) := by
    unfold eZ sg
    cases eB a i <;> simp [Int.neg_mul]
  rw [h1]
  conv => lhs; rw [show eL a a.length = eD a i * (eL a a.length / eD a i) by rw [Nat.mul_comm]; exact hd.symm]
  rw [show eD a i * (eL a a.length / eD a i) / eD a i = eL a a.length / eD a i from Nat.mul_div_cancel_left _ (by have := eD_ne a i; omega)]
  exact rq_scale hne
theorem rdQ_map {c : Nat} {f : Nat → S60} {i : Nat} (h : i < c) : rd_T60 ((List.range c).map f) (i : Int) = f i := by
  unfold rd_T60
  simp [List.getD_eq_getElem?_getD, h]
theorem rdS_map {c : Nat} {f : Nat → S113} {i : Nat} (h : i < c) : rd_T113 ((List.range c).map f) (i : Int) = f i := by
  unfold rd_T113
  simp [List.getD_eq_getElem?_getD, h]
def tRes (g : Nat) (a : List S60) : List S60 := (List.range a.length).map (fun j => qS (rq (gS g a.length (eZ a) j) (eL a a.length)))
theorem eZ_len {M : Nat} {a : List S60} (h : Ql M a) (hM : 1 ≤ M) {i : Nat} (hi : i < a.length) : (dg (eZ a i).natAbs).length ≤ M + (M * 65 + 1) := by
  have h1 := eN_len h hi
  have h2 := eL_len h hM a.length (Nat.le_refl _)
  have h3 := dg_len_mono (Nat.div_le_self (eL a a.length) (eD a i))
  have h4 := mul_len (eN a i) (eL a a.length / eD a i)
  have h5 : M * a.length ≤ M * 65 := Nat.mul_le_mul_left _ h.few
  unfold eZ
  rw [sg_abs]
  omega
theorem ratio_loop {g M : Nat} {a : List S60} {o : List S113} (h : Ql M a) (hM : 1 ≤ M) (hM2 : M ≤ 1000) (hg : g < 256) (hol : o.length = a.length) (ho : ∀ j, j < a.length → Num (rd_T113 o (j : Int)) (gS g a.length (eZ a) j)) : ∀ (d j : Nat), j + d = a.length →
    Ev (fun k => mw_Transform.l2 k (dg (eL a a.length)) ((List.range j).map (fun j => qS (rq (gS g a.length (eZ a) j) (eL a a.length)))) o (a.length : Int) (j : Int)) (tRes g a, 0) := by
  intro d
  have few := h.few
  have hLl := eL_len h hM a.length (Nat.le_refl _)
  have h65 : M * a.length ≤ M * 65 := Nat.mul_le_mul_left _ few
  induction d with
  | zero =>
    intro j hj
    have hj : j = a.length := by omega
    subst hj
    refine Ev.succ ?_
    simp only [mw_Transform.l2, if_neg (show ¬ (a.length : Int) < (a.length : Int) from Int.lt_irrefl _)]
    exact Ev.some _
  | succ d ih =>
    intro j hj
    have hjl : j < a.length := by omega
    obtain ⟨b, n, e, s⟩ := ho j hjl
    have hn : n = (gS g a.length (eZ a) j).natAbs := sg_len s
    have hnl : (dg n).length ≤ M + (M * 65 + 1) + 325 := by rw [hn]; exact gS_len (fun i hi => eZ_len h hM hi) few (by omega) (Nat.le_refl _) hjl
    have hrl : ((List.range j).map (fun j => qS (rq (gS g a.length (eZ a) j) (eL a a.length)))).length = j := by simp
    have hL0 := eL_ne a a.length
    have hq : Lq 100000 (⟨b, dg n, dg (eL a a.length)⟩ : S60) := ⟨lm_dg _, lm_dg _, by simp only; omega, by simp only; omega⟩
    have tr := ntrimR_ev hq (by omega)
    have e1 : qn (⟨b, dg n, dg (eL a a.length)⟩ : S60) = gS g a.length (eZ a) j := by
      unfold qn
      simp only [lv_dg, Int.toNat_natCast]
      rw [if_neg hL0, s]
    have e2 : qd (⟨b, dg n, dg (eL a a.length)⟩ : S60) = eL a a.length := by
      unfold qd
      simp only [lv_dg, Int.toNat_natCast]
      rw [if_neg hL0]
    rw [e1, e2] at tr
    have nx := ih (j + 1) (by omega)
    rw [map_range_succ] at nx
    refine Ev.succ ?_
    simp only [mw_Transform.l2, if_pos (show (j : Int) < (a.length : Int) by omega), if_pos (show (0 : Int) ≤ (j : Int) from Int.natCast_nonneg _), if_pos (show (j : Int) < (o.length : Int) by omega), e, wn (show (j : Int) + 1 = ((j + 1 : Nat) : Int) by omega) (by omega), hrl, if_pos (show j < 2513169434916 by omega), mw_ratio.f]
    refine Ev.bind (Ev.bind tr (Ev.some _)) ?_
    exact nx
theorem nwhole_loop {q M : Nat} {a : List S60} (h : Ql M a) (h1 : 1 ≤ a.length) (hM : 1 ≤ M) (hM2 : M ≤ 1000) (hq : 2 ≤ q) (hq2 : q ≤ 256) : ∀ (d i : Nat), i + d = a.length →
    Ev (fun k => mw_Transform.l1 k (q : Int) (dg (eL a a.length)) ((List.range i).map (fun t => (⟨eB a t, dg (eN a t * (eL a a.length / eD a t))⟩ : S113))) ((List.range a.length).map (fun t => (⟨eB a t, dg (eN a t), dg (eD a t)⟩ : S60))) (a.length : Int) (i : Int)) (tRes (q - 1) a, 0) := by
  intro d
  have few := h.few
  have hLl := eL_len h hM a.length (Nat.le_refl _)
  have h65 : M * a.length ≤ M * 65 := Nat.mul_le_mul_left _ few
  induction d with
  | zero =>
    intro i hi
    have hi : i = a.length := by omega
    subst hi
    obtain ⟨o, hev, hol, ho⟩ := sumsG_ev (q := q) (c := a.length) (z := eZ a) (fun i hi => eZ_len h hM hi) (by omega) h1 few hq hq2 (w := (List.range a.length).map (fun t => (⟨eB a t, dg (eN a t * (eL a a.length / eD a t))⟩ : S113))) (by simp) (fun i hi => ⟨eB a i, eN a i * (eL a a.length / eD a i), rdS_map hi, rfl⟩)
    refine Ev.succ ?_
    simp only [mw_Transform.l1, if_neg (show ¬ (a.length : Int) < (a.length : Int) from Int.lt_irrefl _)]
    refine Ev.bind hev ?_
    rw [hol]
    exact ratio_loop h hM hM2 (by omega) hol ho a.length 0 (by omega)
  | succ d ih =>
    intro i hi
    have hil : i < a.length := by omega
    have l1 := eN_len h hil
    have l2 := eD_len h hM hil
    have l3 := dg_len_mono (Nat.div_le_self (eL a a.length) (eD a i))
    have nx := ih (i + 1) (by omega)
    rw [map_range_succ] at nx
    refine Ev.succ ?_
    have hwl : ((List.range i).map (fun t => (⟨eB a t, dg (eN a t * (eL a a.length / eD a t))⟩ : S113))).length = i := by simp
    have hal : ((List.range a.length).map (fun t => (⟨eB a t, dg (eN a t), dg (eD a t)⟩ : S60))).length = a.length := by simp
    simp only [mw_Transform.l1, hal, hwl, if_pos (show (i : Int) < (a.length : Int) by omega), if_pos (show (0 : Int) ≤ (i : Int) from Int.natCast_nonneg _), rdQ_map hil, wn (show (i : Int) + 1 = ((i + 1 : Nat) : Int) by omega) (by omega), if_pos (show i < 4398046511104 by omega)]
    refine Ev.bind (ndivmod_ev (eD_ne a i) (by omega) (by omega)) ?_
    refine Ev.bind (mul2_ev (by omega) (by omega)) ?_
    exact nx
theorem ntrim_loop {q M : Nat} {a : List S60} (h : Ql M a) (h1 : 1 ≤ a.length) (hM : 1 ≤ M) (hM2 : M ≤ 1000) (hq : 2 ≤ q) (hq2 : q ≤ 256) : ∀ (d i : Nat), i + d = a.length →
    Ev (fun k => mw_Transform.l0 k (q : Int) (dg (eL a i)) ((List.range i).map (fun t => (⟨eB a t, dg (eN a t), dg (eD a t)⟩ : S60))) a (a.length : Int) (i : Int)) (tRes (q - 1) a, 0) := by
  intro d
  have few := h.few
  have h65 : M * a.length ≤ M * 65 := Nat.mul_le_mul_left _ few
  induction d with
  | zero =>
    intro i hi
    have hi : i = a.length := by omega
    subst hi
    have hal : ((List.range a.length).map (fun t => (⟨eB a t, dg (eN a t), dg (eD a t)⟩ : S60))).length = a.length := by simp
    refine Ev.succ ?_
    simp only [mw_Transform.l0, if_neg (show ¬ (a.length : Int) < (a.length : Int) from Int.lt_irrefl _), hal]
    exact nwhole_loop h h1 hM hM2 hq hq2 a.length 0 (by omega)
  | succ d ih =>
    intro i hi
    have hil : i < a.length := by omega
    have hx := h.at' i hil
    have l2 := eD_len h hM hil
    have l3 := eL_len h hM i (by omega)
    have l4 : M * i ≤ M * 65 := Nat.mul_le_mul_left _ (by omega)
    have l5 := dg_len_mono (Nat.div_le_self (eD a i) (Nat.gcd (eD a i) (eL a i)))
    have hg : Nat.gcd (eD a i) (eL a i) ≠ 0 := fun e => eD_ne a i (Nat.gcd_eq_zero_iff.mp e).1
    have l6 := dg_len_mono (Nat.gcd_le_left (eL a i) (show 0 < eD a i by have := eD_ne a i; omega))
    have nx := ih (i + 1) (by omega)
    rw [map_range_succ] at nx
    have hal : ((List.range i).map (fun t => (⟨eB a t, dg (eN a t), dg (eD a t)⟩ : S60))).length = i := by simp
    have tr := ntrimR_ev hx (by omega)
    rw [e_rq] at tr
    refine Ev.succ ?_
    simp only [mw_Transform.l0, hal, if_pos (show (i : Int) < (a.length : Int) by omega), if_pos (show (0 : Int) ≤ (i : Int) from Int.natCast_nonneg _), wn (show (i : Int) + 1 = ((i + 1 : Nat) : Int) by omega) (by omega), if_pos (show i < 2513169434916 by omega)]
    refine Ev.bind tr ?_
    refine Ev.bind (ngcdG_ev (by omega) (by omega)) ?_
    refine Ev.bind (ndivmod_ev hg (by omega) (by omega)) ?_
    refine Ev.bind (mul2_ev (by omega) (by omega)) ?_
    exact nx
theorem ntrans_ev {q M : Nat} {a : List S60} (h : Ql M a) (h1 : 1 ≤ a.length) (hM : 1 ≤ M) (hM2 : M ≤ 1000) (hq : 2 ≤ q) (hq2 : q ≤ 256) :
    Ev (fun k => mw_Transform.f k (q : Int) a) (tRes (q - 1) a, 0) := by
  have few := h.few
  have hsh : mw_wrong.f (q : Int) (a.length : Int) = some 0 := by
    simp only [mw_wrong.f, mw_shape.f, if_neg (show ¬ (q : Int) < 2 by omega), if_neg (show ¬ (q : Int) > 256 by omega), if_neg (show ¬ (a.length : Int) < 1 by omega), if_neg (show ¬ (a.length : Int) > 65 by omega), Option.bind_some]
  simp only [mw_Transform.f, hsh, Option.bind_some, if_true, show ([1] : List Int) = dg 1 from dg_one.symm]
  exact ntrim_loop h h1 hM hM2 hq hq2 a.length 0 (by omega)
theorem rq_mulK {n n' K : Int} {d d' : Nat} (hd : d ≠ 0) (hd' : d' ≠ 0) (h : rq n d = rq n' d') : rq (n * K) d = rq (n' * K) d' := by
  obtain ⟨m1, e1, g1, hg1, he1, hr1, hn1, hde1, _, _⟩ := rq_parts (n := n) hd
  obtain ⟨m2, e2, g2, hg2, he2, hr2, hn2, hde2, _, _⟩ := rq_parts (n := n') hd'
  rw [hr1, hr2] at h
  simp only [Prod.mk.injEq] at h
  have h1 := dg_inj h.2.1
  have h2 := dg_inj h.2.2
  have k1 : n * K = (sg (decide (n < 0)) m1 * K) * (g1 : Int) := by conv => lhs; rw [hn1]
                                                                    grind
  have k2 : n' * K = (sg (decide (n' < 0)) m2 * K) * (g2 : Int) := by conv => lhs; rw [hn2]
                                                                      grind
  rw [k1, k2, hde1, hde2, rq_scale hg1, rq_scale hg2, h1, h2, h.1]
theorem rmulR_ev {M : Nat} {e : S60} {c : Int} {d : Nat} (h : Lq M e) (hM1 : 1 ≤ M) (hM : M < 131072) (h2 : FewQ c d) : Ev (fun k => r2_Mul.f k e.f0 e.f1 e.f2 (rq c d).1 (rq c d).2.1 (rq c d).2.2) (rq (qn e * c) (qd e * d)) := by
  have f1 : FewQ (qn e) (qd e) := ⟨qd_ne e, by have := h.qn_len; omega, by have := h.qd_len hM1; omega⟩
  have g := rmulG_ev f1 h2
  simp only [r2_Mul.f] at g ⊢
  have g := Ev.unbind (rtrimG_ev f1) g
  exact Ev.bind (rtrimR_ev h hM) g
theorem rdQ_lt {l : List S60} {i : Nat} (h : i < l.length) : rd_T60 l (i : Int) = l[i] := by
  unfold rd_T60
  simp [List.getD_eq_getElem?_getD, h]
def Hld (e : S60) : Prop := Lm e.f1 ∧ Lm e.f2 ∧ e.f1.length ≤ 140737488355328 ∧ e.f2.length ≤ 140737488355328
theorem large_ev {l : List S60} {m : Nat} (hlen : l.length ≤ 9223372036854775807) (hl : ∀ e ∈ l, Hld e) : Ev (fun k => w24_large.f k (m : Int) l) (decide (∃ x ∈ l, m < x.f1.length + x.f2.length)) := by
  have loop : ∀ (d i : Nat), i + d = l.length → (∀ j : Nat, (h : j < i) → (h2 : j < l.length) → l[j].f1.length + l[j].f2.length ≤ m) → Ev (fun k => w24_large.l0 k (m : Int) l (i : Int)) (decide (∃ x ∈ l, m < x.f1.length + x.f2.length)) := by
    intro d
    induction d with
    | zero =>
      intro i hi hp
      refine Ev.succ ?_
      simp only [w24_large.l0, if_neg (show ¬ (i : Int) < (l.length : Int) by omega)]
      refine Ev.cast (Ev.some _) (decide_eq_false (fun ⟨x, hx, hl⟩ => ?_)).symm
      obtain ⟨j, hj, e⟩ := List.getElem_of_mem hx
      have := hp j (by omega) hj
      rw [e] at this
      omega
    | succ d ih =>
      intro i hi hp
      have hil : i < l.length := by omega
      have hx := hl l[i] (List.getElem_mem hil)
      have h1 := hx.2.2.1
      have h2 := hx.2.2.2
      have ew : wrap64 ((l[i].f1.length : Int) + (l[i].f2.length : Int)) = ((l[i].f1.length + l[i].f2.length : Nat) : Int) := wn (by omega) (by omega)
      have ei : wrap64 ((i : Int) + 1) = ((i + 1 : Nat) : Int) := wn (by clear ew; omega) (by clear ew; omega)
      refine Ev.succ ?_
      simp only [w24_large.l0, if_pos (show (i : Int) < (l.length : Int) by clear ew ei; omega), if_pos (show (0 : Int) ≤ (i : Int) from Int.natCast_nonneg _), rdQ_lt hil, ew, ei]
      clear ew ei
      by_cases h : ((l[i].f1.length + l[i].f2.length : Nat) : Int) > (m : Int)
      · simp only [if_pos h]
        refine Ev.cast (Ev.some _) (decide_eq_true ⟨l[i], List.getElem_mem hil, by omega⟩).symm
      · simp only [if_neg h]
        refine ih (i + 1) (by omega) (fun j h1 h2 => ?_)
        by_cases e : j = i
        · subst e; omega
        · exact hp j (by omega) h2
  simp only [w24_large.f]
  exact loop l.length 0 (by omega) (fun j h => by omega)
theorem rqsame_ev {a b c : Bool × List Int × List Int} (h1 : a.2.1.length < 549755813888) (h2 : a.2.2.length < 549755813888) (h : a = b) : Ev (fun k => r2_Same.f k a.1 a.2.1 a.2.2 b.1 b.2.1 b.2.2) true := by
  subst h
  have hs : (a.1 == a.1) = true := by simp
  simp only [r2_Same.f, hs, if_true]
  refine Ev.bind (same_ev _ _ h1) ?_
  simp only [decide_true, if_true]
  refine Ev.bind (same_ev _ _ h2) ?_
  exact Ev.cast (Ev.some _) (by simp)
theorem tRes_len {g M : Nat} {a : List S60} (h : Ql M a) (hM : 1 ≤ M) (hg : g < 256) : (tRes g a).length = a.length ∧ ∀ i, i < a.length → rd_T60 (tRes g a) (i : Int) = qS (rq (gS g a.length (eZ a) i) (eL a a.length)) := by
  unfold tRes
  exact ⟨by simp, fun i hi => rdQ_map hi⟩
theorem tRes_lq {g M : Nat} {a : List S60} (h : Ql M a) (hM : 1 ≤ M) (hg : g < 256) {i : Nat} (hi : i < a.length) : Lq (M * 66 + 326) (rd_T60 (tRes g a) (i : Int)) := by
  rw [(tRes_len h hM hg).2 i hi]
  have l1 := gS_len (g := g) (c := a.length) (z := eZ a) (fun i hi => eZ_len h hM hi) h.few (by omega) (Nat.le_refl _) hi
  have l1 : (dg (gS g a.length (eZ a) i).natAbs).length ≤ M + (M * 65 + 1) + 325 := l1
  have l2 := eL_len h hM a.length (Nat.le_refl _)
  have l3 : M * a.length ≤ M * 65 := Nat.mul_le_mul_left _ h.few
  have l4 := dg_len_mono (Nat.div_le_self (gS g a.length (eZ a) i).natAbs (Nat.gcd (gS g a.length (eZ a) i).natAbs (eL a a.length)))
  have l5 := dg_len_mono (Nat.div_le_self (eL a a.length) (Nat.gcd (gS g a.length (eZ a) i).natAbs (eL a a.length)))
  exact ⟨lm_dg _, lm_dg _, by show (dg _).length ≤ _; omega, by show (dg _).length ≤ _; omega⟩
theorem rq_cross {n n' : Int} {d d' : Nat} (hd : d ≠ 0) (hd' : d' ≠ 0) (h : n * (d' : Int) = n' * (d : Int)) : rq n d = rq n' d' := by
  rw [← rq_scale (n := n) (d := d) hd', h, Nat.mul_comm, rq_scale hd]
theorem rq_cross_inv {n n' : Int} {d d' : Nat} (hd : d ≠ 0) (hd' : d' ≠ 0) (h : rq n d = rq n' d') : n * (d' : Int) = n' * (d : Int) := by
  obtain ⟨m1, e1, g1, hg1, he1, hr1, hn1, hde1, _, _⟩ := rq_parts (n := n) hd
  obtain ⟨m2, e2, g2, hg2, he2, hr2, hn2, hde2, _, _⟩ := rq_parts (n := n') hd'
  rw [hr1, hr2] at h
  simp only [Prod.mk.injEq] at h
  have h1 := dg_inj h.2.1
  have h2 := dg_inj h.2.2
  have k1 : (d' : Int) = (e2 : Int) * (g2 : Int) := by rw [hde2, Int.natCast_mul]
  have k2 : (d : Int) = (e1 : Int) * (g1 : Int) := by rw [hde1, Int.natCast_mul]
  rw [k1, k2]
  conv => lhs; rw [hn1]
  conv => rhs; rw [hn2]
  rw [h1, h2, h.1]
  grind
theorem rq_again {n : Int} {d : Nat} (hd : d ≠ 0) : rq (qn (qS (rq n d))) (qd (qS (rq n d))) = rq n d := by
  obtain ⟨m, e, g, hg, he, hr, hn, hde, _, _⟩ := rq_parts (n := n) hd
  have e1 : qn (qS (rq n d)) = sg (decide (n < 0)) m := by
    rw [hr]
    unfold qn qS
    simp only [lv_dg, Int.toNat_natCast]
    rw [if_neg he]
  have e2 : qd (qS (rq n d)) = e := by
    rw [hr]
    unfold qd qS
    simp only [lv_dg, Int.toNat_natCast]
    rw [if_neg he]
  rw [e1, e2]
  conv => rhs; rw [hn, hde]
  rw [rq_scale hg]
theorem tRes_ql {g M : Nat} {a : List S60} (h : Ql M a) (hM : 1 ≤ M) (hg : g < 256) : Ql (M * 66 + 326) (tRes g a) := by
  have hr := tRes_len h hM hg
  exact ⟨fun i hi => tRes_lq h hM hg (by rw [← hr.1]; exact hi), by rw [hr.1]; exact h.few⟩
theorem twice {q M : Nat} {a : List S60} (h : Ql M a) (h1 : 1 ≤ a.length) (hM : 1 ≤ M) (hq : 2 ≤ q) (hq2 : q ≤ 256) {s : Nat} (hs : s < a.length) :
    rd_T60 (tRes (q - 1) (tRes (q - 1) a)) (s : Int) = qS (rq (qn (rd_T60 a (s : Int)) * ((q ^ (a.length - 1) : Nat) : Int)) (qd (rd_T60 a (s : Int)))) := by
  have hr := tRes_len (g := q - 1) h hM (by omega)
  have hb := tRes_ql (g := q - 1) h hM (by omega)
  obtain ⟨b, hbd⟩ : ∃ b, b = tRes (q - 1) a := ⟨_, rfl⟩
  rw [← hbd] at hr hb ⊢
  have hr2 := tRes_len (g := q - 1) hb (by omega) (by omega)
  rw [hr2.2 s (by rw [hr.1]; exact hs), hr.1]
  have hLa := eL_ne a a.length
  have hLb := eL_ne b a.length
  have each : ∀ i, i < a.length → eZ b i * (eL a a.length : Int) = gS (q - 1) a.length (eZ a) i * (eL b a.length : Int) := by
    intro i hi
    have e := e_whole (a := b) (i := i) (by rw [hr.1]; exact hi)
    rw [hr.2 i hi, rq_again hLa, hr.1] at e
    exact rq_cross_inv hLb hLa e
  have key : gS (q - 1) a.length (eZ b) s * (eL a a.length : Int) = (eZ a s * ((q ^ (a.length - 1) : Nat) : Int)) * (eL b a.length : Int) := by
    obtain ⟨n, hn⟩ : ∃ n, a.length = n + 1 := ⟨a.length - 1, by omega⟩
    unfold gS
    rw [← sm_mul_right]
    have s1 : sm a.length (fun i => gT (q - 1) a.length (eZ b) s i * (eL a a.length : Int)) = sm a.length (fun i => sm a.length (fun r => (eL b a.length : Int) * eZ a r * (kr ((q - 1 : Nat) : Int) (n - r) r i * kr ((q - 1 : Nat) : Int) (n - i) i s))) := by
      refine sm_congr fun i hi => ?_
      unfold gT
      have e := each i hi
      rw [Int.mul_assoc, Int.mul_comm (kr _ _ _ _), ← Int.mul_assoc, e]
      unfold gS
      rw [Int.mul_assoc, ← sm_mul_right]
      refine sm_congr fun r hr => ?_
      unfold gT
      rw [show a.length - 1 - r = n - r by omega, show a.length - 1 - i = n - i by omega]
      grind
    rw [s1, sm_swap, hn]
    have s2 : ∀ r, r < n + 1 → sm (n + 1) (fun i => (eL b (n + 1) : Int) * eZ a r * (kr ((q - 1 : Nat) : Int) (n - r) r i * kr ((q - 1 : Nat) : Int) (n - i) i s)) = (eL b (n + 1) : Int) * eZ a r * (if r = s then (((q - 1 : Nat) : Int) + 1) ^ n else 0) := by
      intro r hr
      rw [sm_mul, kr_invert _ n r s (by omega) (by omega)]
    rw [sm_congr s2, sm_single (a := s) (by omega)]
    · rw [if_pos rfl, show ((q - 1 : Nat) : Int) + 1 = (q : Int) by omega, Int.natCast_pow, show n + 1 - 1 = n by omega]
      grind
    · intro r _ hne
      rw [if_neg hne, Int.mul_zero]
  rw [rq_cross hLb hLa key, rq_mulK hLa (qd_ne _) (e_whole hs)]
theorem inverts_law {q : Int} {l : List S60} (hq0 : 0 ≤ q) (hq1 : q ≤ 255) (hlen : l.length ≤ 9223372036854775807) (hl : ∀ e ∈ l, Hld e) : Ev (fun k => w24_MacwilliamsInverts.f k q l) true := by
  obtain ⟨n, rfl⟩ : ∃ n : Nat, q = (n : Int) := ⟨q.toNat, by omega⟩
  simp only [w24_MacwilliamsInverts.f]
  refine Ev.bind (large_ev (m := 4) hlen hl) ?_
  by_cases hlong : ∃ x ∈ l, 4 < x.f1.length + x.f2.length
  · simp only [decide_eq_true hlong, if_true]
    exact Ev.some _
  simp only [decide_eq_false hlong, Bool.false_eq_true, if_false]
  have fin : Ev (fun k => w24_MacwilliamsInverts.j0 k (n : Int) l true) true := by
    refine Ev.succ ?_
    simp only [w24_MacwilliamsInverts.j0, if_true]
    exact Ev.some _
  by_cases hq : (n : Int) < 2
  · simp only [if_pos hq]; exact fin
  simp only [if_neg hq]
  by_cases h1 : (l.length : Int) < 1
  · simp only [if_pos h1]; exact fin
  simp only [if_neg h1]
  by_cases h16 : (l.length : Int) > 16
  · simp only [decide_eq_true h16]; exact fin
  simp only [decide_eq_false h16]
  have h : Ql 4 l := ⟨fun i hi => by
    rw [rdQ_lt hi]
    have hx := hl l[i] (List.getElem_mem hi)
    have hb : l[i].f1.length + l[i].f2.length ≤ 4 := by
      by_cases g : 4 < l[i].f1.length + l[i].f2.length
      · exact absurd ⟨l[i], List.getElem_mem hi, g⟩ hlong
      · omega
    exact ⟨hx.1, hx.2.1, by omega, by omega⟩, by omega⟩
  have hr := tRes_len (g := n - 1) h (by omega) (by omega)
  have hb := tRes_ql (g := n - 1) h (by omega) (by omega)
  have hr2 := tRes_len (g := n - 1) hb (by omega) (by omega)
  have ew : wrap64 (n : Int) = (n : Int) := wn rfl (by clear hr hb hr2; omega)
  have t1 := ntrans_ev h (by omega) (by omega) (by omega) (show 2 ≤ n by omega) (by omega)
  have t2 := ntrans_ev hb (by rw [hr.1]; omega) (by omega) (by omega) (show 2 ≤ n by omega) (by omega)
  refine Ev.succ ?_
  simp only [w24_MacwilliamsInverts.j0, Bool.false_eq_true, if_false, ew]
  refine Ev.bind t1 ?_
  refine Ev.bind t2 ?_
  have el : (((tRes (n - 1) (tRes (n - 1) l)).length : Int) != (l.length : Int)) = false := by
    rw [hr2.1, hr.1]; simp
  simp only [if_true, el]
  refine Ev.succ ?_
  simp only [w24_MacwilliamsInverts.j1, Bool.false_eq_true, if_false]
  have loop : ∀ (d i : Nat), i + d = l.length → Ev (fun k => w24_MacwilliamsInverts.l0 k (n : Int) l (tRes (n - 1) (tRes (n - 1) l)) (i : Int)) true := by
    intro d
    induction d with
    | zero =>
      intro i hi
      refine Ev.succ ?_
      simp only [w24_MacwilliamsInverts.l0, if_neg (show ¬ (i : Int) < (l.length : Int) by omega)]
      exact Ev.some _
    | succ d ih =>
      intro i hi
      have hil : i < l.length := by omega
      have ei : wrap64 ((i : Int) + 1) = ((i + 1 : Nat) : Int) := wn (by clear ew; omega) (by clear ew; omega)
      have el1 : wrap64 ((l.length : Int) - 1) = ((l.length - 1 : Nat) : Int) := wn (by clear ew ei; omega) (by clear ew ei; omega)
      have hx := h.at' i hil
      have tw := twice h (by clear ew ei el1; omega) (by decide) (show 2 ≤ n by clear ew ei el1; omega) (by clear ew ei el1; omega) hil
      have pl := gpow_len (g := n) (i := l.length - 1) (by clear ew ei el1; omega) (by clear ew ei el1; omega)
      have hf : FewQ (((n ^ (l.length - 1) : Nat) : Nat) : Int) 1 := ⟨by decide, by rw [Int.natAbs_natCast]; clear ew ei el1; omega, by rw [one_len]; decide⟩
      have mu := rmulR_ev hx (by decide) (by decide) hf
      rw [rq_one, Nat.mul_one] at mu
      refine Ev.succ ?_
      simp only [w24_MacwilliamsInverts.l0, if_pos (show (i : Int) < (l.length : Int) by clear ew ei el1; omega), if_pos (show (0 : Int) ≤ (i : Int) from Int.natCast_nonneg _), if_pos (show (i : Int) < ((tRes (n - 1) (tRes (n - 1) l)).length : Int) by rw [hr2.1, hr.1]; clear ew ei el1; omega), ew, ei, el1]
      clear ei el1
      refine Ev.bind (law_pow_ev (by clear ew; omega) (by clear ew; omega)) ?_
      refine Ev.bind mu ?_
      rw [tw]
      have lq := tRes_lq (g := n - 1) hb (by decide) (by clear ew; omega) (i := i) (by rw [hr.1]; exact hil)
      rw [tw] at lq
      refine Ev.bind (rqsame_ev (c := (false, [], [])) (by have := lq.nlen; exact Nat.lt_of_le_of_lt this (by decide)) (by have := lq.dlen; exact Nat.lt_of_le_of_lt this (by decide)) rfl) ?_
      simp only [if_true]
      exact ih (i + 1) (by clear ew; omega)
  exact loop l.length 0 (by clear ew; omega)
end Mw
end
section
namespace Mw
open Go Go.RowKit Go.ChangeShapes Go.WideShapes Go.Deep Go.Proofs Go.Proofs.YtifkbghnmhineaaW.PrintWords Go.Proofs.Ytifkbghnmhineaa.PAll
instance : Inhabited S60 := ⟨z60⟩
set_option maxRecDepth 100000
section
variable {H : Type} {enc : TypeId × Value → H} {w : World} {base : Nat} {held : Bool}
theorem limb_field {fuel : Nat} {cs : List Value} {y : DataW H × List MemPlace} (h : DataW.trod enc Try.prog w base (fun _ => true) held fuel 29 cs = some y) (hw : ∀ n ∈ y.1.weights Try.prog 29, n ≤ reachBytes) :
    ∃ (l : List Int) (A : Option Addr) (c : Nat), cs = [.slice A l.length c] ∧ l.length ≤ c ∧ l.length ≤ 140737488355328 ∧ (Kd.int .u32).C w A l.length l ∧ ∀ n ∈ l, (Lit.int .u32 n).wf = true := by
  rcases open_ints Try.underlying29 Try.underlying97 (by kernel_rfl) h with ⟨hcs, _⟩ | ⟨a, len, cap, zs, hcs, hb, hl, hm, hz, hx, hcell, hwz⟩
  · exact ⟨[], none, 0, hcs, Nat.le_refl _, by simp, Kd.C_nil _ _, fun n hn => by simp at hn⟩
  · simp only [if_true] at hz
    have hm9 : cap ≤ 9223372036854775807 := by simpa [maxLen] using hm
    have hb4 : Try.prog.bytesOf 97 = 4 := by kernel_rfl
    have hlen9 : len ≤ 140737488355328 := by
      have h0 := hw (((lits (H := H) .u32 (zs.take len)).length + (lits (H := H) .u32 (zs.drop len)).length) * Try.prog.bytesOf 97) (by
        rw [hx]
        simp only [DataW.weights, Try.underlying29]
        exact List.mem_cons_self ..)
      have h1 : (lits (H := H) .u32 (zs.take len)).length + (lits (H := H) .u32 (zs.drop len)).length = zs.length := by
        simp [lits]
        omega
      rw [h1, hb4] at h0
      unfold reachBytes at h0
      omega
    have hll : (zs.take len).length = len := by rw [List.length_take]; omega
    refine ⟨zs.take len, some a, cap, by rw [hll]; exact hcs, by omega, by omega, ?_, fun n hn => hwz n (List.mem_of_mem_take hn)⟩
    refine Kd.C_of_reads (d := (0 : Int)) ⟨rfl, by omega, fun hpos => ⟨a, rfl, fun i hi => ?_⟩⟩
    rw [hcell i (by omega)]
    congr 2
    simp only [List.getD_eq_getElem?_getD]
    rw [List.getElem?_take_of_lt (by omega)]
theorem rat_elem {fuel : Nat} {cs : List Value} {y : DataW H × List MemPlace} (h : DataW.trod enc Try.prog w base (fun _ => true) held fuel 60 cs = some y) (hw : ∀ n ∈ y.1.weights Try.prog 60, n ≤ reachBytes) :
    ∃ x : S60, k60.K w x cs ∧ cs.length = 3 ∧ (∀ n ∈ x.f1, (Lit.int .u32 n).wf = true) ∧ (∀ n ∈ x.f2, (Lit.int .u32 n).wf = true) ∧ x.f1.length ≤ 140737488355328 ∧ x.f2.length ≤ 140737488355328 := by
  obtain ⟨xs, n, _, hy, hlen, hxl, hf⟩ := DataW.trod_struct Try.underlying60 h
  have h3 : Try.prog.cellsOf 60 = 3 := by kernel_rfl
  have h4 : Try.prog.cellsOf 4 = 1 := by kernel_rfl
  have h29 : Try.prog.cellsOf 29 = 1 := by kernel_rfl
  rw [h3] at hlen
  obtain ⟨a, b, c, rfl⟩ : ∃ a b c, cs = [a, b, c] := by
    cases cs with
    | nil => simp at hlen
    | cons a cs =>
      cases cs with
      | nil => simp at hlen
      | cons b cs =>
        cases cs with
        | nil => simp at hlen
        | cons c cs =>
          cases cs with
          | nil => exact ⟨a, b, c, rfl⟩
          | cons d cs => simp at hlen
  have hxs : xs.length = 3 := hxl
  obtain ⟨y0, y1, y2, rfl⟩ : ∃ y0 y1 y2, xs = [y0, y1, y2] := by
    cases xs with
    | nil => simp at hxs
    | cons a xs =>
      cases xs with
      | nil => simp at hxs
      | cons b xs =>
        cases xs with
        | nil => simp at hxs
        | cons c xs =>
          cases xs with
          | nil => exact ⟨a, b, c, rfl⟩
          | cons d xs => simp at hxs
  have hw' : ∀ n ∈ DataW.weightsEach Try.prog [4, 29, 29] [y0.1, y1.1, y2.1], n ≤ reachBytes := by
    rw [hy] at hw
    simp only [DataW.weights, Try.underlying60] at hw
    exact hw
  simp only [DataW.weightsEach, List.mem_append] at hw'
  have g0 : DataW.trod enc Try.prog w base (fun _ => true) held n 4 (List.take (Try.prog.cellsOf 4) (List.drop 0 [a, b, c])) = some y0 := hf 0 _ rfl
  have g1 : DataW.trod enc Try.prog w base (fun _ => true) held n 29 (List.take (Try.prog.cellsOf 29) (List.drop 1 [a, b, c])) = some y1 := hf 1 _ rfl
  have g2 : DataW.trod enc Try.prog w base (fun _ => true) held n 29 (List.take (Try.prog.cellsOf 29) (List.drop 2 [a, b, c])) = some y2 := hf 2 _ rfl
  rw [h4] at g0
  rw [h29] at g1 g2
  obtain ⟨s, e0, _⟩ := DataW.trod_bool Try.underlying4 g0
  obtain ⟨l1, A1, c1, e1, p1, p2, p3, p4⟩ := limb_field g1 (fun n hn => hw' n (.inr (.inl hn)))
  obtain ⟨l2, A2, c2, e2, q1, q2, q3, q4⟩ := limb_field g2 (fun n hn => hw' n (.inr (.inr (.inl hn))))
  have f0 : a = .bool s := by simpa using e0
  have f1 : b = .slice A1 l1.length c1 := by simpa using e1
  have f2 : c = .slice A2 l2.length c2 := by simpa using e2
  rw [f0, f1, f2]
  exact ⟨⟨s, l1, l2⟩, k60_mk w ⟨s, l1, l2⟩ p1 p3 q1 q3, rfl, p4, q4, p2, q2⟩
theorem open_rats {t : TypeId} {A : Option Addr} {len cap : Nat} {d : DataW H} {ps : List MemPlace} (ht : Try.prog.underlying t = some (.slice 60))
    (h : DataW.Trod enc Try.prog w base (fun _ => true) held t (.slice A len cap) d ps) (hw : ∀ n ∈ d.weights Try.prog t, n ≤ reachBytes) :
    ∃ l : List S60, l.length = len ∧ len ≤ cap ∧ len ≤ 9223372036854775807 ∧ Kd.C k60 w A len l ∧ ∀ x ∈ l, (∀ n ∈ x.f1, (Lit.int .u32 n).wf = true) ∧ (∀ n ∈ x.f2, (Lit.int .u32 n).wf = true) ∧ x.f1.length ≤ 140737488355328 ∧ x.f2.length ≤ 140737488355328 := by
  obtain ⟨fuel, hf⟩ := h
  rcases DataW.trod_slice ht hf with ⟨hcs, _⟩ | ⟨a, len', cap', elems, rest, n, _, hcs, hx, hb, hl, hm, hel, hcell, _, _⟩
  · simp [Value.cells] at hcs
    obtain ⟨rfl, rfl, rfl⟩ := hcs
    exact ⟨[], rfl, Nat.le_refl _, by omega, ⟨rfl, by omega, fun h => absurd h (by omega)⟩, fun x hx => by simp at hx⟩
  · simp [Value.cells] at hcs
    obtain ⟨rfl, rfl, rfl⟩ := hcs
    have hm9 : cap ≤ 9223372036854775807 := by simpa [maxLen] using hm
    have hw2 : ∀ n ∈ DataW.weightsAll Try.prog 60 (elems.map (·.1)), n ≤ reachBytes := by
      have hd : d = .slice (elems.map (·.1)) (rest.map (·.1)) := (Prod.mk.inj hx).1
      rw [hd] at hw
      simp only [DataW.weights, ht, List.mem_cons, List.mem_append] at hw
      exact fun n hn => hw n (.inr (.inl hn))
    have all : ∀ (l : List (DataW H × List MemPlace)) (i : Nat) (hi : i < l.length) (n : Nat), n ∈ l[i].1.weights Try.prog 60 → n ∈ DataW.weightsAll Try.prog 60 (l.map (·.1)) := by
      intro l
      induction l with
      | nil => intro i hi; simp at hi
      | cons b l ih =>
        intro i hi n hn
        simp only [List.map_cons, DataW.weightsAll, List.mem_append]
        cases i with
        | zero => exact .inl hn
        | succ i => exact .inr (ih i (by simpa using hi) n hn)
    have h3 : Try.prog.cellsOf 60 = 3 := by kernel_rfl
    rw [h3] at hcell
    have each : ∀ i, i < len → ∃ x : S60, (∃ cs, cs.length = 3 ∧ k60.K w x cs ∧ ∀ j u, cs[j]? = some u → w.cell? (a.add (i * 3 + j)) = some u) ∧ (∀ n ∈ x.f1, (Lit.int .u32 n).wf = true) ∧ (∀ n ∈ x.f2, (Lit.int .u32 n).wf = true) ∧ x.f1.length ≤ 140737488355328 ∧ x.f2.length ≤ 140737488355328 := by
      intro i hi
      have g := hcell i hi
      rw [List.getElem?_eq_getElem (by omega)] at g
      obtain ⟨cs, hc, htr⟩ := Option.bind_eq_some_iff.mp g
      obtain ⟨_, hcl, hcc⟩ := World.cells?_some hc
      obtain ⟨x, hK, _, r1, r2, r3, r4⟩ := rat_elem htr (fun n hn => hw2 n (all elems i (by omega) n hn))
      refine ⟨x, ⟨cs, hcl, hK, fun j u hj => ?_⟩, r1, r2, r3, r4⟩
      have hj3 : j < 3 := by
        by_cases g2 : j < 3
        · exact g2
        · rw [List.getElem?_eq_none (by omega)] at hj; cases hj
      have := hcc j hj3
      rw [hj] at this
      have ea : (a.add (i * 3)).add j = a.add (i * 3 + j) := by
        unfold Addr.add
        by_cases z1 : i * 3 = 0 <;> by_cases z2 : j = 0 <;> simp [z1, z2] <;> omega
      rw [ea] at this
      exact this
    obtain ⟨y, hy⟩ := choose_lt each
    refine ⟨(List.range len).map y, by simp, hl, by omega, ⟨by simp, by omega, fun _ => ⟨a, rfl, fun j p hj => ?_⟩⟩, fun x hx => ?_⟩
    · have hjl : j < len := by
        by_cases g : j < len
        · exact g
        · rw [List.getElem?_eq_none (by simp; omega)] at hj; simp at hj
      have hp : p = y j := by
        rw [List.getElem?_map, List.getElem?_range hjl] at hj
        simpa using hj.symm
      obtain ⟨⟨cs, hcl, hK, hc⟩, _⟩ := hy j hjl
      rw [hp]
      exact ⟨cs, hcl, hK, hc⟩
    · obtain ⟨r, hr, rfl⟩ := List.mem_map.mp hx
      exact (hy r (List.mem_range.mp hr)).2
end
end Mw
end
section
namespace Mw
open Go Go.Proofs
def headCodes : List Nat := [
  104, 97, 114, 110, 101, 115, 115, 32, 97, 52, 54, 100, 51, 98, 54, 57, 49, 99, 100, 102, 102, 55, 57, 50, 53, 50, 54, 98, 102, 49,
  54, 102, 48, 51, 48, 99, 54, 97, 97, 48, 53, 57, 101, 57, 49, 50, 49, 49, 52, 97, 101, 54, 102, 97, 52, 52, 54, 99, 49, 56,
  54, 102, 57, 55, 99, 52, 101, 54, 51, 97, 102, 50, 32, 99, 117, 116, 32, 97, 116, 32, 99, 111, 100, 101, 119, 114, 105, 103, 104, 116,
  47, 99, 111, 100, 101, 119, 114, 105, 103, 104, 116, 108, 97, 119, 50, 52, 46, 77, 97, 99, 119, 105, 108, 108, 105, 97, 109, 115, 80, 108,
  101, 115, 115, 32, 99, 111, 100, 101, 119, 114, 105, 103, 104, 116, 47, 99, 111, 100, 101, 119, 114, 105, 103, 104, 116, 108, 97, 119, 50, 52,
  46, 77, 97, 99, 119, 105, 108, 108, 105, 97, 109, 115, 68, 101, 115, 105, 103, 110, 115, 32, 99, 111, 100, 101, 119, 114, 105, 103, 104, 116,
  47, 99, 111, 100, 101, 119, 114, 105, 103, 104, 116, 108, 97, 119, 50, 52, 46, 77, 97, 99, 119, 105, 108, 108, 105, 97, 109, 115, 68, 101,
  114, 105, 118, 101, 100, 32, 99, 111, 100, 101, 119, 114, 105, 103, 104, 116, 47, 99, 111, 100, 101, 119, 114, 105, 103, 104, 116, 108, 97, 119,
  50, 52, 46, 77, 97, 99, 119, 105, 108, 108, 105, 97, 109, 115, 77, 111, 109, 101, 110, 116, 115, 32, 99, 111, 100, 101, 119, 114, 105, 103,
  104, 116, 47, 99, 111, 100, 101, 119, 114, 105, 103, 104, 116, 108, 97, 119, 50, 52, 46, 77, 97, 99, 119, 105, 108, 108, 105, 97, 109, 115,
  83, 116, 114, 101, 110, 103, 116, 104, 115, 32, 99, 111, 100, 101, 119, 114, 105, 103, 104, 116, 47, 99, 111, 100, 101, 119, 114, 105, 103, 104,
  116, 108, 97, 119, 50, 52, 46, 77, 97, 99, 119, 105, 108, 108, 105, 97, 109, 115, 75, 114, 97, 119, 116, 99, 104, 111, 117, 107, 32, 99,
  111, 100, 101, 119, 114, 105, 103, 104, 116, 47, 99, 111, 100, 101, 119, 114, 105, 103, 104, 116, 108, 97, 119, 50, 52, 46, 77, 97, 99, 119,
  105, 108, 108, 105, 97, 109, 115, 65, 115, 115, 109, 117, 115, 32, 99, 111, 100, 101, 119, 114, 105, 103, 104, 116, 47, 99, 111, 100, 101, 119,
  114, 105, 103, 104, 116, 108, 97, 119, 50, 52, 46, 77, 97, 99, 119, 105, 108, 108, 105, 97, 109, 115, 71, 101, 110, 101, 114, 97, 116, 105,
  110, 103, 32, 99, 111, 100, 101, 119, 114, 105, 103, 104, 116, 47, 99, 111, 100, 101, 119, 114, 105, 103, 104, 116, 108, 97, 119, 50, 52, 46,
  77, 97, 99, 119, 105, 108, 108, 105, 97, 109, 115, 79, 114, 116, 104, 111, 103, 111, 110, 97, 108, 32, 99, 111, 100, 101, 119, 114, 105, 103,
  104, 116, 47, 99, 111, 100, 101, 119, 114, 105, 103, 104, 116, 108, 97, 119, 50, 52, 46, 77, 97, 99, 119, 105, 108, 108, 105, 97, 109, 115,
  82, 101, 99, 105, 112, 114, 111, 99, 97, 108, 32, 99, 111, 100, 101, 119, 114, 105, 103, 104, 116, 47, 99, 111, 100, 101, 119, 114, 105, 103,
  104, 116, 108, 97, 119, 50, 52, 46, 77, 97, 99, 119, 105, 108, 108, 105, 97, 109, 115, 82, 101, 99, 117, 114, 114, 101, 110, 99, 101, 32,
  99, 111, 100, 101, 119, 114, 105, 103, 104, 116, 47, 99, 111, 100, 101, 119, 114, 105, 103, 104, 116, 108, 97, 119, 50, 52, 46, 77, 97, 99,
  119, 105, 108, 108, 105, 97, 109, 115, 73, 100, 101, 110, 116, 105, 116, 121, 32, 99, 111, 100, 101, 119, 114, 105, 103, 104, 116, 47, 99, 111,
  100, 101, 119, 114, 105, 103, 104, 116, 108, 97, 119, 50, 52, 46, 77, 97, 99, 119, 105, 108, 108, 105, 97, 109, 115, 68, 101, 108, 115, 97,
  114, 116, 101, 32, 99, 111, 100, 101, 119, 114, 105, 103, 104, 116, 47, 99, 111, 100, 101, 119, 114, 105, 103, 104, 116, 108, 97, 119, 50, 52,
  46, 77, 97, 99, 119, 105, 108, 108, 105, 97, 109, 115, 69, 120, 116, 101, 114, 110, 97, 108, 115, 32, 99, 111, 100, 101, 119, 114, 105, 103,
  104, 116, 47, 99, 111, 100, 101, 119, 114, 105, 103, 104, 116, 108, 97, 119, 50, 52, 46, 77, 97, 99, 119, 105, 108, 108, 105, 97, 109, 115,
  84, 114, 97, 110, 115, 102, 111, 114, 109, 115, 32, 99, 111, 100, 101, 119, 114, 105, 103, 104, 116, 47, 99, 111, 100, 101, 119, 114, 105, 103,
  104, 116, 108, 97, 119, 50, 52, 46, 77, 97, 99, 119, 105, 108, 108, 105, 97, 109, 115, 73, 110, 118, 101, 114, 116, 115]
theorem head_eq : Try.prog.initOrder = String.ofList (headCodes.map Char.ofNat) := by kernel_rfl
theorem head_list : Try.prog.initOrder.toList = headCodes.map Char.ofNat := by rw [head_eq, String.toList_ofList]
def cutSigns : List Char := [99, 117, 116].map Char.ofNat
theorem head_word0 : ∃ rest, behindMainWord (wordsSigns (headCodes.map Char.ofNat)) = cutSigns :: rest := ⟨(behindMainWord (wordsSigns (headCodes.map Char.ofNat))).tail, by kernel_rfl⟩
theorem head_word : ∃ rest, behindMainWord (wordsSigns Try.prog.initOrder.toList) = cutSigns :: rest := by rw [head_list]; exact head_word0
theorem head_strip (rest : List (List Char)) : stripLifts liftWords (cutSigns :: rest) = ([], cutSigns :: rest) := by kernel_rfl
theorem sign1 : (cutSigns == "gc".toList) = false := by kernel_rfl
theorem sign2 : (cutSigns == "spec".toList) = false := by kernel_rfl
theorem sign3 : (cutSigns == "carried".toList) = false := by kernel_rfl
theorem sign4 : (cutSigns == "cut".toList) = true := by kernel_rfl
theorem make_of (P : Program) (c : List Char) (rest : List (List Char)) (h : behindMainWord (wordsSigns P.initOrder.toList) = c :: rest) (h1 : (c == "gc".toList) = false) (h2 : (c == "spec".toList) = false) (h3 : (c == "cut".toList) = true) : P.make = some .cut := by
  unfold Program.make
  rw [h]
  simp only [h1, h2, h3, Bool.or_self, Bool.true_or, Bool.false_eq_true, if_false, if_true]
theorem enter_of (P : Program) (c : List Char) (rest : List (List Char)) (h : behindMainWord (wordsSigns P.initOrder.toList) = c :: rest) (hs : stripLifts liftWords (c :: rest) = ([], c :: rest)) (h3 : (some c == some "cut".toList) = true) (ll : P.laysLater = false) (br : P.bearsReflect = false) (df : P.doorFits [] = true) : P.mayEnter = true := by
  unfold Program.mayEnter
  rw [h]
  simp only [hs, List.head?_cons, h3, ll, br, df]
  simp
theorem final_of (P : Program) (c : List Char) (rest : List (List Char)) (h : behindMainWord (wordsSigns P.initOrder.toList) = c :: rest) (hs : stripLifts liftWords (c :: rest) = ([], c :: rest)) (h3 : (some c == some "carried".toList) = false) : P.liftsFinal = false := by
  unfold Program.liftsFinal Program.headLifts
  rw [h]
  simp only [hs, List.head?_cons, h3, Bool.false_and, Bool.false_or]
  split <;> rfl
theorem laysLater_ : Try.prog.laysLater = false := by kernel_rfl
theorem bearsReflect_ : Try.prog.bearsReflect = false := by kernel_rfl
theorem doorFits_ : Try.prog.doorFits [] = true := by kernel_rfl
theorem make_ : Try.prog.make = some .cut := by
  obtain ⟨rest, h⟩ := head_word
  exact make_of _ _ rest h sign1 sign2 sign4
theorem mayEnter_ : Try.prog.mayEnter = true := by
  obtain ⟨rest, h⟩ := head_word
  exact enter_of _ _ rest h (head_strip rest) sign4 laysLater_ bearsReflect_ doorFits_
theorem liftsFinal_ : Try.prog.liftsFinal = false := by
  obtain ⟨rest, h⟩ := head_word
  exact final_of _ _ rest h (head_strip rest) sign3
theorem laidOut : laidOutB Try.prog = true := by kernel_rfl
theorem mapsRowed_ : mapsRowed Try.prog = true := by kernel_rfl
theorem stopsHeard_ : Try.prog.stopsHeard = true := by kernel_rfl
theorem stops_ : (Try.prog.stops == []) = true := by kernel_rfl
theorem stopKnobs_ : (Try.prog.stopKnobs == []) = true := by kernel_rfl
theorem joined_of {P : Program} {f : FuncId} {fn : Func} {s : ChangeSpec} {c : OpenClaim} (k1 : c.wf (OpenSpec.ofChange s) = true) (k2 : laidOutB P = true) (k3 : mapsRowed P = true) (k4 : fn.params.all (P.readableRec ·) = true) (k5 : namedTie P c.named s.vars = true)
    (k6 : (c.stops == []) = true) (k7 : (P.stops == []) = true) (k8 : (c.knobs == []) = true) (k9 : (P.stopKnobs == []) = true) (k10 : (c.inPlace == P.inPlace f) = true) (k11 : (c.unfollowed == P.unfollowed f) = true) (k12 : (c.recurses == P.recurses f) = true) (k13 : (c.named == P.varsNamed f) = true)
    (k14 : (c.maps == (fn.params.toList ++ s.plain.varTypes P).any (P.mapsRec ·)) = true) (k15 : (c.ifaces == (fn.params.toList ++ s.plain.varTypes P).any (P.ifacesRec ·)) = true) (k16 : (c.mapsOut == P.mapsAmong fn.resultTypes.toList) = true) (k17 : (c.loops == (fn.params.toList ++ s.plain.varTypes P).any (P.loopsFrom ·)) = true) (k18 : (c.wideKeys == (fn.params.toList ++ s.plain.varTypes P ++ fn.resultTypes.toList).any (P.wideKeysFrom ·)) = true)
    (k19 : s.vars.all (P.varReadable ·) = true) (k20 : fn.resultTypes.all (fun t => P.readableRec t && decide (t < P.types.size)) = true) (k21 : (c.ifacesOut == fn.resultTypes.toList.any (P.ifacesRec ·)) = true) (k22 : (c.loopsOut == fn.resultTypes.toList.any (P.loopsFrom ·)) = true) (k23 : (c.plainKeys == P.plainKeys) = true) (k24 : c.shortTexts.isNone = true)
    (k25 : P.stopsHeard = true) (k26 : P.mayEnter = true) (k27 : (c.lifted == P.liftsFinal) = true) (k28 : (P.make == some c.make) = true) (k29 : (c.kinds == (if c.domain.isEmpty then [] else fn.params.toList.map fun t => match P.underlying t with | some (.int k) => some k | _ => none)) = true) (k30 : (c.pinned == c.pinnedBy) = true)
    (k31 : (c.veiled == (fn.params.toList ++ s.plain.varTypes P ++ fn.resultTypes.toList).any (P.veiledRec ·)) = true) (k32 : c.veiledFits P fn.params.toList (fn.params.toList ++ s.plain.varTypes P ++ fn.resultTypes.toList) = true) : joinedFacts P f fn s c = true := by
  unfold joinedFacts
  simp only [Bool.and_eq_true]
  exact ⟨⟨⟨⟨⟨⟨⟨⟨⟨⟨⟨⟨⟨⟨⟨⟨⟨⟨⟨⟨⟨⟨⟨⟨⟨⟨⟨⟨⟨⟨⟨k1, k2⟩, k3⟩, k4⟩, k5⟩, k6⟩, k7⟩, k8⟩, k9⟩, k10⟩, k11⟩, k12⟩, k13⟩, k14⟩, k15⟩, k16⟩, k17⟩, k18⟩, k19⟩, k20⟩, k21⟩, k22⟩, k23⟩, k24⟩, k25⟩, k26⟩, k27⟩, k28⟩, k29⟩, k30⟩, k31⟩, k32⟩
end Mw
end
section
namespace Go.Proofs.Ytifkbghnmhineaa.macwilliamsInverts
open Go.ChangeShapes Go.WideShapes Go.ChangeAt Go.RowKit
open Go.ChangeMaps (open_string shut_string)
set_option linter.unusedVariables false
theorem own : ownKnob Try.prog.godebug = none := by kernel_rfl
theorem held_of {l : List PAll.S60} (h : ∀ x ∈ l, (∀ n ∈ x.f1, (Lit.int .u32 n).wf = true) ∧ (∀ n ∈ x.f2, (Lit.int .u32 n).wf = true) ∧ x.f1.length ≤ 140737488355328 ∧ x.f2.length ≤ 140737488355328) : ∀ x ∈ l, Mw.Hld x := by
  have lim : ∀ n : Int, (Lit.int .u32 n).wf = true → 0 ≤ n ∧ n < 4294967296 := by
    intro n this
    have h0 : IntKind.u32.min = 0 := rfl
    have h1 : IntKind.u32.max = 4294967295 := rfl
    simp [Lit.wf, h0, h1] at this
    omega
  intro x hx
  obtain ⟨a, b, c, d⟩ := h x hx
  exact ⟨fun n hn => lim n (a n hn), fun n hn => lim n (b n hn), c, d⟩
set_option maxRecDepth 100000 in
theorem lifted (os : Os) (started : os.Started) (H : Type) (enc : TypeId × Value → H) :
    ReturnsInHanded {} Try.checked os 18 .any (Rows.macwilliamsInvertsSpec.pre6 enc Try.prog Try.f18 Rows.macwilliamsInvertsRow.domain false) (Rows.macwilliamsInvertsSpec.post enc Try.prog Try.f18 false true false false) := by
  refine returnsInHanded_of_change_sized (C := Try.checked) own started (by kernel_rfl) Try.func18
    (ChangeSpec.witness6 (enc := enc) (C := Try.checked) false ⟨#[], #[.int .u8 0, .slice none 0 0], []⟩ 8 (by kernel_rfl) (by kernel_rfl) (by kernel_rfl) (by kernel_rfl)) ?_
  intro W base args ds gs before hval0 hW hcnd hsz0 _
  have hval : ∀ (j : Nat) t v, Try.f18.params[j]? = some t → args[j]? = some v → Value.okWide Try.prog W .any base t v := hval0
  have hW' := hW
  obtain ⟨p, q, hA0, hV, rfl, hfz, hnd⟩ := hW
  have hA : DataW.TrodAll enc Try.prog W 0 (fun _ => true) true Try.f18.params.toList args.toList ds p := hA0
  rw [Try.params18] at hA hval
  obtain ⟨v0, vs0, d0, ds0, p0, q0, hargs, rfl, rfl, h0, r0⟩ := trodAll_cons hA
  obtain ⟨v1, vs1, d1, ds1, p1, q1, rfl, rfl, rfl, h1, r1⟩ := trodAll_cons r0
  obtain ⟨rfl, rfl, rfl⟩ := trodAll_nil r1
  obtain rfl : args = #[v0, v1] := by cases args; simp_all
  obtain ⟨rfl, rfl⟩ := trodVars_none hV
  obtain ⟨a0, rfl, rfl, rfl, w0⟩ := open_int Try.underlying5 (hval 0 5 v0 rfl rfl) h0
  obtain ⟨a1, len1, cap1, rfl⟩ := okWide_slice Try.underlying83 (hval 1 83 v1 rfl rfl)
  have k1 := h1
  have lt1 : ∀ x ∈ p1, x.block < W.heap.size := by obtain ⟨m, hm⟩ := k1; exact DataW.trod_lt m _ _ _ hm
  obtain ⟨l1, rfl, hc1, hm1, hr1, hw1⟩ := Mw.open_rats Try.underlying83 h1 (fun n hn => of_decide_eq_true (List.all_eq_true.1 hsz0 n (DataW.weights_mem_each (j := 1) (t := 83) (d := d1) (by rw [Try.params18]; rfl) rfl n hn)))
  clear hA0 hval0 hsz0
  obtain ⟨k, hk⟩ := (Mw.inverts_law (q := a0) (by have := w0; simp [Lit.wf, show IntKind.u8.min = 0 from rfl, show IntKind.u8.max = 255 from rfl] at this; omega) (by have := w0; simp [Lit.wf, show IntKind.u8.min = 0 from rfl, show IntKind.u8.max = 255 from rfl] at this; omega) hm1 (held_of hw1)).get
  refine (PAll.w24_MacwilliamsInverts.calls k a0 a1 cap1 l1 true W hr1 hc1 hk).mono fun e W' ⟨he, bel⟩ => ?_
  subst he
  exact ⟨_, rfl, _, _, _, [], _, [], hW', trodAll_mk1 (shut_bool Try.underlying4 _), (trodAll_cons_mk (shut_int Try.underlying5 w0) (trodAll_cons_mk (Below.trod Mw.laidOut (by kernel_rfl) (of_decide_eq_true (by kernel_rfl)) k1 bel lt1) trodAll_mk0)), rfl, bel.frame _, fun h => by cases h⟩
theorem closed : joinedFacts Try.prog 18 Try.f18 Rows.macwilliamsInvertsSpec Rows.macwilliamsInvertsRow = true :=
  Mw.joined_of (by as_aux_lemma => kernel_rfl) Mw.laidOut Mw.mapsRowed_ (by as_aux_lemma => kernel_rfl) (by as_aux_lemma => kernel_rfl) (by as_aux_lemma => kernel_rfl) Mw.stops_ (by as_aux_lemma => kernel_rfl) Mw.stopKnobs_ (by as_aux_lemma => kernel_rfl) (by as_aux_lemma => kernel_rfl) (by as_aux_lemma => kernel_rfl) (by as_aux_lemma => kernel_rfl) (by as_aux_lemma => kernel_rfl) (by as_aux_lemma => kernel_rfl) (by as_aux_lemma => kernel_rfl) (by as_aux_lemma => kernel_rfl) (by as_aux_lemma => kernel_rfl) (by as_aux_lemma => kernel_rfl) (by as_aux_lemma => kernel_rfl) (by as_aux_lemma => kernel_rfl) (by as_aux_lemma => kernel_rfl) (by as_aux_lemma => kernel_rfl) (by as_aux_lemma => kernel_rfl) Mw.stopsHeard_ Mw.mayEnter_ (by rw [Mw.liftsFinal_]; rfl) (by rw [Mw.make_]; rfl) (by as_aux_lemma => kernel_rfl) (by as_aux_lemma => kernel_rfl) (by as_aux_lemma => kernel_rfl) (by as_aux_lemma => kernel_rfl)
theorem over : Rows.macwilliamsInvertsRow.holds Try.pinned (OpenSpec.ofChange Rows.macwilliamsInvertsSpec) :=
  OpenClaim.holds_of_wide 18 Try.f18 rfl rfl rfl rfl rfl rfl rfl ⟨rfl, rfl, rfl, rfl, rfl⟩ rfl rfl rfl rfl rfl (by as_aux_lemma => kernel_rfl) Try.func18 closed
    (of_decide_eq_true (by as_aux_lemma => kernel_rfl)) (by unfold Func.isWrapper; first | (rw [if_pos (by decide +kernel)]; kernel_rfl) | (rw [if_neg (by decide +kernel)]; exact ⟨rfl, rfl⟩))
    (fun os started H enc _ => lifted os started H enc)
theorem proved : Rows.MacwilliamsInvertsSaid := over
end Go.Proofs.Ytifkbghnmhineaa.macwilliamsInverts
namespace Go.Proofs.Ytifkbghnmhineaa
theorem macwilliamsInverts_holds : Rows.MacwilliamsInvertsSaid := macwilliamsInverts.proved
end Go.Proofs.Ytifkbghnmhineaa
end
