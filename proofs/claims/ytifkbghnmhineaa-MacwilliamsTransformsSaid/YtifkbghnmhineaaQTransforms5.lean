/- The statement MacwilliamsTransforms, proved for every input, and what it rests on. No condition. -/
import Derived.Test.YtifkbghnmhineaaQTransforms4

section
set_option linter.unusedVariables false
set_option linter.unusedSimpArgs false
namespace Mw
open Go Go.RowKit Go.Proofs.YtifkbghnmhineaaW.PrintWords Go.Proofs.YtifkbghnmhineaaW.PrintLast Go.Proofs.YtifkbghnmhineaaW.PrintMore Go.Proofs.Ytifkbghnmhineaa.PAll
theorem L1 {W V p v1 v2 Vl Wl u2 top q r : Int} (hp : 0 < p) (hV : V = Vl + p * v2 + 4294967296 * (p * v1)) (hW : W = Wl + p * u2 + 4294967296 * (p * top)) (hv2 : 0 ≤ v2) (hVl : 0 ≤ Vl) (hu2 : u2 < 4294967296) (hWl : Wl < p)
    (hq : q * v1 + r = top) (hr : r < v1) (hq0 : 0 ≤ q) : W < (q + 1) * V := by
  have h1 : p * (u2 + 1) ≤ p * 4294967296 := Int.mul_le_mul_of_nonneg_left (by omega) (by omega)
  have h2 : p * (top + 1) ≤ p * ((q + 1) * v1) := Int.mul_le_mul_of_nonneg_left (by grind) (by omega)
  have h3 : 0 ≤ (q + 1) * Vl := Int.mul_nonneg (by omega) hVl
  have h4 : 0 ≤ (q + 1) * (p * v2) := Int.mul_nonneg (by omega) (Int.mul_nonneg (by omega) hv2)
  subst hV hW
  grind
theorem L3 {W V p v1 v2 Vl Wl u2 top q r : Int} (hp : 0 < p) (hV : V = Vl + p * v2 + 4294967296 * (p * v1)) (hW : W = Wl + p * u2 + 4294967296 * (p * top)) (hVl : 0 ≤ Vl) (hWl : Wl < p)
    (hq : q * v1 + r = top) (ht : r * 4294967296 + u2 < q * v2) (hq0 : 0 ≤ q) : W < q * V := by
  have h1 : p * (r * 4294967296 + u2 + 1) ≤ p * (q * v2) := Int.mul_le_mul_of_nonneg_left (by omega) (by omega)
  have h3 : 0 ≤ q * Vl := Int.mul_nonneg (by omega) hVl
  subst hV hW hq
  grind
theorem L4 {W V p v1 v2 Vl Wl u2 top q r : Int} (hp : 0 < p) (hV : V = Vl + p * v2 + 4294967296 * (p * v1)) (hW : W = Wl + p * u2 + 4294967296 * (p * top)) (hVl : 0 ≤ Vl) (hVl1 : Vl < p) (hv2 : 0 ≤ v2) (hv1 : 1 ≤ v1) (hWl : 0 ≤ Wl)
    (hq : q * v1 + r = top) (ht : q * v2 ≤ r * 4294967296 + u2) (hq0 : 0 ≤ q) (hq1 : q < 4294967296) : (q - 1) * V ≤ W := by
  have h1 : p * (q * v2) ≤ p * (r * 4294967296 + u2) := Int.mul_le_mul_of_nonneg_left (by omega) (by omega)
  have h2 : q * Vl ≤ 4294967296 * p := by
    have a : q * Vl ≤ q * p := Int.mul_le_mul_of_nonneg_left (by omega) hq0
    have b : q * p ≤ 4294967296 * p := Int.mul_le_mul_of_nonneg_right (by omega) (by omega)
    omega
  have h3 : p * 1 ≤ p * v1 := Int.mul_le_mul_of_nonneg_left hv1 (by omega)
  have h4 : 0 ≤ p * v2 := Int.mul_nonneg (by omega) hv2
  subst hV hW hq
  grind
theorem L5a {W V p v1 v2 Vl Wl u2 u1 u0 : Int} (hp : 0 < p) (hV : V = Vl + p * v2 + 4294967296 * (p * v1)) (hW : W = Wl + p * u2 + 4294967296 * (p * (u0 * 4294967296 + u1))) (hVl1 : Vl < p) (hv2 : v2 < 4294967296) (hWl : 0 ≤ Wl) (hu2 : 0 ≤ u2) (hu1 : 0 ≤ u1)
    (hWV : W < 4294967296 * V) : u0 ≤ v1 := by
  have h1 : p * (v2 + 1) ≤ p * 4294967296 := Int.mul_le_mul_of_nonneg_left (by omega) (by omega)
  have h2 : 0 ≤ p * u2 := Int.mul_nonneg (by omega) hu2
  have h3 : 0 ≤ p * u1 := Int.mul_nonneg (by omega) hu1
  have h5 : p * u0 < p * (v1 + 1) := by subst hV hW; grind
  have := Int.lt_of_mul_lt_mul_left h5 (by omega)
  omega
theorem L5 {W V p v1 v2 Vl Wl u2 u1 u0 q r : Int} (hp : 0 < p) (hV : V = Vl + p * v2 + 4294967296 * (p * v1)) (hW : W = Wl + p * u2 + 4294967296 * (p * (u0 * 4294967296 + u1))) (hVl1 : Vl < p) (hv2 : v2 < 4294967296) (hWl : 0 ≤ Wl) (hu2 : 0 ≤ u2) (hu1 : 0 ≤ u1) (hu1' : u1 < 4294967296)
    (hWV : W < 4294967296 * V) (hv1 : 1 ≤ v1) (hq : q * v1 + r = u0 * 4294967296 + u1) (hr : 4294967296 ≤ r) (hq0 : 0 ≤ q) : q < 4294967296 ∧ q * V ≤ W := by
  have h0 := L5a hp hV hW hVl1 hv2 hWl hu2 hu1 hWV
  have hqv : q * v1 < 4294967296 * v1 := by omega
  have hq1 : q < 4294967296 := Int.lt_of_mul_lt_mul_right hqv (by omega)
  refine ⟨hq1, ?_⟩
  have h1 : p * (v2 + 1) ≤ p * 4294967296 := Int.mul_le_mul_of_nonneg_left (by omega) (by omega)
  have h2 : 0 ≤ p * u2 := Int.mul_nonneg (by omega) hu2
  have h4 : V ≤ p * (4294967296 * (v1 + 1)) := by subst hV; grind
  have h5 : q * V ≤ q * (p * (4294967296 * (v1 + 1))) := Int.mul_le_mul_of_nonneg_left h4 hq0
  have h6 : p * (q * v1 + q) ≤ p * (u0 * 4294967296 + u1) := Int.mul_le_mul_of_nonneg_left (by omega) (by omega)
  subst hW
  grind
def Rz {α : Type} (P : α → Prop) (g : Nat → Option α) : Prop := ∃ r, Ev g r ∧ P r
theorem Rz.succ {α : Type} {P : α → Prop} {g : Nat → Option α} (h : Rz P (fun k => g (k + 1))) : Rz P g := by
  obtain ⟨r, h1, h2⟩ := h
  exact ⟨r, Ev.succ h1, h2⟩
theorem Rz.bind {α β : Type} {P : β → Prop} {g : Nat → Option α} {f : Nat → α → Option β} {a : α} (hg : Ev g a) (hf : Rz P (fun k => f k a)) : Rz P (fun k => (g k).bind (f k)) := by
  obtain ⟨r, h1, h2⟩ := hf
  exact ⟨r, Ev.bind hg h1, h2⟩
theorem Rz.some {α : Type} {P : α → Prop} {r : α} (h : P r) : Rz P (fun _ => Option.some r) := ⟨r, Ev.some r, h⟩
theorem mulc {q v c : Int} (hq0 : 0 ≤ q) (hq1 : q < 4294967296) (hv0 : 0 ≤ v) (hv1 : v < 4294967296) (hc0 : 0 ≤ c) (hc1 : c < 4294967296) :
    IntKind.u64.wrap (IntKind.u64.wrap (q * IntKind.u64.wrap v) + c) = q * v + c ∧ 0 ≤ q * v + c ∧ q * v + c < 18446744073709551616 := by
  have h1 : q * v ≤ 4294967295 * 4294967295 := Int.mul_le_mul (by omega) (by omega) hv0 (by omega)
  have h0 : 0 ≤ q * v := Int.mul_nonneg hq0 hv0
  rw [u64w (x := v) hv0 (by omega)]
  generalize q * v = s at *
  rw [u64w (x := s) h0 (by omega), u64w (by omega) (by omega)]
  omega
theorem subl {u s b : Int} (hu0 : 0 ≤ u) (hu1 : u < 4294967296) (hb0 : 0 ≤ b) (hb1 : b ≤ 1) :
    ∃ y b' : Int, IntKind.u64.wrap (IntKind.u64.wrap (IntKind.u64.wrap u - s % 4294967296) - b) % 4294967296 = y ∧ IntKind.u64.wrap (IntKind.u64.wrap (IntKind.u64.wrap u - s % 4294967296) - b) / 9223372036854775808 = b' ∧
      0 ≤ y ∧ y < 4294967296 ∧ 0 ≤ b' ∧ b' ≤ 1 ∧ y = u - s % 4294967296 - b + 4294967296 * b' := by
  refine ⟨_, _, rfl, rfl, ?_⟩
  rw [u64m, u64m, u64m]
  omega
theorem topl {u c b : Int} (hu0 : 0 ≤ u) (hu1 : u < 4294967296) (hc0 : 0 ≤ c) (hc1 : c < 4294967296) (hb0 : 0 ≤ b) (hb1 : b ≤ 1) :
    ∃ y b' : Int, IntKind.u64.wrap (IntKind.u64.wrap (IntKind.u64.wrap u - c) - b) % 4294967296 = y ∧ IntKind.u64.wrap (IntKind.u64.wrap (IntKind.u64.wrap u - c) - b) / 9223372036854775808 = b' ∧
      0 ≤ y ∧ y < 4294967296 ∧ (b' = 0 ∨ b' = 1) ∧ y = u - c - b + 4294967296 * b' := by
  refine ⟨_, _, rfl, rfl, ?_⟩
  rw [u64m, u64m, u64m]
  omega
theorem step_sub {P : Int × List Int → Prop} {q u0 W : Int} {v : List Int} (hq0 : 0 ≤ q) (hq1 : q < 4294967296) (hv : Lm v) (hvl : v.length < 536870912)
    (hfin : ∀ (o : List Int) (bo ca : Int), o.length = v.length + 1 → Lm o → 0 ≤ bo → bo ≤ 1 → 0 ≤ ca → ca < 4294967296 → rd o (v.length : Int) = u0 → Aside0 (lv o - (bp v.length : Int) * (ca + bo) = W - q * lv v) → Rz P (fun k => nat_step.l1 k o v (v.length : Int) q bo ca (v.length : Int) (v.length : Int))) :
    ∀ (d i : Nat) (o : List Int) (bo ca : Int), i + d = v.length → o.length = v.length + 1 → Lm o → 0 ≤ bo → bo ≤ 1 → 0 ≤ ca → ca < 4294967296 → rd o (v.length : Int) = u0 → Aside0 (lv o - (bp i : Int) * (ca + bo) = W - q * lv (v.take i)) → Rz P (fun k => nat_step.l1 k o v (v.length : Int) q bo ca (v.length : Int) (i : Int)) := by
  intro d
  induction d with
  | zero =>
    intro i o bo ca hi hol ho hb0 hb1 hc0 hc1 hu he
    have hi : i = v.length := by omega
    subst hi
    refine hfin o bo ca hol ho hb0 hb1 hc0 hc1 hu ⟨?_⟩
    rw [he.out, List.take_of_length_le (Nat.le_refl _)]
  | succ d ih =>
    intro i o bo ca hi hol ho hb0 hb1 hc0 hc1 hu he
    have hiv : i < v.length := by omega
    have rv := rd_lm hv (i : Int)
    have ro := rd_lm ho (i : Int)
    obtain ⟨e1, s0, s1⟩ := mulc hq0 hq1 rv.1 rv.2 hc0 hc1
    obtain ⟨y, b', e2, e3, y0, y1, b0, b1, ey⟩ := subl (s := q * rd v (i : Int) + ca) ro.1 ro.2 hb0 hb1
    have hd := div_bound s0 s1
    have hs := split_div (q * rd v (i : Int) + ca)
    refine Rz.succ ?_
    simp only [nat_step.l1, if_pos (show (i : Int) < (v.length : Int) by omega), if_pos (show (0 : Int) ≤ (i : Int) by omega), if_pos (show (i : Int) < (o.length : Int) by omega), e1, e2, e3, Int.toNat_natCast, wn (show (i : Int) + 1 = ((i + 1 : Nat) : Int) by omega) (by omega)]
    refine ih (i + 1) _ _ _ (by omega) (by rw [List.length_set]; exact hol) (lm_set ho y0 y1) b0 b1 hd.2.2.1 hd.2.2.2 (by rw [rd_set_ne _ (by omega)]; exact hu) ⟨?_⟩
    rw [lv_set _ (by omega), lv_take_succ hiv, bp_succ, Int.natCast_mul]
    have he := he.out
    clear ih hfin e1 e2 e3 hd s0 s1
    generalize (q * rd v (i : Int) + ca) / 4294967296 = c2 at *
    generalize hsm : (q * rd v (i : Int) + ca) % 4294967296 = sm at *
    generalize (bp i : Int) = p at *
    generalize rd v (i : Int) = vi at *
    generalize rd o (i : Int) = ui at *
    generalize lv o = lo at *
    generalize lv (v.take i) = lt at *
    subst ey
    show lo + p * (ui - sm - bo + 4294967296 * b' - ui) - 4294967296 * p * (c2 + b') = W - q * (lt + p * vi)
    have h2 : p * (sm + 4294967296 * c2) = p * (q * vi + ca) := by rw [hs]
    grind
theorem addl {u v c : Int} (hu0 : 0 ≤ u) (hu1 : u < 4294967296) (hv0 : 0 ≤ v) (hv1 : v < 4294967296) (hc0 : 0 ≤ c) (hc1 : c ≤ 1) :
    IntKind.u64.wrap (IntKind.u64.wrap (IntKind.u64.wrap u + IntKind.u64.wrap v) + c) = u + v + c := by
  rw [u64m, u64m, u64m, u64m]
  omega
theorem step_add {P : Int × List Int → Prop} {q u0 W : Int} {v : List Int} (hv : Lm v) (hvl : v.length < 536870912)
    (hfin : ∀ (o : List Int) (ca : Int), o.length = v.length + 1 → Lm o → 0 ≤ ca → ca ≤ 1 → rd o (v.length : Int) = u0 → Aside0 (lv o + (bp v.length : Int) * ca = W + lv v) → Rz P (fun k => nat_step.l2 k o v (v.length : Int) q ca (v.length : Int) (v.length : Int))) :
    ∀ (d i : Nat) (o : List Int) (ca : Int), i + d = v.length → o.length = v.length + 1 → Lm o → 0 ≤ ca → ca ≤ 1 → rd o (v.length : Int) = u0 → Aside0 (lv o + (bp i : Int) * ca = W + lv (v.take i)) → Rz P (fun k => nat_step.l2 k o v (v.length : Int) q ca (v.length : Int) (i : Int)) := by
  intro d
  induction d with
  | zero =>
    intro i o ca hi hol ho hc0 hc1 hu he
    have hi : i = v.length := by omega
    subst hi
    refine hfin o ca hol ho hc0 hc1 hu ⟨?_⟩
    rw [he.out, List.take_of_length_le (Nat.le_refl _)]
  | succ d ih =>
    intro i o ca hi hol ho hc0 hc1 hu he
    have hiv : i < v.length := by omega
    have rv := rd_lm hv (i : Int)
    have ro := rd_lm ho (i : Int)
    have e1 := addl ro.1 ro.2 rv.1 rv.2 hc0 hc1
    have hs := split_div (rd o (i : Int) + rd v (i : Int) + ca)
    have hd : 0 ≤ (rd o (i : Int) + rd v (i : Int) + ca) % 4294967296 ∧ (rd o (i : Int) + rd v (i : Int) + ca) % 4294967296 < 4294967296 ∧ 0 ≤ (rd o (i : Int) + rd v (i : Int) + ca) / 4294967296 ∧ (rd o (i : Int) + rd v (i : Int) + ca) / 4294967296 ≤ 1 := by clear e1; omega
    refine Rz.succ ?_
    simp only [nat_step.l2, if_pos (show (i : Int) < (v.length : Int) by clear e1; omega), if_pos (show (0 : Int) ≤ (i : Int) by clear e1; omega), if_pos (show (i : Int) < (o.length : Int) by clear e1; omega), e1, Int.toNat_natCast, wn (show (i : Int) + 1 = ((i + 1 : Nat) : Int) by clear e1; omega) (by clear e1; omega)]
    clear e1
    refine ih (i + 1) _ _ (by omega) (by rw [List.length_set]; exact hol) (lm_set ho hd.1 hd.2.1) hd.2.2.1 hd.2.2.2 (by rw [rd_set_ne _ (by omega)]; exact hu) ⟨?_⟩
    rw [lv_set _ (by omega), lv_take_succ hiv, bp_succ, Int.natCast_mul]
    have he := he.out
    clear ih hfin hd
    generalize (rd o (i : Int) + rd v (i : Int) + ca) / 4294967296 = c2 at *
    generalize (rd o (i : Int) + rd v (i : Int) + ca) % 4294967296 = sm at *
    generalize (bp i : Int) = p at *
    generalize rd v (i : Int) = vi at *
    generalize rd o (i : Int) = ui at *
    generalize lv o = lo at *
    generalize lv (v.take i) = lt at *
    show lo + p * (sm - ui) + 4294967296 * p * c2 = W + (lt + p * vi)
    have h2 : p * (sm + 4294967296 * c2) = p * (ui + vi + ca) := by rw [hs]
    grind
def Stp (n : Nat) (W V : Int) (a : Int × List Int) : Prop := a.1 = W / V ∧ a.2.length = n + 1 ∧ Lm a.2 ∧ lv a.2 = W % V
theorem quo_of {W V q : Int} (h0 : q * V ≤ W) (h1 : W < (q + 1) * V) : W / V = q ∧ W % V = W - q * V := by
  have hV : 0 < V := by
    have e : (q + 1) * V = q * V + V := by grind
    omega
  have e : (q + 1) * V = q * V + V := by grind
  have := Int.ediv_emod_unique (a := W) (b := V) (r := W - q * V) (q := q) hV
  have h := this.mpr ⟨by grind, by omega, by omega⟩
  exact h
theorem step_j1 {x v : List Int} {q : Int} (hx : Lm x) (hv : Lm v) (hxl : x.length = v.length + 1) (hvl : v.length < 536870912) (hq0 : 0 ≤ q) (hq1 : q < 4294967296) (hW : lv x < 4294967296 * lv v) (hhi : lv x < (q + 1) * lv v) (hlo : (q - 1) * lv v ≤ lv x) :
    Rz (Stp v.length (lv x) (lv v)) (fun k => nat_step.j1 k x v (v.length : Int) q) := by
  have hV0 := lv_nonneg hv
  have hV1 := lv_lt hv
  have hx0 := lv_nonneg hx
  refine Rz.succ ?_
  simp only [nat_step.j1]
  refine step_sub (u0 := rd x (v.length : Int)) (W := lv x) hq0 hq1 hv hvl (fun o bo ca hol ho hb0 hb1 hc0 hc1 hu he => ?_) v.length 0 x 0 0 (by omega) hxl hx (by omega) (by omega) (by omega) (by omega) rfl ⟨by simp [lv_nil]⟩
  have ro := rd_lm ho (v.length : Int)
  obtain ⟨y, s, e2, e3, y0, y1, hs, ey⟩ := topl ro.1 ro.2 hc0 hc1 hb0 hb1
  have hlen : (v.length : Int) < (o.length : Int) := by clear e2 e3; omega
  refine Rz.succ ?_
  simp only [nat_step.l1, if_neg (show ¬ (v.length : Int) < (v.length : Int) from Int.lt_irrefl _), if_pos (show (0 : Int) ≤ (v.length : Int) from Int.natCast_nonneg _), if_pos hlen, e2, e3, Int.toNat_natCast, Option.bind_some]
  clear e2 e3
  have hval : lv (o.set v.length y) = lv x - q * lv v + (4294967296 * bp v.length : Nat) * s := by
    rw [lv_set _ (by omega)]
    have he := he.out
    rw [Int.natCast_mul]
    generalize (bp v.length : Int) = p at *
    generalize lv o = lo at *
    generalize rd o (v.length : Int) = ui at *
    subst ey
    show lo + p * (ui - ca - bo + 4294967296 * s - ui) = lv x - q * lv v + 4294967296 * p * s
    grind
  have hlm : Lm (o.set v.length y) := lm_set ho y0 y1
  have hln : (o.set v.length y).length = v.length + 1 := by rw [List.length_set]; exact hol
  have h0 := lv_nonneg hlm
  have h1 := lv_lt hlm
  rw [hln, bp_succ] at h1
  rcases hs with e | e
  · subst e
    simp only [if_true]
    refine Rz.some ⟨?_, hln, hlm, ?_⟩
    · show q % 4294967296 = _
      rw [(quo_of (W := lv x) (V := lv v) (q := q) (by rw [hval] at h0; omega) hhi).1]
      exact Int.emod_eq_of_lt hq0 hq1
    · show lv (o.set v.length y) = _
      rw [(quo_of (W := lv x) (V := lv v) (q := q) (by rw [hval] at h0; omega) hhi).2, hval]
      omega
  · subst e
    simp only [if_neg (show ¬ (1 : Int) = 0 by decide)]
    have hlt : lv x < q * lv v := by rw [hval] at h1; omega
    have e1 : (q - 1 + 1) * lv v = q * lv v := by rw [show q - 1 + 1 = q by omega]
    obtain ⟨hq, hr⟩ := quo_of (W := lv x) (V := lv v) (q := q - 1) hlo (by rw [e1]; exact hlt)
    refine step_add (u0 := rd (o.set v.length y) (v.length : Int)) (W := lv (o.set v.length y)) hv hvl (fun o2 ca2 hol2 ho2 hc20 hc21 hu2 he2 => ?_) v.length 0 _ 0 (by omega) hln hlm (by omega) (by omega) rfl ⟨by simp [lv_nil]⟩
    have ro2 := rd_lm ho2 (v.length : Int)
    have hlen2 : (v.length : Int) < (o2.length : Int) := by omega
    have hq1' : 0 ≤ q - 1 := by
      have h2 : 0 < q * lv v := by omega
      by_cases g : 0 < q
      · omega
      · have : q = 0 := by omega
        rw [this, Int.zero_mul] at h2
        omega
    refine Rz.succ ?_
    simp only [nat_step.l2, if_neg (show ¬ (v.length : Int) < (v.length : Int) from Int.lt_irrefl _), if_pos (show (0 : Int) ≤ (v.length : Int) from Int.natCast_nonneg _), if_pos hlen2, Int.toNat_natCast, u64w (x := q - 1) hq1' (by omega)]
    have y2 : 0 ≤ (rd o2 (v.length : Int) + ca2 % 4294967296) % 4294967296 ∧ (rd o2 (v.length : Int) + ca2 % 4294967296) % 4294967296 < 4294967296 := by omega
    have hlm2 : Lm (o2.set v.length ((rd o2 (v.length : Int) + ca2 % 4294967296) % 4294967296)) := lm_set ho2 y2.1 y2.2
    obtain ⟨t, ht, ht2⟩ : ∃ t : Int, (t = 0 ∨ t = 1) ∧ (rd o2 (v.length : Int) + ca2 % 4294967296) % 4294967296 = rd o2 (v.length : Int) + ca2 - 4294967296 * t := by
      by_cases g : rd o2 (v.length : Int) + ca2 < 4294967296
      · exact ⟨0, .inl rfl, by omega⟩
      · exact ⟨1, .inr rfl, by omega⟩
    have hval2 : lv (o2.set v.length ((rd o2 (v.length : Int) + ca2 % 4294967296) % 4294967296)) = lv x - (q - 1) * lv v + (4294967296 * bp v.length : Nat) * (1 - t) := by
      rw [lv_set _ (by omega), ht2]
      have he2 := he2.out
      rw [hval] at he2
      rw [Int.natCast_mul] at he2 ⊢
      generalize (bp v.length : Int) = p at *
      generalize lv o2 = lo at *
      generalize rd o2 (v.length : Int) = ui at *
      show lo + p * (ui + ca2 - 4294967296 * t - ui) = lv x - (q - 1) * lv v + 4294967296 * p * (1 - t)
      have : lo + p * ca2 = lv x - q * lv v + 4294967296 * p * 1 + lv v := he2
      grind
    have h2 := lv_lt hlm2
    rw [show (o2.set v.length ((rd o2 (v.length : Int) + ca2 % 4294967296) % 4294967296)).length = v.length + 1 by rw [List.length_set]; exact hol2, bp_succ] at h2
    have ht1 : t = 1 := by
      rcases ht with g | g
      · exfalso
        rw [hval2, g] at h2
        omega
      · exact g
    rw [ht1] at hval2
    refine Rz.some ⟨?_, by rw [List.length_set]; exact hol2, hlm2, ?_⟩
    · show (q - 1) % 4294967296 = _
      rw [hq]
      exact Int.emod_eq_of_lt hq1' (by omega)
    · show lv (o2.set v.length ((rd o2 (v.length : Int) + ca2 % 4294967296) % 4294967296)) = _
      rw [hr, hval2]
      omega
theorem step_est {x v : List Int} {Wl u2 u1 u0 Vl v2 v1 p : Int} {n : Nat} (hx : Lm x) (hv : Lm v) (hxl : x.length = v.length + 1) (hvl : v.length < 536870912) (hn : v.length = n + 2)
    (hp : 0 < p) (hV : lv v = Vl + p * v2 + 4294967296 * (p * v1)) (hWe : lv x = Wl + p * u2 + 4294967296 * (p * (u0 * 4294967296 + u1))) (hVl : 0 ≤ Vl) (hVl1 : Vl < p) (hWl : 0 ≤ Wl) (hWl1 : Wl < p)
    (r1 : rd v ((n + 1 : Nat) : Int) = v1) (r2 : rd v (n : Int) = v2) (ru2 : rd x (n : Int) = u2) (hv1 : 2147483648 ≤ v1) (hv1' : v1 < 4294967296) (hv2 : 0 ≤ v2) (hv2' : v2 < 4294967296) (hu2 : 0 ≤ u2) (hu2' : u2 < 4294967296) (hu1 : 0 ≤ u1) (hu1' : u1 < 4294967296)
    (hW : lv x < 4294967296 * lv v) :
    ∀ (d : Nat) (q r : Int), 4294967296 ≤ r + d * 2147483648 → q * v1 + r = u0 * 4294967296 + u1 → 0 ≤ r → r < 8589934592 → 0 ≤ q → q < 18446744073709551616 → lv x < (q + 1) * lv v →
    Rz (Stp v.length (lv x) (lv v)) (fun k => nat_step.l0 k x v (v.length : Int) q r) := by
  have hV0 : 0 ≤ lv v := lv_nonneg hv
  have done : ∀ (q r : Int), 4294967296 ≤ r → q * v1 + r = u0 * 4294967296 + u1 → 0 ≤ q → lv x < (q + 1) * lv v → Rz (Stp v.length (lv x) (lv v)) (fun k => nat_step.l0 k x v (v.length : Int) q r) := by
    intro q r hr hq hq0 hhi
    obtain ⟨h1, h2⟩ := L5 hp hV hWe hVl1 hv2' hWl hu2 hu1 hu1' hW (by omega) hq hr hq0
    refine Rz.succ ?_
    simp only [nat_step.l0, if_neg (show ¬ r < 4294967296 by omega)]
    refine step_j1 hx hv hxl hvl hq0 h1 hW hhi ?_
    have : (q - 1) * lv v = q * lv v - lv v := by grind
    omega
  intro d
  induction d with
  | zero =>
    intro q r hd hq hr0 hr1 hq0 hqb hhi
    exact done q r (by omega) hq hq0 hhi
  | succ d ih =>
    intro q r hd hq hr0 hr1 hq0 hqb hhi
    by_cases hr : 4294967296 ≤ r
    · exact done q r hr hq hq0 hhi
    have nxt : ∀ g : lv x < q * lv v, Rz (Stp v.length (lv x) (lv v)) (fun k => nat_step.l0 k x v (v.length : Int) (q - 1) (r + v1)) := by
      intro g
      have hq1 : 0 ≤ q - 1 := by
        by_cases g2 : 0 < q
        · omega
        · have e : q = 0 := by omega
          rw [e, Int.zero_mul] at g
          have := lv_nonneg hx
          omega
      refine ih (q - 1) (r + v1) (by omega) ?_ (by omega) (by omega) hq1 (by omega) (by rw [show q - 1 + 1 = q by omega]; exact g)
      have : (q - 1) * v1 = q * v1 - v1 := by grind
      omega
    refine Rz.succ ?_
    have i1 : wrap64 ((v.length : Int) - 1) = ((n + 1 : Nat) : Int) := wn (by omega) (by omega)
    have i2 : wrap64 ((v.length : Int) - 2) = (n : Int) := wn (by omega) (by omega)
    have c1 : (0 : Int) ≤ ((n + 1 : Nat) : Int) := by clear i1 i2; omega
    have c2 : ((n + 1 : Nat) : Int) < (v.length : Int) := by clear i1 i2; omega
    have c3 : (0 : Int) ≤ (n : Int) := by clear i1 i2; omega
    have c4 : (n : Int) < (v.length : Int) := by clear i1 i2; omega
    have c5 : (n : Int) < (x.length : Int) := by clear i1 i2; omega
    have c6 : r < 4294967296 := by clear i1 i2; omega
    by_cases hqB : q ≥ 4294967296
    · have g : lv x < q * lv v := by
        have := Int.mul_le_mul_of_nonneg_right (a := 4294967296) (b := q) (c := lv v) hqB hV0
        clear i1 i2
        omega
      simp only [nat_step.l0, if_pos c6, if_pos hqB, i1, if_pos c1, if_pos c2, r1, u64w (x := v1) (by clear i1 i2; omega) (by clear i1 i2; omega), u64w (x := q - 1) (by clear i1 i2; omega) (by clear i1 i2; omega), u64w (x := r + v1) (by clear i1 i2; omega) (by clear i1 i2; omega)]
      exact nxt g
    · have hqs : q < 4294967296 := by clear i1 i2; omega
      have hm0 : 0 ≤ q * v2 := Int.mul_nonneg hq0 hv2
      have hm1 : q * v2 ≤ 4294967295 * 4294967295 := Int.mul_le_mul (by clear i1 i2; omega) (by clear i1 i2; omega) hv2 (by decide)
      have ej := join32 (x := r) (y := u2) hr0 c6 hu2 hu2'
      by_cases ht : q * v2 > r * 4294967296 + u2
      · have g : lv x < q * lv v := L3 hp hV hWe hVl hWl1 hq (by clear i1 i2 ej; omega) hq0
        have hq1 : 0 ≤ q - 1 := by
          by_cases g2 : 0 < q
          · clear i1 i2 ej; omega
          · have e : q = 0 := by clear i1 i2 ej; omega
            rw [e, Int.zero_mul] at g
            have := lv_nonneg hx
            clear i1 i2 ej
            omega
        have z1 := u64w (x := v2) hv2 (by clear i1 i2 ej; omega)
        have z2 := u64w (x := q * v2) hm0 (by clear i1 i2 ej z1; omega)
        simp only [nat_step.l0, if_pos c6, if_neg hqB, i1, i2, if_pos c1, if_pos c2, if_pos c3, if_pos c4, if_pos c5, r1, r2, ru2, z1, z2, ej, if_pos ht, u64w (x := v1) (by clear i1 i2 ej z1 z2; omega) (by clear i1 i2 ej z1 z2; omega), u64w (x := q - 1) hq1 (by clear i1 i2 ej z1 z2; omega), u64w (x := r + v1) (by clear i1 i2 ej z1 z2; omega) (by clear i1 i2 ej z1 z2; omega)]
        exact nxt g
      · have z1 := u64w (x := v2) hv2 (by clear i1 i2 ej; omega)
        have z2 := u64w (x := q * v2) hm0 (by clear i1 i2 ej z1; omega)
        simp only [nat_step.l0, if_pos c6, if_neg hqB, i2, if_pos c3, if_pos c4, if_pos c5, r2, ru2, z1, z2, ej, if_neg ht]
        clear z1 z2 i1 i2 ej
        exact step_j1 hx hv hxl hvl hq0 hqs hW hhi (L4 hp hV hWe hVl hVl1 hv2 (by omega) hWl hq (by omega) hq0 hqs)
theorem lv_two {l : List Int} {n : Nat} (h : n + 2 ≤ l.length) : lv (l.take (n + 2)) = lv (l.take n) + (bp n : Int) * rd l (n : Int) + 4294967296 * ((bp n : Int) * rd l ((n + 1 : Nat) : Int)) := by
  rw [lv_take_succ (i := n + 1) (by omega), lv_take_succ (i := n) (by omega), bp_succ, Int.natCast_mul]
  show _ + 4294967296 * (bp n : Int) * _ = _
  rw [Int.mul_assoc]
theorem step_ev {x v : List Int} (hx : Lm x) (hv : Lm v) (hxl : x.length = v.length + 1) (hvl : v.length < 536870912) (hk : 2 ≤ v.length) (ht : 2147483648 ≤ rd v ((v.length - 1 : Nat) : Int)) (hW : lv x < 4294967296 * lv v) :
    Rz (Stp v.length (lv x) (lv v)) (fun k => nat_step.f k x v) := by
  obtain ⟨n, hn⟩ : ∃ n, v.length = n + 2 := ⟨v.length - 2, by omega⟩
  have hb := bp_pos n
  have eV := lv_two (l := v) (n := n) (by omega)
  rw [show n + 2 = v.length from hn.symm, List.take_of_length_le (Nat.le_refl _)] at eV
  have eX := lv_take_succ (l := x) (i := n + 2) (by omega)
  rw [show n + 2 + 1 = x.length by omega, List.take_of_length_le (Nat.le_refl _), lv_two (l := x) (n := n) (by omega), bp_succ, bp_succ, Int.natCast_mul, Int.natCast_mul] at eX
  have tv := take_bound hv n
  have tx := take_bound hx n
  have b1 := rd_lm hv ((n + 1 : Nat) : Int)
  have b2 := rd_lm hv (n : Int)
  have bu0 := rd_lm hx ((n + 2 : Nat) : Int)
  have bu1 := rd_lm hx ((n + 1 : Nat) : Int)
  have bu2 := rd_lm hx (n : Int)
  rw [show v.length - 1 = n + 1 by omega] at ht
  have eX' : lv x = lv (x.take n) + (bp n : Int) * rd x (n : Int) + 4294967296 * ((bp n : Int) * (rd x ((n + 2 : Nat) : Int) * 4294967296 + rd x ((n + 1 : Nat) : Int))) := by
    rw [eX]
    generalize (bp n : Int) = p
    show _ + 4294967296 * (4294967296 * p) * _ = _
    grind
  have top0 : 0 ≤ rd x ((n + 2 : Nat) : Int) * 4294967296 + rd x ((n + 1 : Nat) : Int) := by omega
  have top1 : rd x ((n + 2 : Nat) : Int) * 4294967296 + rd x ((n + 1 : Nat) : Int) < 18446744073709551616 := by omega
  have hmod := Int.emod_lt_of_pos (rd x ((n + 2 : Nat) : Int) * 4294967296 + rd x ((n + 1 : Nat) : Int)) (show 0 < rd v ((n + 1 : Nat) : Int) by omega)
  have hmod0 := Int.emod_nonneg (rd x ((n + 2 : Nat) : Int) * 4294967296 + rd x ((n + 1 : Nat) : Int)) (show rd v ((n + 1 : Nat) : Int) ≠ 0 by omega)
  have hdm := Int.mul_ediv_add_emod (rd x ((n + 2 : Nat) : Int) * 4294967296 + rd x ((n + 1 : Nat) : Int)) (rd v ((n + 1 : Nat) : Int))
  have hdiv0 : 0 ≤ (rd x ((n + 2 : Nat) : Int) * 4294967296 + rd x ((n + 1 : Nat) : Int)) / rd v ((n + 1 : Nat) : Int) := Int.ediv_nonneg top0 (by omega)
  have hdiv1 : (rd x ((n + 2 : Nat) : Int) * 4294967296 + rd x ((n + 1 : Nat) : Int)) / rd v ((n + 1 : Nat) : Int) ≤ rd x ((n + 2 : Nat) : Int) * 4294967296 + rd x ((n + 1 : Nat) : Int) := Int.ediv_le_self _ top0
  have ej := join32 bu0.1 bu0.2 bu1.1 bu1.2
  have z0 := u64w (x := rd v ((n + 1 : Nat) : Int)) b1.1 (by clear ej; omega)
  have i1 : wrap64 ((v.length : Int) - 1) = ((n + 1 : Nat) : Int) := wn (by clear ej z0; omega) (by clear ej z0; omega)
  have c1 : (0 : Int) ≤ ((n + 1 : Nat) : Int) := by clear i1 ej z0; omega
  have c2 : ((n + 1 : Nat) : Int) < (v.length : Int) := by clear i1 ej z0; omega
  have c3 : (0 : Int) ≤ (v.length : Int) := by clear i1 ej z0; omega
  have c4 : ((n + 1 : Nat) : Int) < (x.length : Int) := by clear i1 ej z0; omega
  have c5 : (v.length : Int) < (x.length : Int) := by clear i1 ej z0; omega
  have c6 : ¬ rd v ((n + 1 : Nat) : Int) = 0 := by clear i1 ej z0; omega
  have e0 : (v.length : Int) = ((n + 2 : Nat) : Int) := by clear i1 ej z0; omega
  simp only [nat_step.f, if_pos c3, if_pos c5, i1, if_pos c1, if_pos c4, if_pos c2, z0, if_neg c6]
  rw [show rd x (v.length : Int) = rd x ((n + 2 : Nat) : Int) by rw [e0]]
  have z3 := u64w (x := rd x ((n + 2 : Nat) : Int)) bu0.1 (by clear i1 ej z0; omega)
  simp only [z3, ej, Int.tdiv_eq_ediv_of_nonneg top0, Int.tmod_eq_emod_of_nonneg top0, u64w hdiv0 (Int.lt_of_le_of_lt hdiv1 top1)]
  clear i1 ej z0 z3
  refine step_est hx hv hxl hvl hn (by omega) eV eX' tv.1 tv.2 tx.1 tx.2 rfl rfl rfl ht b1.2 b2.1 b2.2 bu2.1 bu2.2 bu1.1 bu1.2 hW 2 _ _ (by omega) ?_ hmod0 (by omega) hdiv0 (Int.lt_of_le_of_lt hdiv1 top1) ?_
  · rw [Int.mul_comm]; exact hdm
  · exact L1 (by omega) eV eX' b2.1 tv.1 bu2.2 tx.2 (by rw [Int.mul_comm]; exact hdm) hmod hdiv0
theorem pm_pos (m : Nat) : (0 : Int) < (2 : Int) ^ m := Int.pow_pos (by decide)
theorem pm_le {m : Nat} (hm : m < 32) : (2 : Int) ^ m ≤ 2147483648 := by
  have hp : 2 ^ m ≤ 2147483648 := Nat.pow_le_pow_right (n := 2) (by decide) (show m ≤ 31 by omega)
  have h2 : ((2 ^ m : Nat) : Int) ≤ 2147483648 := by omega
  rw [Int.natCast_pow] at h2
  exact h2
theorem shl_or {x c : Int} {m : Nat} (hx0 : 0 ≤ x) (hx1 : x < 4294967296) (hm : m < 32) (hc0 : 0 ≤ c) (hc1 : c < (2 : Int) ^ m) :
    Go.bits .or .u64 (shl .u64 (IntKind.u64.wrap x) (m : Int)) c = x * (2 : Int) ^ m + c ∧ 0 ≤ x * (2 : Int) ^ m + c ∧ x * (2 : Int) ^ m + c < 4294967296 * (2 : Int) ^ m ∧ x * (2 : Int) ^ m + c < 18446744073709551616 := by
  have hp := pm_le hm
  have hp0 := pm_pos m
  have hb : x * (2 : Int) ^ m ≤ 4294967295 * (2 : Int) ^ m := Int.mul_le_mul_of_nonneg_right (by omega) (by omega)
  have h0 : 0 ≤ x * (2 : Int) ^ m := Int.mul_nonneg hx0 (by omega)
  have hmod : x * (2 : Int) ^ m % (2 : Int) ^ m = 0 := Int.mul_emod_left _ _
  have e : shl .u64 (IntKind.u64.wrap x) (m : Int) = x * (2 : Int) ^ m := by
    unfold shl
    rw [u64w (x := x) hx0 (by omega), Int.toNat_natCast, Nat.min_eq_left (show m ≤ IntKind.u64.bits by simp [IntKind.bits]; omega)]
    exact u64w h0 (by omega)
  rw [e]
  refine ⟨bits_join .u64 64 (by decide) wraps_u64 m _ _ h0 hmod ?_ hc0 hc1 ?_, by omega, by omega, by omega⟩
  · have : x * (2 : Int) ^ m < 18446744073709551616 := by omega
    exact this
  · have : c < 18446744073709551616 := by omega
    exact this
def Shf (a : List Int) (m : Nat) (r : List Int) : Prop := r.length = a.length + 1 ∧ Lm r ∧ lv r = lv a * (2 : Int) ^ m
theorem nshift_loop {a : List Int} {m : Nat} (ha : Lm a) (hla : a.length < 268435456) (hm : m < 32) : ∀ (d i : Nat) (o : List Int) (c : Int), i + d = a.length → o.length = a.length + 1 → Lm o → 0 ≤ c → c < (2 : Int) ^ m → (∀ j : Nat, i ≤ j → rd o (j : Int) = 0) →
    Aside0 (lv o + (bp i : Int) * c = lv (a.take i) * (2 : Int) ^ m) → Rz (Shf a m) (fun k => nat_shift.l0 k a (m : Int) o c a (a.length : Int) (i : Int)) := by
  intro d
  induction d with
  | zero =>
    intro i o c hi hol ho hc0 hc1 hz hv
    have hi : i = a.length := by omega
    subst hi
    have hp := pm_le hm
    have hc2 : c % 4294967296 = c := by omega
    have hlen : (a.length : Int) < (o.length : Int) := by omega
    refine Rz.succ ?_
    simp only [nat_shift.l0, if_neg (show ¬ (a.length : Int) < (a.length : Int) from Int.lt_irrefl _), if_pos (show (0 : Int) ≤ (a.length : Int) from Int.natCast_nonneg _), if_pos hlen, Int.toNat_natCast, hc2]
    refine Rz.some ⟨by rw [List.length_set]; exact hol, lm_set ho hc0 (by omega), ?_⟩
    have hv := hv.out
    rw [List.take_of_length_le (Nat.le_refl _)] at hv
    rw [lv_set _ (by omega), hz a.length (Nat.le_refl _), ← hv]
    rw [Int.sub_zero]
  | succ d ih =>
    intro i o c hi hol ho hc0 hc1 hz hv
    have hia : i < a.length := by omega
    have ra := rd_lm ha (i : Int)
    obtain ⟨e1, s0, sP, s1⟩ := shl_or ra.1 ra.2 hm hc0 hc1
    have hp0 := pm_pos m
    have hsP : (rd a (i : Int) * (2 : Int) ^ m + c) / 4294967296 < (2 : Int) ^ m := Int.ediv_lt_of_lt_mul (by decide) (by rw [Int.mul_comm ((2 : Int) ^ m) 4294967296]; exact sP)
    have hd := div_bound s0 s1
    have hs := split_div (rd a (i : Int) * (2 : Int) ^ m + c)
    have c1 : (i : Int) < (a.length : Int) := by clear e1; omega
    have c2 : (i : Int) < (o.length : Int) := by clear e1; omega
    refine Rz.succ ?_
    simp only [nat_shift.l0, if_pos c1, if_pos (show (0 : Int) ≤ (i : Int) from Int.natCast_nonneg _), if_pos (show (0 : Int) ≤ (m : Int) from Int.natCast_nonneg _), if_pos c2, e1, Int.toNat_natCast, wn (show (i : Int) + 1 = ((i + 1 : Nat) : Int) by clear e1; omega) (by clear e1; omega)]
    clear e1
    refine ih (i + 1) _ _ (by omega) (by rw [List.length_set]; exact hol) (lm_set ho hd.1 hd.2.1) hd.2.2.1 hsP (fun j hj => by rw [rd_set_ne _ (by omega)]; exact hz j (by omega)) ⟨?_⟩
    rw [lv_set _ (by omega), lv_take_succ hia, bp_succ, Int.natCast_mul, hz i (Nat.le_refl _)]
    have hv := hv.out
    clear ih hd hsP s0 s1 sP hz
    generalize (rd a (i : Int) * (2 : Int) ^ m + c) / 4294967296 = c2 at *
    generalize (rd a (i : Int) * (2 : Int) ^ m + c) % 4294967296 = sm at *
    generalize (2 : Int) ^ m = P at *
    generalize (bp i : Int) = p at *
    generalize rd a (i : Int) = ai at *
    generalize lv o = lo at *
    generalize lv (a.take i) = lt at *
    show lo + p * (sm - 0) + 4294967296 * p * c2 = (lt + p * ai) * P
    have h2 : p * (sm + 4294967296 * c2) = p * (ai * P + c) := by rw [hs]
    grind
theorem nshift_ev {a : List Int} {m : Nat} (ha : Lm a) (hla : a.length < 268435456) (hm : m < 32) : Rz (Shf a m) (fun k => nat_shift.f k a (m : Int)) := by
  simp only [nat_shift.f, wn (show (a.length : Int) + 1 = ((a.length + 1 : Nat) : Int) by omega) (by omega), Int.toNat_natCast, if_pos (show (0 : Int) ≤ ((a.length + 1 : Nat) : Int) by omega), if_pos (show a.length + 1 ≤ 70368744177664 by omega)]
  exact nshift_loop ha hla hm a.length 0 _ 0 (by omega) (by simp) (lm_rep _) (by omega) (pm_pos m) (fun j _ => rd_rep _ j) ⟨by rw [lv_rep]; simp [lv_nil]⟩
theorem join_low {y x : Int} (hy0 : 0 ≤ y) (hy1 : y < 4294967296) (hx0 : 0 ≤ x) (hx1 : x < 4294967296) : Go.bits .or .u64 (IntKind.u64.wrap y) (IntKind.u64.wrap (IntKind.u64.wrap x * 4294967296)) = y + x * 4294967296 := by
  rw [u64w (x := x) hx0 (by omega), u64w (x := x * 4294967296) (by omega) (by omega), u64w (x := y) hy0 (by omega)]
  have h := bits_join .u64 64 (by decide) wraps_u64 32 (x * 4294967296) y (by omega) (by omega) (by omega) hy0 (by omega) (by omega)
  obtain ⟨a, ha⟩ := Int.eq_ofNat_of_zero_le hy0
  obtain ⟨b, hb⟩ := Int.eq_ofNat_of_zero_le (show 0 ≤ x * 4294967296 by omega)
  rw [ha, hb] at h ⊢
  rw [(bits_nat .u64 64 (by decide) wraps_u64 b a (by omega) (by omega)).2] at h
  rw [(bits_nat .u64 64 (by decide) wraps_u64 a b (by omega) (by omega)).2, Nat.or_comm, h]
  omega
theorem shr_limb {u0 u1 : Int} {m : Nat} (h00 : 0 ≤ u0) (h01 : u0 < 4294967296) (h10 : 0 ≤ u1) (h11 : u1 < 4294967296) (hm : m < 32) :
    ∃ x, shr .u64 (Go.bits .or .u64 (IntKind.u64.wrap u0) (IntKind.u64.wrap (IntKind.u64.wrap u1 * 4294967296))) (m : Int) % 4294967296 = x ∧ 0 ≤ x ∧ x < 4294967296 ∧ x * (2 : Int) ^ m = u0 - u0 % (2 : Int) ^ m + (u1 % (2 : Int) ^ m) * 4294967296 := by
  refine ⟨_, rfl, by omega, by omega, ?_⟩
  rw [join_low h00 h01 h10 h11]
  unfold shr
  rw [Int.toNat_natCast, Nat.min_eq_left (show m ≤ IntKind.u64.bits by simp [IntKind.bits]; omega)]
  have hp0 := pm_pos m
  have hq0 := pm_pos (32 - m)
  have hPP : (2 : Int) ^ m * (2 : Int) ^ (32 - m) = 4294967296 := by
    rw [← Int.pow_add, show m + (32 - m) = 32 by omega]; rfl
  generalize (2 : Int) ^ m = P at *
  generalize (2 : Int) ^ (32 - m) = P' at *
  have e1 : (u0 + u1 * 4294967296) / P = u0 / P + u1 * P' := by
    rw [← hPP, show u1 * (P * P') = (u1 * P') * P by grind]
    exact Int.add_mul_ediv_right _ _ (by omega)
  have hm0 := Int.emod_nonneg u1 (show P ≠ 0 by omega)
  have hm1 := Int.emod_lt_of_pos u1 hp0
  have hd := Int.mul_ediv_add_emod u1 P
  have hd0 := Int.mul_ediv_add_emod u0 P
  have hu := Int.ediv_nonneg h00 (show 0 ≤ P by omega)
  have hu1 : u0 / P < P' := Int.ediv_lt_of_lt_mul hp0 (by rw [Int.mul_comm, hPP]; exact h01)
  have e2 : (u0 / P + u1 * P') % 4294967296 = u0 / P + (u1 % P) * P' := by
    have e3 : u0 / P + u1 * P' = (u0 / P + (u1 % P) * P') + (u1 / P) * 4294967296 := by
      rw [← hPP]
      have : u1 * P' = (P * (u1 / P) + u1 % P) * P' := by rw [hd]
      grind
    rw [e3, Int.add_mul_emod_self_right]
    have h1 : 0 ≤ (u1 % P) * P' := Int.mul_nonneg hm0 (by omega)
    have h2 : (u1 % P + 1) * P' ≤ P * P' := Int.mul_le_mul_of_nonneg_right (by omega) (by omega)
    have h3 : (u1 % P + 1) * P' = (u1 % P) * P' + P' := by grind
    exact Int.emod_eq_of_lt (by omega) (by omega)
  rw [e1, e2]
  have : (u0 / P) * P = u0 - u0 % P := by rw [Int.mul_comm]; omega
  have h4 : (u1 % P) * P' * P = (u1 % P) * 4294967296 := by rw [← hPP]; grind
  rw [Int.add_mul, this, h4]
theorem rem_loop {u quo : List Int} {m n : Nat} (hu : Lm u) (hn : n < u.length) (hnl : n < 268435456) (hm : m < 32) : ∀ (d i : Nat) (o : List Int), i + d = n → o.length = n → Lm o → (∀ j : Nat, i ≤ j → rd o (j : Int) = 0) →
    Aside0 (lv o * (2 : Int) ^ m = lv (u.take i) - rd u ((0 : Nat) : Int) % (2 : Int) ^ m + (bp i : Int) * (rd u (i : Int) % (2 : Int) ^ m)) →
    Rz (fun r => r.1 = quo ∧ Lm r.2 ∧ r.2.length = n ∧ lv r.2 * (2 : Int) ^ m = lv (u.take n) - rd u ((0 : Nat) : Int) % (2 : Int) ^ m + (bp n : Int) * (rd u (n : Int) % (2 : Int) ^ m)) (fun k => nat_long.l1 k quo o (m : Int) u (n : Int) (i : Int)) := by
  intro d
  induction d with
  | zero =>
    intro i o hi hol ho hz hv
    have hi : i = n := by omega
    subst hi
    refine Rz.succ ?_
    simp only [nat_long.l1, if_neg (show ¬ (i : Int) < (i : Int) from Int.lt_irrefl _)]
    exact Rz.some ⟨rfl, ho, hol, hv.out⟩
  | succ d ih =>
    intro i o hi hol ho hz hv
    have r0 := rd_lm hu (i : Int)
    have r1 := rd_lm hu ((i + 1 : Nat) : Int)
    obtain ⟨x, ex, x0, x1, hx⟩ := shr_limb r0.1 r0.2 r1.1 r1.2 hm
    have c1 : (i : Int) < (n : Int) := by clear ex; omega
    have c2 : (i : Int) < (u.length : Int) := by clear ex; omega
    have c3 : ((i + 1 : Nat) : Int) < (u.length : Int) := by clear ex; omega
    have c4 : (i : Int) < (o.length : Int) := by clear ex; omega
    have ew := wn (show (i : Int) + 1 = ((i + 1 : Nat) : Int) by clear ex; omega) (by clear ex; omega)
    refine Rz.succ ?_
    simp only [nat_long.l1, if_pos c1, if_pos (show (0 : Int) ≤ (i : Int) from Int.natCast_nonneg _), if_pos c2, ew, if_pos (show (0 : Int) ≤ ((i + 1 : Nat) : Int) from Int.natCast_nonneg _), if_pos c3, if_pos (show (0 : Int) ≤ (m : Int) from Int.natCast_nonneg _), if_pos c4, ex, Int.toNat_natCast]
    clear ex ew
    refine ih (i + 1) _ (by omega) (by rw [List.length_set]; exact hol) (lm_set ho x0 x1) (fun j hj => by rw [rd_set_ne _ (by omega)]; exact hz j (by omega)) ⟨?_⟩
    rw [lv_set _ (by omega), hz i (Nat.le_refl _), lv_take_succ (by omega), bp_succ, Int.natCast_mul]
    have hv := hv.out
    clear ih hz
    generalize (2 : Int) ^ m = P at *
    generalize rd u ((i + 1 : Nat) : Int) % P = k1 at *
    generalize hk0 : rd u (i : Int) % P = k0 at *
    generalize rd u ((0 : Nat) : Int) % P = kz at *
    generalize (bp i : Int) = p at *
    generalize rd u (i : Int) = ui at *
    generalize lv o = lo at *
    generalize lv (u.take i) = lt at *
    show (lo + p * (x - 0)) * P = lt + p * ui - kz + 4294967296 * p * k1
    have h2 : p * (x * P) = p * (ui - k0 + k1 * 4294967296) := by rw [hx]
    grind
theorem win_split {u : List Int} {lo hi : Nat} (h1 : lo ≤ hi) (h2 : hi ≤ u.length) : u.take lo ++ ((u.take hi).drop lo ++ u.drop hi) = u := by
  have h3 : (u.take hi).take lo = u.take lo := by rw [List.take_take, Nat.min_eq_left h1]
  rw [← List.append_assoc, ← h3, List.take_append_drop, List.take_append_drop]
theorem lm_drop {l : List Int} (h : Lm l) (n : Nat) : Lm (l.drop n) := fun x hx => h x (List.mem_of_mem_drop hx)
theorem quo_loop {P : List Int × List Int → Prop} {v : List Int} {m N : Nat} {A : Int} (hv : Lm v) (hk : 2 ≤ v.length) (ht : 2147483648 ≤ rd v ((v.length - 1 : Nat) : Int)) (hN : N < 268435456)
    (hfin : ∀ (u quo : List Int), u.length = N → Lm u → Lm quo → quo.length = N - v.length → lv u < lv v → Aside0 (A = lv quo * lv v + lv u) → Rz P (fun k => nat_long.l0 k quo (m : Int) v u (v.length : Int) (-1))) :
    ∀ (d : Nat) (u quo : List Int), d + v.length ≤ N → u.length = N → Lm u → Lm quo → quo.length = N - v.length → (∀ i : Nat, i < d → rd quo (i : Int) = 0) → lv u < (bp d : Int) * lv v → Aside0 (A = lv quo * lv v + lv u) → Rz P (fun k => nat_long.l0 k quo (m : Int) v u (v.length : Int) ((d : Int) - 1)) := by
  intro d
  induction d with
  | zero =>
    intro u quo hd hul hu hq hql hz hlt he
    rw [bp_zero] at hlt
    exact hfin u quo hul hu hq hql (by rw [show ((1 : Nat) : Int) = 1 from rfl, Int.one_mul] at hlt; exact hlt) he
  | succ d ih =>
    intro u quo hd hul hu hq hql hz hlt he
    have hV0 := lv_nonneg hv
    have hV1 := lv_lt hv
    obtain ⟨w, hw⟩ : ∃ w, w = (u.take (d + v.length + 1)).drop d := ⟨_, rfl⟩
    obtain ⟨dr, hdr⟩ : ∃ dr, dr = u.drop (d + v.length + 1) := ⟨_, rfl⟩
    have hsp := win_split (u := u) (lo := d) (hi := d + v.length + 1) (by omega) (by omega)
    rw [← hw, ← hdr] at hsp
    have hwl : w.length = v.length + 1 := by rw [hw, List.length_drop, List.length_take]; omega
    have hdl : dr.length = N - (d + v.length + 1) := by rw [hdr, List.length_drop]; omega
    have hwm : Lm w := by rw [hw]; exact lm_drop (lm_take hu _) _
    have hdm : Lm dr := by rw [hdr]; exact lm_drop hu _
    have htl : (u.take d).length = d := by rw [List.length_take]; omega
    have hval : lv u = lv (u.take d) + (bp d : Int) * (lv w + (bp (v.length + 1) : Int) * lv dr) := by
      rw [← hwl]
      conv => lhs; rw [← hsp, lv_append, lv_append, htl]
    have tb := take_bound hu d
    have w0 := lv_nonneg hwm
    have d0 := lv_nonneg hdm
    have hb := bp_pos d
    have hbk := bp_pos v.length
    rw [bp_succ, Int.natCast_mul] at hlt
    have hdr0 : lv dr = 0 := by
      by_cases g : lv dr = 0
      · exact g
      · exfalso
        have h1 : (bp v.length : Int) * 1 ≤ (bp v.length : Int) * lv dr := Int.mul_le_mul_of_nonneg_left (by omega) (by omega)
        rw [bp_succ, Int.natCast_mul] at hval
        have h2 : (bp d : Int) * (lv w + 4294967296 * (bp v.length : Int) * lv dr) < (bp d : Int) * (4294967296 * lv v) := by
          have : ((4294967296 : Nat) : Int) * (bp d : Int) * lv v = (bp d : Int) * (4294967296 * lv v) := by
            show 4294967296 * (bp d : Int) * lv v = _
            grind
          have e2 : (bp d : Int) * (lv w + ((4294967296 : Nat) : Int) * (bp v.length : Int) * lv dr) = (bp d : Int) * (lv w + 4294967296 * (bp v.length : Int) * lv dr) := rfl
          omega
        have h3 := Int.lt_of_mul_lt_mul_left h2 (by omega)
        have h4 : 4294967296 * (bp v.length : Int) * lv dr = 4294967296 * ((bp v.length : Int) * lv dr) := by grind
        omega
    rw [hdr0, Int.mul_zero, Int.add_zero] at hval
    have hW : lv w < 4294967296 * lv v := by
      have h2 : (bp d : Int) * lv w < (bp d : Int) * (4294967296 * lv v) := by
        have : ((4294967296 : Nat) : Int) * (bp d : Int) * lv v = (bp d : Int) * (4294967296 * lv v) := by
          show 4294967296 * (bp d : Int) * lv v = _
          grind
        omega
      exact Int.lt_of_mul_lt_mul_left h2 (by omega)
    obtain ⟨⟨q, rl⟩, hev, hq1, hrl, hrm, hrv⟩ := step_ev hwm hv hwl (by omega) hk ht hW
    simp only at hq1 hrl hrm hrv
    have hVp : 0 < lv v := by omega
    have hdm2 := Int.mul_ediv_add_emod (lv w) (lv v)
    have hr0 := Int.emod_nonneg (lv w) (show lv v ≠ 0 by omega)
    have hr1 := Int.emod_lt_of_pos (lv w) hVp
    have hq0 : 0 ≤ q := by rw [hq1]; exact Int.ediv_nonneg w0 (by omega)
    have hqB : q < 4294967296 := by rw [hq1]; exact Int.ediv_lt_of_lt_mul hVp hW
    rw [← hq1, ← hrv] at hdm2
    rw [← hrv] at hr0 hr1
    have i1 : wrap64 ((d : Int) + (v.length : Int)) = ((d + v.length : Nat) : Int) := wn (by omega) (by omega)
    have i2 : wrap64 (((d + v.length : Nat) : Int) + 1) = ((d + v.length + 1 : Nat) : Int) := wn (by clear i1; omega) (by clear i1; omega)
    have i3 : wrap64 ((d : Int) - 1) = (d : Int) - 1 := w64 (by clear i1 i2; omega) (by clear i1 i2; omega)
    have c1 : (d : Int) ≥ 0 := Int.natCast_nonneg _
    have c2 : (d : Int) ≤ ((d + v.length + 1 : Nat) : Int) := by clear i1 i2 i3; omega
    have c3 : ((d + v.length + 1 : Nat) : Int) ≤ (u.length : Int) := by clear i1 i2 i3; omega
    have c4 : (d : Int) < (quo.length : Int) := by clear i1 i2 i3; omega
    refine Rz.succ ?_
    rw [show ((d + 1 : Nat) : Int) - 1 = (d : Int) by clear i1 i2 i3; omega]
    simp only [nat_long.l0, if_pos c1, if_pos (show (0 : Int) ≤ (d : Int) from c1), i1, i2, if_pos c2, if_pos c3, Int.toNat_natCast, ← hw, ← hdr]
    refine Rz.bind hev ?_
    simp only [if_pos c4, i3]
    clear i1 i2 i3 hev
    have hul2 : (u.take d ++ (rl ++ dr)).length = N := by rw [List.length_append, List.length_append, htl, hrl, hdl]; omega
    have hval2 : lv (u.take d ++ (rl ++ dr)) = lv (u.take d) + (bp d : Int) * lv rl := by
      rw [lv_append, lv_append, htl, hdr0, Int.mul_zero, Int.add_zero]
    refine ih _ _ (by omega) hul2 (lm_append (lm_take hu _) (lm_append hrm hdm)) (lm_set hq hq0 hqB) (by rw [List.length_set]; exact hql) (fun i hi => by rw [rd_set_ne _ (by omega)]; exact hz i (by omega)) ?_ ⟨?_⟩
    · rw [hval2]
      have h1 : (bp d : Int) * (lv rl + 1) ≤ (bp d : Int) * lv v := Int.mul_le_mul_of_nonneg_left (by omega) (by omega)
      have h2 : (bp d : Int) * (lv rl + 1) = (bp d : Int) * lv rl + bp d := by grind
      omega
    · rw [lv_set _ (by omega), hz d (by omega), hval2]
      have he := he.out
      rw [hval] at he
      rw [he]
      have h1 : (bp d : Int) * (lv v * q + lv rl) = (bp d : Int) * lv w := by rw [hdm2]
      generalize (bp d : Int) = p at *
      grind
theorem len32 {x : Int} (h0 : 0 ≤ x) (h1 : x < 4294967296) : bits_Len32.f x = some ((Lib.bitLen x.toNat : Nat) : Int) := by
  unfold bits_Len32.f
  rw [if_pos h0, if_pos (by omega)]
theorem nlong_ev {a b : Nat} (hb : 2 ≤ (dg b).length) (hab : b ≤ a) (hal : (dg a).length < 67108864) :
    Rz (fun r => Lm r.1 ∧ Lm r.2 ∧ lv r.1 = ((a / b : Nat) : Int) ∧ lv r.2 = ((a % b : Nat) : Int) ∧ r.1.length ≤ (dg a).length + 1 ∧ r.2.length ≤ (dg a).length + 1) (fun k => nat_long.f k (dg a) (dg b)) := by
  have hlab := dg_len_mono hab
  obtain ⟨n, hn⟩ : ∃ n, (dg b).length = n + 1 := ⟨(dg b).length - 1, by omega⟩
  have hb0 : b ≠ 0 := by intro e; rw [e, dg_zero] at hb; simp at hb
  have hr := rd_lm (lm_dg b) (n : Int)
  have hd := dg_head (n := b) (i := n) (by omega)
  obtain ⟨x, hx⟩ : ∃ x : Nat, rd (dg b) (n : Int) = (x : Int) := ⟨(rd (dg b) (n : Int)).toNat, by omega⟩
  rw [hx] at hr hd
  have hx0 : x ≠ 0 := by omega
  have hx1 : x < 4294967296 := by omega
  have hbl1 := bitLen_pos hx0 hx1
  have hbl2 := bits_half x hx1
  obtain ⟨m, hm⟩ : ∃ m, m = 32 - Lib.bitLen x := ⟨_, rfl⟩
  have hm32 : m < 32 := by omega
  have hblb : bl b = 32 * n + Lib.bitLen x := by
    unfold bl
    rw [if_neg hb0, hn, show n + 1 - 1 = n from rfl, hx, Int.toNat_natCast]
  obtain ⟨lo, hi, _⟩ := bl_bounds hb0
  obtain ⟨V, hV⟩ : ∃ V, V = b * 2 ^ m := ⟨_, rfl⟩
  have hVlo : 2147483648 * bp n ≤ V := by
    rw [hV, ← pow2_bp]
    have h1 := Nat.mul_le_mul_right (2 ^ m) lo
    rw [← Nat.pow_add, hblb, show 32 * n + Lib.bitLen x - 1 + m = 31 + 32 * n by omega, Nat.pow_add] at h1
    exact h1
  have hVhi : V < bp (n + 1) := by
    rw [hV, ← pow2_bp]
    have h1 := Nat.mul_lt_mul_of_pos_right hi (Nat.two_pow_pos m)
    rw [← Nat.pow_add, hblb, show 32 * n + Lib.bitLen x + m = 32 * (n + 1) by omega] at h1
    exact h1
  have hVl : (dg V).length = n + 1 := by
    have h1 := dg_len_le hVhi
    by_cases g : (dg V).length ≤ n
    · exfalso
      have h2 := dg_lt_len V
      have h3 := bp_mono g
      have h4 := bp_pos n
      omega
    · omega
  have hVt : 2147483648 ≤ rd (dg V) (((dg V).length - 1 : Nat) : Int) := by
    rw [hVl, show n + 1 - 1 = n from rfl]
    have h1 := lv_take_succ (l := dg V) (i := n) (by omega)
    rw [← hVl, List.take_of_length_le (Nat.le_refl _), lv_dg] at h1
    have h2 := take_bound (lm_dg V) n
    have h4 := bp_pos n
    have h5 : (bp n : Int) * 2147483647 < (bp n : Int) * rd (dg V) (n : Int) := by omega
    have := Int.lt_of_mul_lt_mul_left h5 (by omega)
    omega
  have hVm : Lm (dg V) := lm_dg V
  have hVv : lv (dg V) = (V : Int) := lv_dg V
  have hp2 : ((2 ^ m : Nat) : Int) = (2 : Int) ^ m := by rw [Int.natCast_pow]; rfl
  have hpm := pm_pos m
  obtain ⟨s1, hs1, hs1l, hs1m, hs1v⟩ := nshift_ev (a := dg b) (m := m) (lm_dg b) (by omega) hm32
  obtain ⟨u, hu, hul, hum, huv⟩ := nshift_ev (a := dg a) (m := m) (lm_dg a) (by omega) hm32
  have hs1V : (lv s1).toNat = V := by
    rw [hs1v, lv_dg, ← hp2, ← Int.natCast_mul, Int.toNat_natCast, hV]
  have hsh := short_ev hs1m (by omega)
  rw [hs1V] at hsh
  rw [lv_dg] at huv
  have i1 : wrap64 (((n + 1 : Nat) : Int) - 1) = (n : Int) := wn (by omega) (by omega)
  have i2 : wrap64 (32 - ((Lib.bitLen x : Nat) : Int)) = (m : Int) := wn (by clear i1; omega) (by clear i1; omega)
  have f1 : bits_LeadingZeros32.f (rd (dg b) (n : Int)) = some (m : Int) := by
    unfold bits_LeadingZeros32.f
    rw [hx, len32 (by clear i1 i2; omega) (by clear i1 i2; omega), Int.toNat_natCast, Option.bind_some, i2]
  have i3 : wrap64 ((u.length : Int) - ((dg V).length : Int)) = ((u.length - (n + 1) : Nat) : Int) := wn (by clear i1 i2; omega) (by clear i1 i2; omega)
  have i4 : wrap64 (((u.length - (n + 1) : Nat) : Int) - 1) = ((u.length - (n + 1) : Nat) : Int) - 1 := w64 (by clear i1 i2 i3; omega) (by clear i1 i2 i3; omega)
  have c1 : (0 : Int) ≤ (n : Int) := Int.natCast_nonneg _
  have c2 : (n : Int) < ((n + 1 : Nat) : Int) := by clear i1 i2 i3 i4; omega
  have c3 : u.length - (n + 1) ≤ 70368744177664 := by clear i1 i2 i3 i4; omega
  simp only [nat_long.f, hn, i1, if_pos c1, if_pos c2]
  refine Rz.bind (Ev.of (fun k => f1)) ?_
  refine Rz.bind hs1 ?_
  refine Rz.bind hsh ?_
  refine Rz.bind hu ?_
  simp only [i3, i4, if_pos (show (0 : Int) ≤ ((u.length - (n + 1) : Nat) : Int) from Int.natCast_nonneg _), Int.toNat_natCast, if_pos c3]
  clear i1 i2 i3 i4 f1
  have hb1 : bp n ≤ b := by
    have h1 : bp n * 2 ^ (Lib.bitLen x - 1) ≤ b := by
      rw [← pow2_bp, ← Nat.pow_add, show 32 * n + (Lib.bitLen x - 1) = bl b - 1 by omega]; exact lo
    have h2 := Nat.two_pow_pos (Lib.bitLen x - 1)
    have h3 : bp n * 1 ≤ bp n * 2 ^ (Lib.bitLen x - 1) := Nat.mul_le_mul_left _ h2
    omega
  refine quo_loop (A := (a : Int) * (2 : Int) ^ m) (N := u.length) hVm (by omega) hVt (by omega) (fun u2 quo hu2l hu2m hqm hql hlt he => ?_) (u.length - (n + 1)) u _ (by omega) rfl hum (lm_rep _) (by rw [List.length_replicate, hVl]) (fun i _ => rd_rep _ i) ?_ ⟨by rw [lv_rep, huv]; omega⟩
  ·
    rw [hVv] at hlt he
    have he := he.out
    have hVi : (V : Int) = (b : Int) * (2 : Int) ^ m := by rw [hV, Int.natCast_mul, hp2]
    have hu20 := lv_nonneg hu2m
    obtain ⟨r, hr2⟩ : ∃ r, r = (a : Int) - lv quo * b := ⟨_, rfl⟩
    have hrP : lv u2 = r * (2 : Int) ^ m := by
      rw [hVi] at he
      rw [hr2]
      generalize (2 : Int) ^ m = P at *
      grind
    have hr0 : 0 ≤ r := by
      by_cases g : 0 ≤ r
      · exact g
      · exfalso
        have h1 : r * (2 : Int) ^ m ≤ -1 * (2 : Int) ^ m := Int.mul_le_mul_of_nonneg_right (by omega) (by omega)
        omega
    have hrb : r < (b : Int) := by
      rw [hrP, hVi] at hlt
      exact Int.lt_of_mul_lt_mul_right hlt (by omega)
    have hqr := (Int.ediv_emod_unique (a := (a : Int)) (b := (b : Int)) (r := r) (q := lv quo) (by omega)).mpr ⟨by rw [hr2, Int.mul_comm (b : Int)]; omega, hr0, hrb⟩
    have hz1 : rd u2 ((n + 1 : Nat) : Int) = 0 ∧ lv (u2.take (n + 1)) = lv u2 := by
      have h1 := take_bound hu2m (n + 1)
      have hsp : lv u2 = lv (u2.take (n + 1)) + (bp (n + 1) : Int) * lv (u2.drop (n + 1)) := by
        conv => lhs; rw [← List.take_append_drop (n + 1) u2, lv_append, List.length_take, Nat.min_eq_left (show n + 1 ≤ u2.length by omega)]
      have h2 := lv_nonneg (lm_drop hu2m (n + 1))
      have h3 := bp_pos (n + 1)
      have hz : lv (u2.drop (n + 1)) = 0 := by
        by_cases g : lv (u2.drop (n + 1)) = 0
        · exact g
        · exfalso
          have : (bp (n + 1) : Int) * 1 ≤ (bp (n + 1) : Int) * lv (u2.drop (n + 1)) := Int.mul_le_mul_of_nonneg_left (by omega) (by omega)
          omega
      rw [hz, Int.mul_zero, Int.add_zero] at hsp
      refine ⟨?_, hsp.symm⟩
      have h4 := lv_take_succ (l := u2) (i := n + 1) (by omega)
      have h5 := rd_lm hu2m ((n + 1 : Nat) : Int)
      have hsp2 : lv u2 = lv (u2.take (n + 2)) + (bp (n + 2) : Int) * lv (u2.drop (n + 2)) := by
        conv => lhs; rw [← List.take_append_drop (n + 2) u2, lv_append, List.length_take, Nat.min_eq_left (show n + 2 ≤ u2.length by omega)]
      have h6 : 0 ≤ (bp (n + 2) : Int) * lv (u2.drop (n + 2)) := Int.mul_nonneg (Int.natCast_nonneg _) (lv_nonneg (lm_drop hu2m (n + 2)))
      by_cases g : rd u2 ((n + 1 : Nat) : Int) = 0
      · exact g
      · exfalso
        have : (bp (n + 1) : Int) * 1 ≤ (bp (n + 1) : Int) * rd u2 ((n + 1 : Nat) : Int) := Int.mul_le_mul_of_nonneg_left (by omega) (by omega)
        have h4' : lv (u2.take (n + 2)) = lv (u2.take (n + 1)) + (bp (n + 1) : Int) * rd u2 ((n + 1 : Nat) : Int) := h4
        omega
    have hc0 : rd u2 ((0 : Nat) : Int) % (2 : Int) ^ m = 0 := by
      have h1 := lv_take_succ (l := u2) (i := 0) (by omega)
      have hsp : lv u2 = lv (u2.take 1) + (bp 1 : Int) * lv (u2.drop 1) := by
        conv => lhs; rw [← List.take_append_drop 1 u2, lv_append, List.length_take, Nat.min_eq_left (show 1 ≤ u2.length by omega)]
      rw [List.take_zero, lv_nil, bp_zero] at h1
      have h2 : lv (u2.take 1) = rd u2 ((0 : Nat) : Int) := by
        have : lv (u2.take (0 + 1)) = 0 + ((1 : Nat) : Int) * rd u2 ((0 : Nat) : Int) := h1
        rw [show u2.take 1 = u2.take (0 + 1) from rfl, this]; omega
      have hPP : (2 : Int) ^ m * (2 : Int) ^ (32 - m) = 4294967296 := by
        rw [← Int.pow_add, show m + (32 - m) = 32 by omega]; rfl
      rw [h2, show (bp 1 : Int) = 4294967296 by rw [show bp 1 = bp (0 + 1) from rfl, bp_succ, bp_zero]; rfl, ← hPP, hrP] at hsp
      have : rd u2 ((0 : Nat) : Int) = (r - (2 : Int) ^ (32 - m) * lv (u2.drop 1)) * (2 : Int) ^ m := by
        generalize (2 : Int) ^ m = P at *
        grind
      rw [this]
      exact Int.mul_emod_left _ _
    have c5 : ¬ ((-1 : Int) ≥ 0) := by omega
    have c6 : n + 1 ≤ 70368744177664 := by omega
    refine Rz.succ ?_
    rw [hVl]
    simp only [nat_long.l0, if_neg c5, if_pos (show (0 : Int) ≤ ((n + 1 : Nat) : Int) from Int.natCast_nonneg _), Int.toNat_natCast, if_pos c6, Option.bind_some, List.length_replicate]
    obtain ⟨⟨q3, r3⟩, h31, h32, h33, h34, h35⟩ := rem_loop (u := u2) (quo := quo) (m := m) (n := n + 1) hu2m (by omega) (by omega) hm32 (n + 1) 0 (List.replicate (n + 1) 0) (by omega) (List.length_replicate) (lm_rep _) (fun j _ => rd_rep _ j) ⟨by
      rw [lv_rep, List.take_zero, lv_nil, bp_zero]
      show 0 * _ = 0 - _ + 1 * _
      omega⟩
    refine ⟨(q3, r3), h31, ?_⟩
    simp only at h32 h33 h34 h35
    rw [hz1.1, hz1.2, hc0, hrP] at h35
    have hr3 : lv r3 = r := by
      have h36 : (2 : Int) ^ m * lv r3 = (2 : Int) ^ m * r := by
        rw [Int.zero_emod, Int.mul_zero] at h35
        rw [Int.mul_comm, h35, Int.mul_comm r]; omega
      exact Int.eq_of_mul_eq_mul_left (by omega) h36
    refine ⟨?_, h33, ?_, ?_, ?_, ?_⟩
    · show Lm q3
      rw [h32]; exact hqm
    · show lv q3 = _
      rw [h32, ← hqr.1, Int.natCast_ediv]
    · show lv r3 = _
      rw [hr3, ← hqr.2, Int.natCast_emod]
    · show q3.length ≤ _
      rw [h32, hql]; omega
    · show r3.length ≤ _
      rw [h34]; omega
  ·
    rw [huv, hVv, hV, Int.natCast_mul, hp2]
    have h1 : (a : Int) < (bp (u.length - (n + 1)) : Int) * (b : Int) := by
      have h2 := dg_lt_len a
      have h3 : bp (u.length - (n + 1)) * bp n ≤ bp (u.length - (n + 1)) * b := Nat.mul_le_mul_left _ hb1
      rw [← bp_add, show u.length - (n + 1) + n = (dg a).length by omega] at h3
      have h4 : a < bp (u.length - (n + 1)) * b := by omega
      have := Int.ofNat_lt.mpr h4
      rw [Int.natCast_mul] at this
      exact this
    have h5 := Int.mul_lt_mul_of_pos_right h1 hpm
    rw [Int.mul_assoc] at h5
    exact h5
theorem ndivmod_ev {a b : Nat} (hb0 : b ≠ 0) (hla : (dg a).length < 67108864) (hlb : (dg b).length < 67108864) : Ev (fun k => nat_DivMod.f k (dg a) (dg b)) (dg (a / b), dg (a % b), 0) := by
  by_cases hb1 : b < 4294967296
  · exact ndivmod1_ev hb0 hb1 (by omega)
  have hb2 : 2 ≤ (dg b).length := by
    by_cases g : (dg b).length ≤ 1
    · exfalso
      have h2 := dg_lt_len b
      have h3 := bp_mono g
      rw [show bp 1 = bp (0 + 1) from rfl, bp_succ, bp_zero] at h3
      omega
    · omega
  simp only [nat_DivMod.f]
  refine Ev.bind (short2_ev (by omega)) ?_
  refine Ev.bind (short2_ev (by omega)) ?_
  simp only [if_neg (show ¬ ((dg b).length : Int) = 0 by omega)]
  refine Ev.bind (ncmp_ev (by omega) (by omega)) ?_
  by_cases h : a < b
  · have hc : cmpZ (a : Int) (b : Int) < 0 := by unfold cmpZ; rw [if_pos (by omega)]; omega
    simp only [if_pos hc]
    refine Ev.bind (trim2_ev (by omega)) ?_
    rw [Nat.div_eq_of_lt h, Nat.mod_eq_of_lt h, dg_zero]
    exact Ev.some _
  · have hc : ¬ cmpZ (a : Int) (b : Int) < 0 := by unfold cmpZ; rw [if_neg (by omega)]; split <;> omega
    simp only [if_neg hc, if_neg (show ¬ ((dg b).length : Int) = 1 by omega)]
    obtain ⟨⟨q, r⟩, hev, hq, hr, hqv, hrv, hql, hrl⟩ := nlong_ev hb2 (by omega) hla
    simp only at hq hr hqv hrv hql hrl
    refine Ev.bind hev ?_
    refine Ev.bind (trim_ev hq (by simp only; omega)) ?_
    refine Ev.bind (trim_ev hr (by simp only; omega)) ?_
    simp only [hqv, hrv, Int.toNat_natCast]
    exact Ev.some _
theorem ngcdG_loop : ∀ (b a : Nat), (dg a).length < 1048576 → (dg b).length < 1048576 → Ev (fun k => nat_Gcd.l0 k (dg a) (dg b)) (dg (Nat.gcd a b)) := by
  intro b
  induction b using Nat.strongRecOn with
  | _ b ih =>
    intro a h1 h2
    refine Ev.succ ?_
    by_cases h0 : b = 0
    · subst h0
      rw [dg_zero]
      simp only [nat_Gcd.l0, List.length_nil, if_neg (show ¬ ((0 : Nat) : Int) > 0 by omega), Nat.gcd_zero_right]
      refine Ev.bind (trim2_ev (by omega)) ?_
      exact Ev.some _
    · have hbl : (dg b).length ≠ 0 := by rw [Ne, dg_len_zero]; exact h0
      simp only [nat_Gcd.l0, if_pos (show ((dg b).length : Int) > 0 by omega)]
      refine Ev.bind (ndivmod_ev h0 (by omega) (by omega)) ?_
      rw [Nat.gcd_comm, Nat.gcd_rec, Nat.gcd_comm]
      have hlt := Nat.mod_lt a (show b > 0 by omega)
      exact ih (a % b) hlt b (by omega) (Nat.lt_of_le_of_lt (dg_len_mono (Nat.le_of_lt hlt)) h2)
theorem ngcdG_ev {a b : Nat} (h1 : (dg a).length < 1048576) (h2 : (dg b).length < 1048576) : Ev (fun k => nat_Gcd.f k (dg a) (dg b)) (dg (Nat.gcd a b)) := by
  simp only [nat_Gcd.f]
  refine Ev.bind (short2_ev (by omega)) ?_
  refine Ev.bind (short2_ev (by omega)) ?_
  exact ngcdG_loop b a h1 h2
theorem sg_len {b : Bool} {n : Nat} {z : Int} (h : sg b n = z) : n = z.natAbs := by rw [← h, sg_abs]
theorem nplus_ev {b1 b2 : Bool} {n1 n2 : Nat} (h1 : (dg n1).length < 134217728) (h2 : (dg n2).length < 134217728) :
    ∃ b n, Ev (fun k => mw_plus.f k b1 (dg n1) b2 (dg n2)) (b, dg n) ∧ sg b n = sg b1 n1 + sg b2 n2 := by
  by_cases hs : (b1 == b2) = true
  · refine ⟨b1, n1 + n2, ?_, ?_⟩
    · simp only [mw_plus.f, hs, if_true]
      refine Ev.bind (add2_ev (by omega) (by omega)) ?_
      exact Ev.some _
    · have e : b1 = b2 := by simpa using hs
      subst e
      unfold sg
      cases b1 <;> simp <;> omega
  · have hne : b1 ≠ b2 := by intro e; exact hs (by simp [e])
    by_cases hlt : n1 < n2
    · refine ⟨b2, n2 - n1, ?_, ?_⟩
      · have hc : cmpZ (n1 : Int) (n2 : Int) < 0 := by unfold cmpZ; rw [if_pos (by omega)]; omega
        simp only [mw_plus.f, hs, Bool.false_eq_true, if_false]
        refine Ev.bind (ncmp_ev (by omega) (by omega)) ?_
        simp only [if_pos hc]
        refine Ev.bind (nsub_ev (by omega) (by omega)) ?_
        exact Ev.some _
      · unfold sg
        cases b1 <;> cases b2 <;> simp at hne ⊢ <;> omega
    · refine ⟨b1, n1 - n2, ?_, ?_⟩
      · have hc : ¬ cmpZ (n1 : Int) (n2 : Int) < 0 := by unfold cmpZ; rw [if_neg (by omega)]; split <;> omega
        simp only [mw_plus.f, hs, Bool.false_eq_true, if_false]
        refine Ev.bind (ncmp_ev (by omega) (by omega)) ?_
        simp only [if_neg hc]
        refine Ev.bind (nsub_ev (by omega) (by omega)) ?_
        exact Ev.some _
      · unfold sg
        cases b1 <;> cases b2 <;> simp at hne ⊢ <;> omega
theorem sg_not (b : Bool) (n : Nat) : sg (!b) n = - sg b n := by unfold sg; cases b <;> simp
theorem nminus_ev {b1 b2 : Bool} {n1 n2 : Nat} (h1 : (dg n1).length < 134217728) (h2 : (dg n2).length < 134217728) :
    ∃ b n, Ev (fun k => mw_minus.f k b1 (dg n1) b2 (dg n2)) (b, dg n) ∧ sg b n = sg b1 n1 - sg b2 n2 := by
  obtain ⟨b, n, h, e⟩ := nplus_ev (b1 := b1) (b2 := !b2) h1 h2
  refine ⟨b, n, ?_, ?_⟩
  · simp only [mw_minus.f]
    refine Ev.bind h ?_
    exact Ev.some _
  · rw [e, sg_not]; omega
theorem ntimes_ev {b1 b2 : Bool} {n1 n2 : Nat} (h1 : (dg n1).length < 134217728) (h2 : (dg n2).length < 134217728) :
    ∃ b n, Ev (fun k => mw_times.f k b1 (dg n1) b2 (dg n2)) (b, dg n) ∧ sg b n = sg b1 n1 * sg b2 n2 := by
  refine ⟨b1 != b2, n1 * n2, ?_, ?_⟩
  · simp only [mw_times.f]
    refine Ev.bind (mul2_ev h1 h2) ?_
    exact Ev.some _
  · unfold sg
    cases b1 <;> cases b2 <;> simp [Int.neg_mul, Int.mul_neg]
theorem sm_abs {M : Nat} {f : Nat → Int} : ∀ n : Nat, (∀ i, i < n → (f i).natAbs ≤ M) → (sm n f).natAbs ≤ n * M := by
  intro n
  induction n with
  | zero => intro _; simp [sm]
  | succ n ih =>
    intro h
    have h1 := ih (fun i hi => h i (by omega))
    have h2 := h n (by omega)
    rw [sm, Nat.succ_mul]
    have := Int.natAbs_add_le (sm n f) (f n)
    omega
theorem kr_len {g a b k : Nat} (hg : g < 4294967296) (ha : a ≤ 64) (hb : b ≤ 64) (hk : k ≤ 64) : (dg (kr (g : Int) a b k).natAbs).length ≤ 324 := by
  rw [kr_formula]
  have hgl : (dg g).length ≤ 1 := dg_len_le (by rw [show (1 : Nat) = 0 + 1 from rfl, bp_succ, bp_zero]; omega)
  have hterm : ∀ j, j < k + 1 → ((-1 : Int) ^ j * ((g : Int) ^ (k - j) * ((bin b j : Int) * (bin a (k - j) : Int)))).natAbs ≤ bp 323 := by
    intro j hj
    have h1 : (dg (g ^ (k - j))).length ≤ 65 := by have := pow_len g (k - j) 1 hgl; omega
    have h2 := bin_len (n := b) (by omega) j
    have h3 := bin_len (n := a) (by omega) (k - j)
    have e : ((-1 : Int) ^ j * ((g : Int) ^ (k - j) * ((bin b j : Int) * (bin a (k - j) : Int)))).natAbs = g ^ (k - j) * (bin b j * bin a (k - j)) := by
      rw [Int.natAbs_mul, Int.natAbs_pow, Int.natAbs_mul, Int.natAbs_pow, Int.natAbs_mul]
      simp
    rw [e]
    have h4 := mul_len (bin b j) (bin a (k - j))
    have h5 := mul_len (g ^ (k - j)) (bin b j * bin a (k - j))
    exact Nat.le_of_lt (Nat.lt_of_lt_of_le (dg_lt_len _) (bp_mono (by omega)))
  have h := sm_abs (k + 1) hterm
  unfold krF
  refine dg_len_le ?_
  refine Nat.lt_of_le_of_lt h ?_
  rw [show 324 = 323 + 1 from rfl, bp_succ 323]
  have hp := bp_pos 323
  have : (k + 1) * bp 323 ≤ 65 * bp 323 := Nat.mul_le_mul_right _ (by omega)
  generalize bp 323 = p at *
  omega
def Num (e : S113) (z : Int) : Prop := ∃ b n, e = ⟨b, dg n⟩ ∧ sg b n = z
structure PRow (g n x m : Nat) (row : List S113) : Prop where
  len : row.length = m
  at' : ∀ k, k < m → Num (rd_T113 row (k : Int)) (kr (g : Int) (n - x) x k)
theorem rdT_app_lt {l m : List S113} {k : Nat} (h : k < l.length) : rd_T113 (l ++ m) (k : Int) = rd_T113 l (k : Int) := by
  unfold rd_T113
  simp [List.getD_eq_getElem?_getD, List.getElem?_append_left h]
theorem rdT_app_eq {l : List S113} {e : S113} {k : Nat} (h : k = l.length) : rd_T113 (l ++ [e]) (k : Int) = e := by
  subst h
  unfold rd_T113
  simp [List.getD_eq_getElem?_getD]
theorem rdL_app_lt {l m : List (List S113)} {k : Nat} (h : k < l.length) : rd_L6 (l ++ m) (k : Int) = rd_L6 l (k : Int) := by
  unfold rd_L6
  simp [List.getD_eq_getElem?_getD, List.getElem?_append_left h]
theorem rdL_app_eq {l : List (List S113)} {e : List S113} {k : Nat} (h : k = l.length) : rd_L6 (l ++ [e]) (k : Int) = e := by
  subst h
  unfold rd_L6
  simp [List.getD_eq_getElem?_getD]
theorem rdT_set_eq {l : List S113} {e : S113} {i : Nat} (h : i < l.length) : rd_T113 (l.set i e) (i : Int) = e := by
  unfold rd_T113
  simp [List.getD_eq_getElem?_getD, h]
theorem rdT_set_ne {l : List S113} {e : S113} {i j : Nat} (h : i ≠ j) : rd_T113 (l.set i e) (j : Int) = rd_T113 l (j : Int) := by
  unfold rd_T113
  simp [List.getD_eq_getElem?_getD, h]
theorem row_loop {g n x : Nat} (hg : g < 256) (hn : n ≤ 64) (hx : x < n) {rows : List (List S113)} {old : List S113} {T : List (List S113) → Prop} (hrl : rows.length ≤ 65) (hold : PRow g n x (n + 1) old)
    (next : ∀ row, PRow g n (x + 1) (n + 1) row → ∃ t, Ev (fun k => mw_table.l1 k (n : Int) (rows ++ [row]) (n : Int) ((x + 1 : Nat) : Int) false (dg g)) t ∧ T t) :
    ∀ (d k : Nat) (row : List S113), k + 1 + d = n + 1 → PRow g n (x + 1) (k + 1) row →
      ∃ t, Ev (fun kk => mw_table.l2 kk (n : Int) rows old row ((k + 1 : Nat) : Int) (n : Int) (x : Int) false (dg g)) t ∧ T t := by
  intro d
  induction d with
  | zero =>
    intro k row hk hrow
    have hk : k = n := by omega
    subst hk
    obtain ⟨t, ht, hT⟩ := next row hrow
    refine ⟨t, Ev.succ ?_, hT⟩
    simp only [mw_table.l2, if_neg (show ¬ ((k + 1 : Nat) : Int) ≤ (k : Int) by omega), if_pos (show rows.length < 5864062014805 by omega), wn (show (x : Int) + 1 = ((x + 1 : Nat) : Int) by omega) (by omega)]
    exact ht
  | succ d ih =>
    intro k row hk hrow
    have hol := hold.len
    have hrl2 := hrow.len
    obtain ⟨b1, n1, e1, s1⟩ := hold.at' (k + 1) (by omega)
    obtain ⟨b2, n2, e2, s2⟩ := hold.at' k (by omega)
    obtain ⟨b3, n3, e3, s3⟩ := hrow.at' k (by omega)
    have l1 : (dg n1).length ≤ 324 := by rw [sg_len s1]; exact kr_len (by omega) (by omega) (by omega) (by omega)
    have l2 : (dg n2).length ≤ 324 := by rw [sg_len s2]; exact kr_len (by omega) (by omega) (by omega) (by omega)
    have l3 : (dg n3).length ≤ 324 := by rw [sg_len s3]; exact kr_len (by omega) (by omega) (by omega) (by omega)
    have lg : (dg g).length ≤ 1 := dg_len_le (by rw [show (1 : Nat) = 0 + 1 from rfl, bp_succ, bp_zero]; omega)
    obtain ⟨b4, n4, v4, s4⟩ := nminus_ev (b1 := b1) (b2 := b2) (n1 := n1) (n2 := n2) (by omega) (by omega)
    have l4 : (dg n4).length ≤ 326 := by
      refine dg_len_le ?_
      rw [sg_len s4]
      have t := Int.natAbs_sub_le (sg b1 n1) (sg b2 n2)
      rw [sg_abs, sg_abs] at t
      have q1 := Nat.lt_of_lt_of_le (dg_lt_len n1) (bp_mono l1)
      have q2 := Nat.lt_of_lt_of_le (dg_lt_len n2) (bp_mono l2)
      rw [show 326 = 324 + 1 + 1 from rfl, bp_succ, bp_succ]
      generalize bp 324 = p at *
      omega
    obtain ⟨b5, n5, v5, s5⟩ := ntimes_ev (b1 := false) (b2 := b3) (n1 := g) (n2 := n3) (by omega) (by omega)
    have l5 : (dg n5).length ≤ 326 := by
      have t : n5 = g * n3 := by rw [sg_len s5, Int.natAbs_mul, sg_abs, sg_abs]
      have := mul_len g n3
      rw [t]
      omega
    obtain ⟨b6, n6, v6, s6⟩ := nminus_ev (b1 := b4) (b2 := b5) (n1 := n4) (n2 := n5) (by omega) (by omega)
    have hval : sg b6 n6 = kr (g : Int) (n - (x + 1)) (x + 1) (k + 1) := by
      rw [s6, s4, s5, s1, s2, s3]
      have hr := kr_row (g : Int) (n - (x + 1)) x k
      rw [show n - (x + 1) + 1 = n - x by omega] at hr
      rw [hr]
      rfl
    have hnew : PRow g n (x + 1) (k + 1 + 1) (row ++ [⟨b6, dg n6⟩]) := by
      refine ⟨by rw [List.length_append, hrl2]; rfl, fun j hj => ?_⟩
      by_cases hjk : j < k + 1
      · rw [rdT_app_lt (by omega)]; exact hrow.at' j hjk
      · have hj2 : j = k + 1 := by omega
        subst hj2
        rw [rdT_app_eq hrl2.symm]
        exact ⟨b6, n6, rfl, hval⟩
    obtain ⟨t, ht, hT⟩ := ih (k + 1) _ (by omega) hnew
    refine ⟨t, Ev.succ ?_, hT⟩
    simp only [mw_table.l2, wn (show ((k + 1 : Nat) : Int) - 1 = (k : Int) by omega) (by omega), wn (show ((k + 1 : Nat) : Int) + 1 = ((k + 1 + 1 : Nat) : Int) by omega) (by omega), if_pos (show ((k + 1 : Nat) : Int) ≤ (n : Int) by omega), if_pos (show (0 : Int) ≤ ((k + 1 : Nat) : Int) by omega), if_pos (show ((k + 1 : Nat) : Int) < (old.length : Int) by omega), if_pos (show (0 : Int) ≤ (k : Int) by omega), if_pos (show (k : Int) < (old.length : Int) by omega), if_pos (show (k : Int) < (row.length : Int) by omega), if_pos (show row.length < 4398046511104 by omega), e1, e2, e3]
    refine Ev.bind v4 ?_
    refine Ev.bind v5 ?_
    refine Ev.bind v6 ?_
    exact ht
structure Tab (g n m : Nat) (t : List (List S113)) : Prop where
  len : t.length = m
  at' : ∀ x, x < m → PRow g n x (n + 1) (rd_L6 t (x : Int))
theorem rows_loop {g n : Nat} (hg : g < 256) (hn : n ≤ 64) : ∀ (d x : Nat) (rows : List (List S113)), x + d = n → Tab g n (x + 1) rows →
    ∃ t, Ev (fun k => mw_table.l1 k (n : Int) rows (n : Int) (x : Int) false (dg g)) t ∧ Tab g n (n + 1) t := by
  intro d
  induction d with
  | zero =>
    intro x rows hx ht
    have hx : x = n := by omega
    subst hx
    refine ⟨rows, Ev.succ ?_, ht⟩
    simp only [mw_table.l1, if_neg (show ¬ (x : Int) < (x : Int) by omega)]
    exact Ev.some _
  | succ d ih =>
    intro x rows hx ht
    have hl := ht.len
    have hold := ht.at' x (by omega)
    obtain ⟨b0, n0, e0, s0⟩ := hold.at' 0 (by omega)
    have hol := hold.len
    have hfirst : PRow g n (x + 1) (0 + 1) [⟨b0, dg n0⟩] := by
      refine ⟨rfl, fun k hk => ?_⟩
      have hk : k = 0 := by omega
      subst hk
      refine ⟨b0, n0, rfl, ?_⟩
      rw [s0, kr_zero, kr_zero]
    obtain ⟨t, hev, hT⟩ := row_loop hg hn (show x < n by omega) (rows := rows) (T := Tab g n (n + 1)) (by omega) hold (fun row hrow => ih (x + 1) (rows ++ [row]) (by omega) ⟨by rw [List.length_append, hl]; rfl, fun y hy => by
      by_cases hyx : y < x + 1
      · rw [rdL_app_lt (by omega)]; exact ht.at' y hyx
      · have : y = x + 1 := by omega
        subst this
        rw [rdL_app_eq hl.symm]; exact hrow⟩) n 0 _ (by omega) hfirst
    refine ⟨t, Ev.succ ?_, hT⟩
    have e0' : rd_T113 (rd_L6 rows (x : Int)) 0 = ⟨b0, dg n0⟩ := e0
    simp only [mw_table.l1, if_pos (show (x : Int) < (n : Int) by omega), wn (show (rows.length : Int) - 1 = (x : Int) by omega) (by omega), if_pos (show (0 : Int) ≤ (x : Int) by omega), if_pos (show (x : Int) < (rows.length : Int) by omega), if_pos (show (0 : Int) < ((rd_L6 rows (x : Int)).length : Int) by omega), e0']
    exact hev
theorem first_loop {q n : Nat} (hq : 2 ≤ q) (hq2 : q ≤ 256) (hn : n ≤ 64) : ∀ (d i : Nat) (row : List S113), i + d = n + 1 → row.length = n + 1 → (∀ k, k < i → Num (rd_T113 row (k : Int)) (kr ((q - 1 : Nat) : Int) n 0 k)) →
    ∃ t, Ev (fun k => mw_table.l0 k (q : Int) (n : Int) row ((n + 1 : Nat) : Int) (i : Int)) t ∧ Tab (q - 1) n (n + 1) t := by
  intro d
  have hw : wrap64 ((q : Int) - 1) = ((q - 1 : Nat) : Int) := wn (by omega) (by omega)
  have hu : IntKind.u64.wrap ((q - 1 : Nat) : Int) = ((q - 1 : Nat) : Int) := u64w (by clear hw; omega) (by clear hw; omega)
  have hw := Aside0.mk hw
  have hu := Aside0.mk hu
  induction d with
  | zero =>
    intro i row hi hrl hrow
    have hi : i = n + 1 := by omega
    subst hi
    obtain ⟨t, ht, hT⟩ := rows_loop (g := q - 1) (n := n) (by omega) hn n 0 [row] (by omega) ⟨rfl, fun x hx => by
      have : x = 0 := by omega
      subst this
      exact ⟨hrl, fun k hk => hrow k hk⟩⟩
    refine ⟨t, Ev.succ ?_, hT⟩
    simp only [mw_table.l0, if_neg (show ¬ ((n + 1 : Nat) : Int) < ((n + 1 : Nat) : Int) by omega), mw_small.f, hw.out, hu.out]
    refine Ev.bind (Ev.bind (of_ev (by omega)) (Ev.some _)) ?_
    exact ht
  | succ d ih =>
    intro i row hi hrl hrow
    have hlb := bin_len (n := n) (by omega) i
    have hgl : (dg (q - 1)).length ≤ 1 := dg_len_le (by rw [show (1 : Nat) = 0 + 1 from rfl, bp_succ, bp_zero]; omega)
    have hlp := pow_len (q - 1) i 1 hgl
    obtain ⟨t, ht, hT⟩ := ih (i + 1) (row.set i ⟨false, dg (bin n i * (q - 1) ^ i)⟩) (by omega) (by rw [List.length_set]; exact hrl) (fun k hk => by
      by_cases e : k = i
      · subst e
        rw [rdT_set_eq (by omega)]
        refine ⟨false, _, rfl, ?_⟩
        rw [kr_first]
        unfold sg
        simp [Int.natCast_mul, Int.natCast_pow]
      · rw [rdT_set_ne (by omega)]; exact hrow k (by omega))
    refine ⟨t, Ev.succ ?_, hT⟩
    simp only [mw_table.l0, if_pos (show (i : Int) < ((n + 1 : Nat) : Int) by omega), hw.out, hu.out, if_pos (show (0 : Int) ≤ (i : Int) by omega), if_pos (show (i : Int) < (row.length : Int) by omega), wn (show (i : Int) + 1 = ((i + 1 : Nat) : Int) by omega) (by omega), Int.toNat_natCast]
    refine Ev.bind (binomial_ev (by omega) (by omega)) ?_
    refine Ev.bind (of_ev (by omega)) ?_
    refine Ev.bind (pow_ev (by omega) (by omega)) ?_
    refine Ev.bind (mul2_ev (by omega) (by omega)) ?_
    exact ht
theorem table_ev {q n : Nat} (hq : 2 ≤ q) (hq2 : q ≤ 256) (hn : n ≤ 64) : ∃ t, Ev (fun k => mw_table.f k (q : Int) (n : Int)) t ∧ Tab (q - 1) n (n + 1) t := by
  obtain ⟨t, ht, hT⟩ := first_loop hq hq2 hn (n + 1) 0 (List.replicate (n + 1) z113) (by omega) (by simp) (fun k hk => by omega)
  refine ⟨t, ?_, hT⟩
  simp only [mw_table.f, wn (show (n : Int) + 1 = ((n + 1 : Nat) : Int) by omega) (by omega), Int.toNat_natCast, if_pos (show (0 : Int) ≤ ((n + 1 : Nat) : Int) by omega), if_pos (show n + 1 ≤ 8796093022208 by omega), Option.bind_some, List.length_replicate]
  exact ht
def kterm (g : Nat) (a b k : Nat) (j : Nat) : Int := (-1) ^ j * ((g : Int) ^ (k - j) * ((bin b j : Int) * (bin a (k - j) : Int)))
theorem kterm_nat (g a b k j : Nat) : kterm g a b k j = if j % 2 = 1 then -((g ^ (k - j) * (bin b j * bin a (k - j)) : Nat) : Int) else ((g ^ (k - j) * (bin b j * bin a (k - j)) : Nat) : Int) := by
  have hs : ∀ j : Nat, ((-1 : Int)) ^ j = if j % 2 = 1 then -1 else 1 := by
    intro j
    induction j with
    | zero => rfl
    | succ j ih =>
      rw [Int.pow_succ, ih]
      by_cases h : j % 2 = 1
      · rw [if_pos h, if_neg (by omega)]; rfl
      · rw [if_neg h, if_pos (by omega)]; rfl
  unfold kterm
  rw [hs, Int.natCast_mul, Int.natCast_mul, Int.natCast_pow]
  by_cases h : j % 2 = 1
  · rw [if_pos h, if_pos h, Int.neg_mul, Int.one_mul]
  · rw [if_neg h, if_neg h, Int.one_mul]
theorem kmag_len {g a b k j : Nat} (hg : g < 4294967296) (ha : a ≤ 64) (hb : b ≤ 64) (hk : k ≤ 64) : (dg (g ^ (k - j) * (bin b j * bin a (k - j)))).length ≤ 323 := by
  have hgl : (dg g).length ≤ 1 := dg_len_le (by rw [show (1 : Nat) = 0 + 1 from rfl, bp_succ, bp_zero]; omega)
  have h1 : (dg (g ^ (k - j))).length ≤ 65 := by have := pow_len g (k - j) 1 hgl; omega
  have h2 := bin_len (n := b) (by omega) j
  have h3 := bin_len (n := a) (by omega) (k - j)
  have h4 := mul_len (bin b j) (bin a (k - j))
  have h5 := mul_len (g ^ (k - j)) (bin b j * bin a (k - j))
  omega
theorem ksum_few {g a b k m : Nat} (hg : g < 4294967296) (ha : a ≤ 64) (hb : b ≤ 64) (hk : k ≤ 64) (hm : m ≤ 65) : Few (sm m (kterm g a b k)) := by
  have h : (sm m (kterm g a b k)).natAbs ≤ m * bp 323 := by
    refine sm_abs m (fun j _ => ?_)
    have hl := kmag_len (j := j) hg ha hb hk
    have hlt := Nat.lt_of_lt_of_le (dg_lt_len _) (bp_mono hl)
    rw [kterm_nat]
    generalize g ^ (k - j) * (bin b j * bin a (k - j)) = u at *
    split
    · rw [Int.natAbs_neg]; simp; omega
    · simp; omega
  have : (dg (sm m (kterm g a b k)).natAbs).length ≤ 324 := by
    refine dg_len_le ?_
    rw [show 324 = 323 + 1 from rfl, bp_succ 323]
    have hp := bp_pos 323
    have : m * bp 323 ≤ 65 * bp 323 := Nat.mul_le_mul_right _ hm
    generalize bp 323 = p at *
    omega
  unfold Few
  omega
theorem rkraw_loop {q n kk x : Nat} (hq : 2 ≤ q) (hq2 : q ≤ 256) (hn : n ≤ 64) (hk : kk ≤ n) (hx : x ≤ n) : ∀ (d j : Nat), j + d = kk + 1 →
    Ev (fun k => r24_Krawtchouk.l0 k (q : Int) (n : Int) (kk : Int) (x : Int) (j : Int) (rz (sm j (kterm (q - 1) (n - x) x kk))).1 (rz (sm j (kterm (q - 1) (n - x) x kk))).2.1 (rz (sm j (kterm (q - 1) (n - x) x kk))).2.2) (rz (sm (kk + 1) (kterm (q - 1) (n - x) x kk))) := by
  intro d
  have hw : wrap64 ((q : Int) - 1) = ((q - 1 : Nat) : Int) := wn (by omega) (by omega)
  have hu : IntKind.u64.wrap ((q - 1 : Nat) : Int) = ((q - 1 : Nat) : Int) := u64w (by clear hw; omega) (by clear hw; omega)
  have hw := Aside0.mk hw
  have hu := Aside0.mk hu
  induction d with
  | zero =>
    intro j hj
    have hj : j = kk + 1 := by omega
    subst hj
    refine Ev.succ ?_
    simp only [r24_Krawtchouk.l0, if_neg (show ¬ ((kk + 1 : Nat) : Int) ≤ (kk : Int) by omega)]
    exact Ev.some _
  | succ d ih =>
    intro j hj
    have hjk : j ≤ kk := by omega
    have hgl : (dg (q - 1)).length ≤ 1 := dg_len_le (by rw [show (1 : Nat) = 0 + 1 from rfl, bp_succ, bp_zero]; omega)
    have hlp := pow_len (q - 1) (kk - j) 1 hgl
    have hb1 := bin_len (n := x) (by omega) j
    have hb2 := bin_len (n := n - x) (by omega) (kk - j)
    have hmb := mul_len (bin x j) (bin (n - x) (kk - j))
    have hmag := kmag_len (g := q - 1) (a := n - x) (b := x) (k := kk) (j := j) (by omega) (by omega) (by omega) (by omega)
    have hfew := ksum_few (g := q - 1) (a := n - x) (b := x) (k := kk) (m := j) (by omega) (by omega) (by omega) (by omega) (by omega)
    have hkt := kterm_nat (q - 1) (n - x) x kk j
    have hnx := ih (j + 1) (by omega)
    refine Ev.succ ?_
    simp only [r24_Krawtchouk.l0, if_pos (show (j : Int) ≤ (kk : Int) by omega), hw.out, hu.out, wn (show (kk : Int) - (j : Int) = ((kk - j : Nat) : Int) by omega) (by omega), wn (show (n : Int) - (x : Int) = ((n - x : Nat) : Int) by omega) (by omega), wn (show (j : Int) + 1 = ((j + 1 : Nat) : Int) by omega) (by omega), tmod_nn 2 (show (0 : Int) ≤ (j : Int) by omega)]
    refine Ev.bind (rof_ev (by omega)) ?_
    refine Ev.bind (rpow_ev (by omega) (by omega)) ?_
    refine Ev.bind (choose_ev (by omega) (by omega)) ?_
    refine Ev.bind (choose_ev (by omega) (by omega)) ?_
    refine Ev.bind (rmul2_ev (by omega) (by omega)) ?_
    refine Ev.bind (rmul2_ev (by omega) (by omega)) ?_
    refine Ev.bind (rnatq_ev (by omega)) ?_
    generalize (q - 1) ^ (kk - j) * (bin x j * bin (n - x) (kk - j)) = u at *
    have hfu : Few ((u : Nat) : Int) := by unfold Few; rw [Int.natAbs_natCast]; omega
    by_cases h : j % 2 = 1
    · simp only [if_pos (show (j : Int) % 2 = 1 by omega)]
      rw [if_pos h] at hkt
      refine Ev.bind (rnegq_ev hfu) ?_
      have hfn : Few (-((u : Nat) : Int)) := by unfold Few; rw [Int.natAbs_neg, Int.natAbs_natCast]; omega
      refine Ev.bind (raddq_ev hfew hfn) ?_
      rw [show sm j (kterm (q - 1) (n - x) x kk) + -((u : Nat) : Int) = sm (j + 1) (kterm (q - 1) (n - x) x kk) by rw [sm, hkt]]
      exact hnx
    · simp only [if_neg (show ¬ (j : Int) % 2 = 1 by omega)]
      rw [if_neg h] at hkt
      refine Ev.bind (raddq_ev hfew hfu) ?_
      rw [show sm j (kterm (q - 1) (n - x) x kk) + ((u : Nat) : Int) = sm (j + 1) (kterm (q - 1) (n - x) x kk) by rw [sm, hkt]]
      exact hnx
theorem rkraw_ok {q n j x : Nat} (hq : 2 ≤ q) (hq2 : q ≤ 256) (hn : n ≤ 64) (hj : j ≤ n) (hx : x ≤ n) :
    Ev (fun k => r24_Krawtchouk.f k (q : Int) (n : Int) (j : Int) (x : Int)) (rz (kr ((q - 1 : Nat) : Int) (n - x) x j)) := by
  simp only [r24_Krawtchouk.f]
  refine Ev.bind (rintq_ev (z := 0) (by omega) (by omega)) ?_
  have h := rkraw_loop hq hq2 hn hj hx (j + 1) 0 (by omega)
  rw [show sm (j + 1) (kterm (q - 1) (n - x) x j) = kr ((q - 1 : Nat) : Int) (n - x) x j by rw [kr_formula]; rfl] at h
  exact h
theorem mulq_len {x y : Int} {m n : Nat} (hx : (dg x.natAbs).length ≤ m) (hy : (dg y.natAbs).length ≤ n) : (dg (x * y).natAbs).length ≤ m + n := by
  rw [Int.natAbs_mul]
  have := mul_len x.natAbs y.natAbs
  omega
theorem sm_len {M m : Nat} {f : Nat → Int} (hm : m ≤ 4096) (h : ∀ i, i < m → (dg (f i).natAbs).length ≤ M) : (dg (sm m f).natAbs).length ≤ M + 1 := by
  have h1 : (sm m f).natAbs ≤ m * bp M := sm_abs m (fun i hi => Nat.le_of_lt (Nat.lt_of_lt_of_le (dg_lt_len _) (bp_mono (h i hi))))
  refine dg_len_le ?_
  rw [bp_succ M]
  have hp := bp_pos M
  have : m * bp M ≤ 4096 * bp M := Nat.mul_le_mul_right _ hm
  generalize bp M = p at *
  omega
theorem Ev.unbind {α β : Type} {g : Nat → Option α} {f : Nat → α → Option β} {a : α} {r : β} (hg : Ev g a) (h : Ev (fun k => (g k).bind (f k)) r) : Ev (fun k => f k a) r := by
  obtain ⟨K1, h1⟩ := hg
  obtain ⟨K2, h2⟩ := h
  refine ⟨max K1 K2, fun k hk => ?_⟩
  have a1 := h1 k (by omega)
  have a2 := h2 k (by omega)
  simp only [a1, Option.bind_some] at a2
  exact a2
theorem rzeroR_ev {l : List Int} (hl : Lm l) (hlen : l.length < 268435456) : Ev (fun k => r1_Zero.f k l) (decide ((lv l).toNat = 0)) := by
  have hd : (dg (lv l).toNat).length ≤ l.length := dg_len_le (lv_le_of_len hl (Nat.le_refl _))
  have h := rzero_ev (a := (lv l).toNat) (by omega)
  simp only [r1_Zero.f] at h ⊢
  have h := Ev.unbind (rtrim2_ev (a := (lv l).toNat) (by omega)) h
  exact Ev.bind (rtrim_ev hl (by omega)) h
theorem rbitsR_ev {l : List Int} (hl : Lm l) (hlen : l.length < 33554432) : Ev (fun k => r1_Bits.f k l) ((bl (lv l).toNat : Nat) : Int) := by
  have hd : (dg (lv l).toNat).length ≤ l.length := dg_len_le (lv_le_of_len hl (Nat.le_refl _))
  have h := rbits_ev (n := (lv l).toNat) (by omega)
  simp only [r1_Bits.f] at h ⊢
  have h := Ev.unbind (rtrim2_ev (a := (lv l).toNat) (by omega)) h
  exact Ev.bind (rtrim_ev hl (by omega)) h
theorem rdivmodR_ev {l : List Int} {b : Nat} (hl : Lm l) (hlen : l.length < 1048576) (hb : b ≠ 0) (hlb : (dg b).length < 1048576) : Ev (fun k => r1_DivMod.f k l (dg b)) (dg ((lv l).toNat / b), dg ((lv l).toNat % b)) := by
  have hd : (dg (lv l).toNat).length ≤ l.length := dg_len_le (lv_le_of_len hl (Nat.le_refl _))
  have h := rdivmod_ev (a := (lv l).toNat) hb (by omega) hlb
  simp only [r1_DivMod.f] at h ⊢
  refine Ev.bind (rtrim_ev hl (by omega)) ?_
  have h := Ev.unbind (rtrim2_ev (a := (lv l).toNat) (by omega)) h
  have h := Ev.unbind (rbits_ev (n := (lv l).toNat) (by omega)) h
  refine Ev.bind (rbitsR_ev hl (by omega)) ?_
  exact h
theorem rgcdR_ev {l : List Int} {b : Nat} (hl : Lm l) (hlen : l.length < 1048576) (hb : b ≠ 0) (hlb : (dg b).length < 1048576) : Ev (fun k => r1_Gcd.f k l (dg b)) (dg (Nat.gcd (lv l).toNat b)) := by
  have hlt := Nat.mod_lt (lv l).toNat (show b > 0 by omega)
  have hml := dg_len_mono (Nat.le_of_lt hlt)
  simp only [r1_Gcd.f]
  refine Ev.succ ?_
  simp only [r1_Gcd.l0]
  refine Ev.bind (rzero_ev (by omega)) ?_
  simp only [decide_eq_false hb, Bool.false_eq_true, if_false]
  refine Ev.bind (rdivmodR_ev hl hlen hb hlb) ?_
  rw [Nat.gcd_comm, Nat.gcd_rec, Nat.gcd_comm]
  exact rgcd_loop _ _ hlb (by omega)
def rq (n : Int) (d : Nat) : Bool × List Int × List Int := (decide (n < 0), dg (n.natAbs / Nat.gcd n.natAbs d), dg (d / Nat.gcd n.natAbs d))
theorem rq_scale {n : Int} {d c : Nat} (hc : c ≠ 0) : rq (n * (c : Int)) (d * c) = rq n d := by
  have h1 : (n * (c : Int)).natAbs = n.natAbs * c := by rw [Int.natAbs_mul, Int.natAbs_natCast]
  have h2 : decide (n * (c : Int) < 0) = decide (n < 0) := by
    have hc' : (0 : Int) < (c : Int) := by omega
    by_cases g : n < 0
    · rw [decide_eq_true g, decide_eq_true (Int.mul_neg_of_neg_of_pos g hc')]
    · rw [decide_eq_false g, decide_eq_false]
      have := Int.mul_nonneg (show 0 ≤ n by omega) (show (0 : Int) ≤ (c : Int) by omega)
      omega
  unfold rq
  rw [h1, h2, Nat.gcd_mul_right, Nat.mul_div_mul_right _ _ (by omega), Nat.mul_div_mul_right _ _ (by omega)]
theorem rq_one (z : Int) : rq z 1 = rz z := by
  unfold rq rz
  rw [Nat.gcd_one_right, Nat.div_one, Nat.div_one]
theorem rq_zero {d : Nat} (hd : d ≠ 0) : rq 0 d = (false, [], [1]) := by
  unfold rq
  simp only [Int.natAbs_zero, Nat.gcd_zero_left, Nat.zero_div, Nat.div_self (show 0 < d by omega), dg_zero, dg_one]
  rfl
theorem rq_sg {neg : Bool} {n d : Nat} (h : n ≠ 0) : rq (sg neg n) d = (neg, dg (n / Nat.gcd n d), dg (d / Nat.gcd n d)) := by
  unfold rq
  rw [sg_abs, sg_neg h]
theorem rmakeR_ev {neg : Bool} {l : List Int} {d : Nat} (hl : Lm l) (hlen : l.length < 1048576) (hd : d ≠ 0) (hld : (dg d).length < 1048576) : Ev (fun k => r2_Make.f k neg l (dg d)) (rq (sg neg (lv l).toNat) d) := by
  simp only [r2_Make.f]
  refine Ev.bind (rzeroR_ev hl (by omega)) ?_
  by_cases h0 : (lv l).toNat = 0
  · simp only [decide_eq_true h0, if_true]
    refine Ev.succ ?_
    simp only [r2_Make.j0, if_true]
    rw [h0, sg_zero, rq_zero hd]
    exact Ev.some _
  · simp only [decide_eq_false h0, Bool.false_eq_true, if_false]
    refine Ev.bind (rzero_ev (by omega)) ?_
    refine Ev.succ ?_
    simp only [decide_eq_false hd, r2_Make.j0, Bool.false_eq_true, if_false]
    have hg : Nat.gcd (lv l).toNat d ≠ 0 := fun e => hd (Nat.gcd_eq_zero_iff.mp e).2
    have hgl := dg_len_mono (Nat.gcd_le_right (lv l).toNat (show 0 < d by omega))
    refine Ev.bind (rgcdR_ev hl hlen hd hld) ?_
    refine Ev.bind (rdivmodR_ev hl hlen hg (by omega)) ?_
    refine Ev.bind (rdivmod_ev hg (by omega) (by omega)) ?_
    rw [rq_sg h0]
    exact Ev.some _
theorem rmakeG_ev {neg : Bool} {n d : Nat} (hn : (dg n).length < 1048576) (hd : d ≠ 0) (hld : (dg d).length < 1048576) : Ev (fun k => r2_Make.f k neg (dg n) (dg d)) (rq (sg neg n) d) := by
  have := rmakeR_ev (neg := neg) (lm_dg n) hn hd hld
  rw [lv_dg, Int.toNat_natCast] at this
  exact this
def FewQ (n : Int) (d : Nat) : Prop := d ≠ 0 ∧ (dg n.natAbs).length < 131072 ∧ (dg d).length < 131072
theorem rq_parts {n : Int} {d : Nat} (hd : d ≠ 0) : ∃ (m e g : Nat), g ≠ 0 ∧ e ≠ 0 ∧ rq n d = (decide (n < 0), dg m, dg e) ∧ n = sg (decide (n < 0)) m * (g : Int) ∧ d = e * g ∧ m ≤ n.natAbs ∧ e ≤ d := by
  have hg : Nat.gcd n.natAbs d ≠ 0 := fun e => hd (Nat.gcd_eq_zero_iff.mp e).2
  have h1 := Nat.div_mul_cancel (Nat.gcd_dvd_left n.natAbs d)
  have h2 := Nat.div_mul_cancel (Nat.gcd_dvd_right n.natAbs d)
  refine ⟨_, _, _, hg, ?_, rfl, ?_, h2.symm, Nat.div_le_self _ _, Nat.div_le_self _ _⟩
  · intro e; rw [e, Nat.zero_mul] at h2; exact hd h2.symm
  · generalize Nat.gcd n.natAbs d = g at *
    generalize n.natAbs / g = m at *
    unfold sg
    have h3 : ((m * g : Nat) : Int) = ((n.natAbs : Nat) : Int) := by rw [h1]
    rw [Int.natCast_mul] at h3
    by_cases g1 : n < 0
    · simp only [decide_eq_true g1, if_true, Int.neg_mul]
      omega
    · simp only [decide_eq_false g1, Bool.false_eq_true, if_false]
      omega
theorem rtrimG_ev {n : Int} {d : Nat} (h : FewQ n d) : Ev (fun k => r2_Trim.f k (rq n d).1 (rq n d).2.1 (rq n d).2.2) (rq n d) := by
  obtain ⟨h0, h1, h2⟩ := h
  obtain ⟨m, e, g, hg, he, hr, hn, hde, hm, hee⟩ := rq_parts (n := n) h0
  have l1 := dg_len_mono hm
  have l2 := dg_len_mono hee
  simp only [r2_Trim.f, hr]
  refine Ev.bind (rmakeG_ev (by omega) he (by omega)) ?_
  refine Ev.cast (Ev.some _) ?_
  have : rq (sg (decide (n < 0)) m) e = rq n d := by
    conv => rhs; rw [hn, hde]
    rw [rq_scale hg]
  rw [this, hr]
theorem rmulG_ev {a c : Int} {b d : Nat} (h1 : FewQ a b) (h2 : FewQ c d) : Ev (fun k => r2_Mul.f k (rq a b).1 (rq a b).2.1 (rq a b).2.2 (rq c d).1 (rq c d).2.1 (rq c d).2.2) (rq (a * c) (b * d)) := by
  simp only [r2_Mul.f]
  refine Ev.bind (rtrimG_ev h1) ?_
  refine Ev.bind (rtrimG_ev h2) ?_
  obtain ⟨h10, h11, h12⟩ := h1
  obtain ⟨h20, h21, h22⟩ := h2
  obtain ⟨m1, e1, g1, hg1, he1, hr1, hn1, hd1, hm1, hee1⟩ := rq_parts (n := a) h10
  obtain ⟨m2, e2, g2, hg2, he2, hr2, hn2, hd2, hm2, hee2⟩ := rq_parts (n := c) h20
  have l1 := dg_len_mono hm1
  have l2 := dg_len_mono hee1
  have l3 := dg_len_mono hm2
  have l4 := dg_len_mono hee2
  have p1 := mul_len m1 m2
  have p2 := mul_len e1 e2
  simp only [hr1, hr2]
  refine Ev.bind (rmul2_ev (by omega) (by omega)) ?_
  refine Ev.bind (rmul2_ev (by omega) (by omega)) ?_
  refine Ev.bind (rmakeG_ev (by omega) (Nat.mul_ne_zero he1 he2) (by omega)) ?_
  refine Ev.cast (Ev.some _) ?_
  show rq (sg (decide (a < 0) != decide (c < 0)) (m1 * m2)) (e1 * e2) = rq (a * c) (b * d)
  have e : sg (decide (a < 0) != decide (c < 0)) (m1 * m2) = sg (decide (a < 0)) m1 * sg (decide (c < 0)) m2 := by
    unfold sg
    cases decide (a < 0) <;> cases decide (c < 0) <;> simp [Int.neg_mul, Int.mul_neg]
  rw [e]
  have : a * c = (sg (decide (a < 0)) m1 * sg (decide (c < 0)) m2) * ((g1 * g2 : Nat) : Int) := by
    conv => lhs; rw [hn1, hn2]
    rw [Int.natCast_mul]
    grind
  rw [this, show b * d = (e1 * e2) * (g1 * g2) by rw [hd1, hd2]; grind, rq_scale (Nat.mul_ne_zero hg1 hg2)]
theorem raddG_ev {a c : Int} {b d : Nat} (h1 : FewQ a b) (h2 : FewQ c d) : Ev (fun k => r2_Add.f k (rq a b).1 (rq a b).2.1 (rq a b).2.2 (rq c d).1 (rq c d).2.1 (rq c d).2.2) (rq (a * (d : Int) + c * (b : Int)) (b * d)) := by
  simp only [r2_Add.f]
  refine Ev.bind (rtrimG_ev h1) ?_
  refine Ev.bind (rtrimG_ev h2) ?_
  obtain ⟨h10, h11, h12⟩ := h1
  obtain ⟨h20, h21, h22⟩ := h2
  obtain ⟨m1, e1, g1, hg1, he1, hr1, hn1, hd1, hm1, hee1⟩ := rq_parts (n := a) h10
  obtain ⟨m2, e2, g2, hg2, he2, hr2, hn2, hd2, hm2, hee2⟩ := rq_parts (n := c) h20
  have l1 := dg_len_mono hm1
  have l2 := dg_len_mono hee1
  have l3 := dg_len_mono hm2
  have l4 := dg_len_mono hee2
  have p1 := mul_len m1 e2
  have p2 := mul_len m2 e1
  have p3 := mul_len e1 e2
  have hval : a * (d : Int) + c * (b : Int) = (sg (decide (a < 0)) (m1 * e2) + sg (decide (c < 0)) (m2 * e1)) * ((g1 * g2 : Nat) : Int) := by
    have q1 : sg (decide (a < 0)) (m1 * e2) = sg (decide (a < 0)) m1 * (e2 : Int) := by unfold sg; cases decide (a < 0) <;> simp [Int.neg_mul]
    have q2 : sg (decide (c < 0)) (m2 * e1) = sg (decide (c < 0)) m2 * (e1 : Int) := by unfold sg; cases decide (c < 0) <;> simp [Int.neg_mul]
    rw [q1, q2]
    have r1 : (d : Int) = (e2 : Int) * (g2 : Int) := by rw [hd2, Int.natCast_mul]
    have r2 : (b : Int) = (e1 : Int) * (g1 : Int) := by rw [hd1, Int.natCast_mul]
    rw [r1, r2]
    conv => lhs; rw [hn1, hn2]
    rw [Int.natCast_mul]
    grind
  have fin : ∀ (t : Bool) (v : Nat), sg t v = sg (decide (a < 0)) (m1 * e2) + sg (decide (c < 0)) (m2 * e1) → rq (sg t v) (e1 * e2) = rq (a * (d : Int) + c * (b : Int)) (b * d) := by
    intro t v hv
    rw [hv, hval, show b * d = (e1 * e2) * (g1 * g2) by rw [hd1, hd2]; grind, rq_scale (Nat.mul_ne_zero hg1 hg2)]
  simp only [hr1, hr2]
  refine Ev.bind (rmul2_ev (by omega) (by omega)) ?_
  refine Ev.bind (rmul2_ev (by omega) (by omega)) ?_
  refine Ev.bind (rmul2_ev (by omega) (by omega)) ?_
  obtain ⟨x, hx⟩ : ∃ x, x = m1 * e2 := ⟨_, rfl⟩
  obtain ⟨y, hy⟩ : ∃ y, y = m2 * e1 := ⟨_, rfl⟩
  rw [← hx, ← hy] at fin
  rw [← hx] at p1
  rw [← hy] at p2
  rw [← hx, ← hy]
  have hee : e1 * e2 ≠ 0 := Nat.mul_ne_zero he1 he2
  by_cases hs : (decide (a < 0) == decide (c < 0)) = true
  · simp only [hs, if_true]
    refine Ev.bind (radd2_ev (by omega) (by omega)) ?_
    have hl : (dg (x + y)).length < 1048576 := by
      have hb1 := dg_lt_len x
      have hb2 := dg_lt_len y
      have hb3 := bp_mono (show (dg x).length ≤ 262144 by omega)
      have hb4 := bp_mono (show (dg y).length ≤ 262144 by omega)
      have : (dg (x + y)).length ≤ 262144 + 1 := dg_len_le (by rw [bp_succ]; generalize bp 262144 = p at *; omega)
      omega
    refine Ev.bind (rmakeG_ev hl hee (by omega)) ?_
    refine Ev.cast (Ev.some _) (fin _ _ ?_)
    have e : decide (a < 0) = decide (c < 0) := by simpa using hs
    rw [← e]
    unfold sg
    cases decide (a < 0) <;> simp <;> omega
  · have hne : decide (a < 0) ≠ decide (c < 0) := by intro e; exact hs (by simp [e])
    simp only [hs, Bool.false_eq_true, if_false]
    refine Ev.bind (rcmp_ev (by omega) (by omega)) ?_
    by_cases hle : y ≤ x
    · have hc : cmpZ ((x : Nat) : Int) ((y : Nat) : Int) ≥ 0 := by
        unfold cmpZ
        rw [if_neg (by omega)]
        split <;> omega
      simp only [if_pos hc]
      refine Ev.bind (rsub_ev (by omega) hle) ?_
      have hl := dg_len_mono (show x - y ≤ x by omega)
      refine Ev.bind (rmakeG_ev (by omega) hee (by omega)) ?_
      refine Ev.cast (Ev.some _) (fin _ _ ?_)
      unfold sg
      revert hne
      cases decide (a < 0) <;> cases decide (c < 0) <;> simp <;> omega
    · have hc : ¬ cmpZ ((x : Nat) : Int) ((y : Nat) : Int) ≥ 0 := by
        unfold cmpZ
        rw [if_pos (by omega)]
        omega
      simp only [if_neg hc]
      refine Ev.bind (rsub_ev (by omega) (by omega)) ?_
      have hl := dg_len_mono (show y - x ≤ y by omega)
      refine Ev.bind (rmakeG_ev (by omega) hee (by omega)) ?_
      refine Ev.cast (Ev.some _) (fin _ _ ?_)
      unfold sg
      revert hne
      cases decide (a < 0) <;> cases decide (c < 0) <;> simp <;> omega
theorem rq_same {s t : Int} {d : Nat} (hd : d ≠ 0) : rq (s * (d : Int) + t * (d : Int)) (d * d) = rq (s + t) d := by
  rw [← Int.add_mul, rq_scale hd]
structure Wl (l : List (List Int)) : Prop where
  lm : ∀ x ∈ l, Lm x
  short : ∀ x ∈ l, x.length ≤ 20
  few : l.length ≤ 65
theorem Wl.at {l : List (List Int)} (h : Wl l) {i : Nat} (hi : i < l.length) : Lm (rd_L3 l (i : Int)) ∧ (rd_L3 l (i : Int)).length ≤ 20 := by
  rw [rd3_lt hi]; exact ⟨h.lm _ (List.getElem_mem hi), h.short _ (List.getElem_mem hi)⟩
theorem shape_bad {n : Nat} (h : n < 1 ∨ 65 < n) : mw_shape.f (n : Int) = some 3 := by
  unfold mw_shape.f
  by_cases h1 : n < 1
  · rw [if_pos (by omega)]
  · rw [if_neg (by omega), if_pos (by omega)]
theorem rshape_bad {n : Nat} (h : n < 1 ∨ 65 < n) : r24_Shape.f (n : Int) = some 3 := by
  unfold r24_Shape.f
  by_cases h1 : n < 1
  · rw [if_pos (by omega)]
  · rw [if_neg (by omega), if_pos (by omega)]
theorem rshape_ok {n : Nat} (h : 1 ≤ n) (h2 : n ≤ 65) : r24_Shape.f (n : Int) = some 0 := by
  unfold r24_Shape.f
  rw [if_neg (by omega), if_neg (by omega)]
theorem num_zero : Num z113 0 := ⟨false, 0, by rw [dg_zero]; rfl, by simp [sg]⟩
theorem map_range_succ {α : Type} (f : Nat → α) (n : Nat) : (List.range (n + 1)).map f = (List.range n).map f ++ [f n] := by rw [List.range_succ, List.map_append]; rfl
def qS (a : Bool × List Int × List Int) : S60 := ⟨a.1, a.2.1, a.2.2⟩
theorem rshiftR_ev {l : List Int} {n : Nat} (hl : Lm l) (hlen : l.length < 134217728) (hn : n < 4294967296) : Ev (fun k => r1_shift.f k l (n : Int)) (dg ((lv l).toNat * 2 ^ n)) := by
  have h1 : Int.tdiv (n : Int) 32 = ((n / 32 : Nat) : Int) := by rw [Int.tdiv_eq_ediv_of_nonneg (by omega)]; rfl
  have h2 : Int.tmod (n : Int) 32 = ((n % 32 : Nat) : Int) := by rw [Int.tmod_eq_emod_of_nonneg (by omega)]; rfl
  have h3 : wrap64 ((n / 32 : Nat) : Int) = ((n / 32 : Nat) : Int) := wn rfl (by clear h1 h2; omega)
  have hv := lv_nonneg hl
  simp only [r1_shift.f, h1, h3, if_pos (show (0 : Int) ≤ ((n / 32 : Nat) : Int) by omega), Int.toNat_natCast, if_pos (show n / 32 ≤ 70368744177664 by clear h1 h2 h3; omega)]
  clear h1 h3
  refine Ev.cast (rshift_loop (z := n / 32) hl (by clear h2; omega) (by clear h2; omega) h2 (by clear h2; omega) l.length 0 _ 0 (by omega) (by simp) (lm_rep _) (by omega) (by omega) ⟨by rw [lv_rep]; simp [lv_nil]⟩) ?_
  clear h2
  obtain ⟨a, ha⟩ : ∃ a : Nat, lv l = (a : Int) := ⟨(lv l).toNat, by omega⟩
  rw [ha, ← Int.natCast_mul, ← Int.natCast_mul, Int.toNat_natCast, Int.toNat_natCast]
  congr 1
  rw [← pow2_bp, Nat.mul_left_comm, ← Nat.pow_add]
  congr 2
  omega
theorem rdivmodRR_loop {a b : Nat} {lb : List Int} (hlbm : Lm lb) (hlbv : (lv lb).toNat = b) (hlbl : lb.length < 1048576) (hb : b ≠ 0) (hla : (dg a).length < 1048576) : ∀ (n : Nat), n < 67108864 → ∀ (quo rem : Nat), quo * b + rem = a → rem < b * 2 ^ n →
    Ev (fun k => r1_DivMod.l0 k lb (dg quo) (dg rem) ((n : Int) - 1)) (dg (a / b), dg (a % b)) := by
  have hlb : (dg b).length < 1048576 := by
    rw [← hlbv]; exact Nat.lt_of_le_of_lt (dg_len_le (lv_le_of_len hlbm (Nat.le_refl _))) hlbl
  intro n
  induction n with
  | zero =>
    intro _ quo rem h1 h2
    rw [Nat.pow_zero, Nat.mul_one] at h2
    have hq : a / b = quo := by
      rw [← h1, Nat.mul_comm, Nat.mul_add_div (by omega), Nat.div_eq_of_lt h2, Nat.add_zero]
    have hr : a % b = rem := by
      rw [← h1, Nat.mul_comm, Nat.mul_add_mod, Nat.mod_eq_of_lt h2]
    have hql : (dg quo).length ≤ (dg a).length := dg_len_mono (by
      rw [← hq]; exact Nat.div_le_self _ _)
    refine Ev.succ ?_
    simp only [r1_DivMod.l0, if_neg (show ¬ ((0 : Nat) : Int) - 1 ≥ 0 by omega)]
    refine Ev.bind (rtrim2_ev (by omega)) ?_
    rw [hq, hr]
    exact Ev.some _
  | succ n ih =>
    intro hn quo rem h1 h2
    have hql : (dg quo).length ≤ (dg a).length := dg_len_mono (by
      have : quo * 1 ≤ quo * b := Nat.mul_le_mul_left _ (by omega)
      omega)
    have hrl : (dg rem).length ≤ (dg a).length := dg_len_mono (by omega)
    have hp := pow2_len n
    have ht := mul_len b (2 ^ n)
    have hsh := rshiftR_ev (n := n) hlbm (by omega) (by omega)
    rw [hlbv] at hsh
    refine Ev.succ ?_
    simp only [r1_DivMod.l0, show ((n + 1 : Nat) : Int) - 1 = (n : Int) from by omega, if_pos (show (n : Int) ≥ 0 by omega), w64 (x := (n : Int) - 1) (by omega) (by omega)]
    refine Ev.bind hsh ?_
    refine Ev.bind (rcmp_ev (by omega) (by omega)) ?_
    by_cases h : b * 2 ^ n ≤ rem
    · have hc : cmpZ (rem : Int) ((b * 2 ^ n : Nat) : Int) ≥ 0 := by
        unfold cmpZ
        rw [if_neg (by omega)]
        split <;> omega
      simp only [if_pos hc]
      refine Ev.bind (rsub_ev (by omega) h) ?_
      rw [show ([1] : List Int) = dg 1 from dg_one.symm]
      refine Ev.bind (rshift_ev (by rw [dg_one]; simp) (by omega)) ?_
      rw [Nat.one_mul]
      refine Ev.bind (radd2_ev (by omega) (by omega)) ?_
      refine ih (by omega) _ _ ?_ ?_
      · rw [Nat.add_mul, Nat.mul_comm (2 ^ n) b]
        generalize b * 2 ^ n = t at *
        omega
      · rw [Nat.pow_succ, ← Nat.mul_assoc] at h2
        generalize b * 2 ^ n = t at *
        omega
    · have hc : ¬ cmpZ (rem : Int) ((b * 2 ^ n : Nat) : Int) ≥ 0 := by
        unfold cmpZ
        rw [if_pos (by omega)]
        omega
      simp only [if_neg hc]
      exact ih (by omega) quo rem h1 (by omega)
theorem rdivmodRR_ev {l lb : List Int} (hl : Lm l) (hlen : l.length < 1048576) (hlbm : Lm lb) (hlbl : lb.length < 1048576) (hb : (lv lb).toNat ≠ 0) : Ev (fun k => r1_DivMod.f k l lb) (dg ((lv l).toNat / (lv lb).toNat), dg ((lv l).toNat % (lv lb).toNat)) := by
  obtain ⟨a, ha⟩ : ∃ a, a = (lv l).toNat := ⟨_, rfl⟩
  obtain ⟨b, hb'⟩ : ∃ b, b = (lv lb).toNat := ⟨_, rfl⟩
  have hla : (dg a).length < 1048576 := by rw [ha]; exact Nat.lt_of_le_of_lt (dg_len_le (lv_le_of_len hl (Nat.le_refl _))) hlen
  have hlb : (dg b).length < 1048576 := by rw [hb']; exact Nat.lt_of_le_of_lt (dg_len_le (lv_le_of_len hlbm (Nat.le_refl _))) hlbl
  have t1 := rtrim_ev hl (by omega)
  have t2 := rbitsR_ev hl (by omega)
  have t3 := rbitsR_ev hlbm (by omega)
  rw [← ha] at t1 t2
  rw [← hb'] at t3 hb
  rw [← ha, ← hb']
  simp only [r1_DivMod.f]
  refine Ev.bind t1 ?_
  refine Ev.bind t2 ?_
  refine Ev.bind t3 ?_
  have ba := bl_le a
  have bb := bl_le b
  have hbb := bl_bounds hb
  rw [show ([] : List Int) = dg 0 from dg_zero.symm]
  by_cases h : bl b ≤ bl a
  · rw [show wrap64 (((bl a : Nat) : Int) - ((bl b : Nat) : Int)) = ((bl a - bl b + 1 : Nat) : Int) - 1 from by rw [w64 (by omega) (by omega)]; omega]
    refine rdivmodRR_loop hlbm hb'.symm hlbl hb hla _ (by omega) 0 a (by omega) ?_
    by_cases ha : a = 0
    · rw [ha]; exact Nat.mul_pos (by omega) (Nat.two_pow_pos _)
    · have hba := bl_bounds ha
      refine Nat.lt_of_lt_of_le hba.2.1 ?_
      rw [show bl a = (bl b - 1) + (bl a - bl b + 1) by omega, Nat.pow_add]
      rw [show (bl b - 1) + (bl a - bl b + 1) - bl b + 1 = bl a - bl b + 1 by omega]
      exact Nat.mul_le_mul_right _ hbb.1
  · rw [show wrap64 (((bl a : Nat) : Int) - ((bl b : Nat) : Int)) = -((bl b - bl a : Nat) : Int) from by rw [w64 (by omega) (by omega)]; omega]
    have hlt : a < b := by
      by_cases ha : a = 0
      · omega
      · have hba := bl_bounds ha
        refine Nat.lt_of_lt_of_le hba.2.1 (Nat.le_trans ?_ hbb.1)
        exact Nat.pow_le_pow_right (by decide) (by omega)
    refine Ev.succ ?_
    simp only [r1_DivMod.l0, if_neg (show ¬ -((bl b - bl a : Nat) : Int) ≥ 0 by omega)]
    refine Ev.bind (rtrim2_ev (by rw [dg_zero]; simp)) ?_
    rw [Nat.div_eq_of_lt hlt, Nat.mod_eq_of_lt hlt]
    exact Ev.some _
theorem rgcdRR_ev {l lb : List Int} (hl : Lm l) (hlen : l.length < 1048576) (hlbm : Lm lb) (hlbl : lb.length < 1048576) (hb : (lv lb).toNat ≠ 0) : Ev (fun k => r1_Gcd.f k l lb) (dg (Nat.gcd (lv l).toNat (lv lb).toNat)) := by
  have hlb : (dg (lv lb).toNat).length < 1048576 := Nat.lt_of_le_of_lt (dg_len_le (lv_le_of_len hlbm (Nat.le_refl _))) hlbl
  have hlt := Nat.mod_lt (lv l).toNat (show (lv lb).toNat > 0 by omega)
  have hml := dg_len_mono (Nat.le_of_lt hlt)
  simp only [r1_Gcd.f]
  refine Ev.succ ?_
  simp only [r1_Gcd.l0]
  refine Ev.bind (rzeroR_ev hlbm (by omega)) ?_
  simp only [decide_eq_false hb, Bool.false_eq_true, if_false]
  refine Ev.bind (rdivmodRR_ev hl hlen hlbm hlbl hb) ?_
  rw [Nat.gcd_comm, Nat.gcd_rec, Nat.gcd_comm]
  obtain ⟨b, hb'⟩ : ∃ b, b = (lv lb).toNat := ⟨_, rfl⟩
  obtain ⟨r, hr⟩ : ∃ r, r = (lv l).toNat % (lv lb).toNat := ⟨_, rfl⟩
  rw [← hr] at hlt hml ⊢
  refine Ev.succ ?_
  simp only [r1_Gcd.l0]
  refine Ev.bind (rzero_ev (by omega)) ?_
  by_cases h0 : r = 0
  · subst h0
    simp only [decide_true, if_true, Nat.gcd_zero_right]
    refine Ev.bind (rtrim_ev hlbm (by omega)) ?_
    exact Ev.some _
  · simp only [decide_eq_false h0, Bool.false_eq_true, if_false]
    refine Ev.bind (rdivmodR_ev hlbm hlbl h0 (by omega)) ?_
    rw [Nat.gcd_comm, Nat.gcd_rec, Nat.gcd_comm]
    have hlt2 := Nat.mod_lt (lv lb).toNat (show r > 0 by omega)
    have := dg_len_mono (Nat.le_of_lt hlt2)
    exact rgcd_loop _ _ (by omega) (by omega)
def qn (e : S60) : Int := if (lv e.f2).toNat = 0 then 0 else sg e.f0 (lv e.f1).toNat
def qd (e : S60) : Nat := if (lv e.f2).toNat = 0 then 1 else (lv e.f2).toNat
theorem qd_ne (e : S60) : qd e ≠ 0 := by unfold qd; split <;> omega
structure Lq (M : Nat) (e : S60) : Prop where
  num : Lm e.f1
  den : Lm e.f2
  nlen : e.f1.length ≤ M
  dlen : e.f2.length ≤ M
theorem Lq.qn_len {M : Nat} {e : S60} (h : Lq M e) : (dg (qn e).natAbs).length ≤ M := by
  unfold qn
  split
  · simp [dg_zero]
  · rw [sg_abs]; exact dg_len_le (lv_le_of_len h.num h.nlen)
theorem Lq.qd_len {M : Nat} {e : S60} (h : Lq M e) (hM : 1 ≤ M) : (dg (qd e)).length ≤ M := by
  unfold qd
  split
  · rw [one_len]; exact hM
  · exact dg_len_le (lv_le_of_len h.den h.dlen)
theorem rtrimR_ev {M : Nat} {e : S60} (h : Lq M e) (hM : M < 131072) : Ev (fun k => r2_Trim.f k e.f0 e.f1 e.f2) (rq (qn e) (qd e)) := by
  have h1 := h.nlen
  have h2 := h.dlen
  have hd : (dg (lv e.f2).toNat).length ≤ M := dg_len_le (lv_le_of_len h.den h.dlen)
  simp only [r2_Trim.f, r2_Make.f]
  have zero : ∀ b : Bool, Ev (fun k => r2_Make.j0 k b e.f1 e.f2 true) (false, [], [1]) := fun b => by
    refine Ev.succ ?_
    simp only [r2_Make.j0, if_true]
    exact Ev.some _
  refine Ev.bind (a := rq (qn e) (qd e)) (Ev.bind (rzeroR_ev h.num (by omega)) ?_) (Ev.some _)
  by_cases h0 : (lv e.f1).toNat = 0
  · simp only [decide_eq_true h0, if_true]
    refine Ev.cast (zero e.f0) ?_
    have : qn e = 0 := by unfold qn; rw [h0, sg_zero]; simp
    rw [this, rq_zero (qd_ne e)]
  · simp only [decide_eq_false h0, Bool.false_eq_true, if_false]
    refine Ev.bind (rzeroR_ev h.den (by omega)) ?_
    by_cases h3 : (lv e.f2).toNat = 0
    · rw [decide_eq_true h3]
      refine Ev.cast (zero e.f0) ?_
      have : qn e = 0 := by unfold qn; rw [if_pos h3]
      rw [this, rq_zero (qd_ne e)]
    · rw [decide_eq_false h3]
      have e1 : qn e = sg e.f0 (lv e.f1).toNat := by unfold qn; rw [if_neg h3]
      have e2 : qd e = (lv e.f2).toNat := by unfold qd; rw [if_neg h3]
      have hg : Nat.gcd (lv e.f1).toNat (lv e.f2).toNat ≠ 0 := fun e => h3 (Nat.gcd_eq_zero_iff.mp e).2
      have hgl := dg_len_mono (Nat.gcd_le_right (lv e.f1).toNat (show 0 < (lv e.f2).toNat by omega))
      refine Ev.succ ?_
      simp only [r2_Make.j0, Bool.false_eq_true, if_false]
      refine Ev.bind (rgcdRR_ev h.num (by omega) h.den (by omega) h3) ?_
      refine Ev.bind (rdivmodR_ev h.num (by omega) hg (by omega)) ?_
      refine Ev.bind (rdivmodR_ev h.den (by omega) hg (by omega)) ?_
      rw [e1, e2, rq_sg h0]
      exact Ev.some _
theorem ngcdR_ev {l lb : List Int} (hl : Lm l) (hlen : l.length < 1048576) (hlbm : Lm lb) (hlbl : lb.length < 1048576) : Ev (fun k => nat_Gcd.f k l lb) (dg (Nat.gcd (lv l).toNat (lv lb).toNat)) := by
  have h1 : (dg (lv l).toNat).length ≤ l.length := dg_len_le (lv_le_of_len hl (Nat.le_refl _))
  have h2 : (dg (lv lb).toNat).length ≤ lb.length := dg_len_le (lv_le_of_len hlbm (Nat.le_refl _))
  have h := ngcdG_ev (a := (lv l).toNat) (b := (lv lb).toNat) (by omega) (by omega)
  simp only [nat_Gcd.f] at h ⊢
  have h := Ev.unbind (short2_ev (a := (lv l).toNat) (by omega)) h
  have h := Ev.unbind (short2_ev (a := (lv lb).toNat) (by omega)) h
  refine Ev.bind (short_ev hl (by omega)) ?_
  refine Ev.bind (short_ev hlbm (by omega)) ?_
  exact h
theorem ndivmodR_ev {l : List Int} {b : Nat} (hl : Lm l) (hlen : l.length < 67108864) (hb : b ≠ 0) (hlb : (dg b).length < 67108864) : Ev (fun k => nat_DivMod.f k l (dg b)) (dg ((lv l).toNat / b), dg ((lv l).toNat % b), 0) := by
  have h1 : (dg (lv l).toNat).length ≤ l.length := dg_len_le (lv_le_of_len hl (Nat.le_refl _))
  have h := ndivmod_ev (a := (lv l).toNat) hb (by omega) hlb
  simp only [nat_DivMod.f] at h ⊢
  have h := Ev.unbind (short2_ev (a := (lv l).toNat) (by omega)) h
  refine Ev.bind (short_ev hl (by omega)) ?_
  exact h
theorem nbitsQ_ev {l : List Int} (hl : Lm l) (hlen : l.length < 33554432) : Ev (fun k => nat_Bits.f k l) ((bl (lv l).toNat : Nat) : Int) := by
  have hd : (dg (lv l).toNat).length ≤ l.length := dg_len_le (lv_le_of_len hl (Nat.le_refl _))
  have h := bits_ev (n := (lv l).toNat) (by omega)
  simp only [nat_Bits.f] at h ⊢
  have h := Ev.unbind (short2_ev (a := (lv l).toNat) (by omega)) h
  exact Ev.bind (short_ev hl (by omega)) h
theorem ntrimR_ev {M : Nat} {e : S60} (h : Lq M e) (hM : M < 131072) : Ev (fun k => rational_Trim.f k e.f0 e.f1 e.f2) (rq (qn e) (qd e)) := by
  have h1 := h.nlen
  have h2 := h.dlen
  have hd : (dg (lv e.f2).toNat).length ≤ M := dg_len_le (lv_le_of_len h.den h.dlen)
  simp only [rational_Trim.f, rational_canonical.f]
  have zero : ∀ b : Bool, Ev (fun k => rational_canonical.j0 k b e.f1 e.f2 true) (false, [], [1]) := fun b => by
    refine Ev.succ ?_
    simp only [rational_canonical.j0, if_true, rational_one.f, Option.bind_some]
    exact Ev.some _
  refine Ev.bind (a := rq (qn e) (qd e)) (Ev.bind (nbitsQ_ev h.num (by omega)) ?_) (Ev.some _)
  by_cases h0 : (lv e.f1).toNat = 0
  · have hb : ((bl (lv e.f1).toNat : Nat) : Int) = 0 := by rw [bl_zero.mpr h0]; rfl
    simp only [if_pos hb]
    refine Ev.cast (zero e.f0) ?_
    have : qn e = 0 := by unfold qn; rw [h0, sg_zero]; simp
    rw [this, rq_zero (qd_ne e)]
  · have hb : ¬ ((bl (lv e.f1).toNat : Nat) : Int) = 0 := by
      have : bl (lv e.f1).toNat ≠ 0 := fun e => h0 (bl_zero.mp e)
      omega
    simp only [if_neg hb]
    refine Ev.bind (nbitsQ_ev h.den (by omega)) ?_
    by_cases h3 : (lv e.f2).toNat = 0
    · have hb2 : (((bl (lv e.f2).toNat : Nat) : Int) == 0) = true := by rw [bl_zero.mpr h3]; rfl
      rw [hb2]
      refine Ev.cast (zero e.f0) ?_
      have : qn e = 0 := by unfold qn; rw [if_pos h3]
      rw [this, rq_zero (qd_ne e)]
    · have hb2 : (((bl (lv e.f2).toNat : Nat) : Int) == 0) = false := by
        have : bl (lv e.f2).toNat ≠ 0 := fun e => h3 (bl_zero.mp e)
        simp only [beq_eq_false_iff_ne]; omega
      rw [hb2]
      have e1 : qn e = sg e.f0 (lv e.f1).toNat := by unfold qn; rw [if_neg h3]
      have e2 : qd e = (lv e.f2).toNat := by unfold qd; rw [if_neg h3]
      have hg : Nat.gcd (lv e.f1).toNat (lv e.f2).toNat ≠ 0 := fun e => h3 (Nat.gcd_eq_zero_iff.mp e).2
      have hgl := dg_len_mono (Nat.gcd_le_right (lv e.f1).toNat (show 0 < (lv e.f2).toNat by omega))
      refine Ev.succ ?_
      simp only [rational_canonical.j0, Bool.false_eq_true, if_false]
      refine Ev.bind (ngcdR_ev h.num (by omega) h.den (by omega)) ?_
      refine Ev.bind (ndivmodR_ev h.num (by omega) hg (by omega)) ?_
      refine Ev.bind (ndivmodR_ev h.den (by omega) hg (by omega)) ?_
      rw [e1, e2, rq_sg h0]
      exact Ev.some _
def gT (g c : Nat) (z : Nat → Int) (j i : Nat) : Int := z i * kr (g : Int) (c - 1 - i) i j
def gS (g c : Nat) (z : Nat → Int) (j : Nat) : Int := sm c (gT g c z j)
theorem gT_len {g c M : Nat} {z : Nat → Int} (hz : ∀ i, i < c → (dg (z i).natAbs).length ≤ M) (hc : c ≤ 65) (hg : g < 4294967296) {j i : Nat} (hi : i < c) (hj : j < c) : (dg (gT g c z j i).natAbs).length ≤ M + 324 := by
  have := mulq_len (hz i hi) (kr_len (g := g) (a := c - 1 - i) (b := i) (k := j) hg (by omega) (by omega) (by omega))
  unfold gT; omega
theorem gS_len {g c M : Nat} {z : Nat → Int} (hz : ∀ i, i < c → (dg (z i).natAbs).length ≤ M) (hc : c ≤ 65) (hg : g < 4294967296) {j m : Nat} (hm : m ≤ c) (hj : j < c) : (dg (sm m (gT g c z j)).natAbs).length ≤ M + 325 :=
  sm_len (by omega) (fun i hi => gT_len hz hc hg (by omega) hj)
structure OutG (g c : Nat) (z : Nat → Int) (j m : Nat) (o : List S113) : Prop where
  len : o.length = c
  below : ∀ j', j' < j → Num (rd_T113 o (j' : Int)) (gS g c z j')
  here : j < c → Num (rd_T113 o (j : Int)) (sm m (gT g c z j))
  above : ∀ j', j < j' → j' < c → Num (rd_T113 o (j' : Int)) 0
theorem sumsG_loop {g c M : Nat} {z : Nat → Int} {w : List S113} {t : List (List S113)} (hz : ∀ i, i < c → (dg (z i).natAbs).length ≤ M) (hM : M < 1048576) (hc : c ≤ 65) (hg : g < 256) (hwl : w.length = c) (hw : ∀ i, i < c → Num (rd_T113 w (i : Int)) (z i)) (ht : Tab g (c - 1) c t) : ∀ (d j : Nat), j + d = c → ∀ (o : List S113), OutG g c z j 0 o →
    Rz (fun o => o.length = c ∧ ∀ j, j < c → Num (rd_T113 o (j : Int)) (gS g c z j)) (fun k => mw_sums.l0 k w t o (c : Int) (j : Int)) := by
  intro d
  induction d with
  | zero =>
    intro j hj o ho
    have hj : j = c := by omega
    subst hj
    refine Rz.succ ?_
    simp only [mw_sums.l0, if_neg (show ¬ (j : Int) < (j : Int) from Int.lt_irrefl _)]
    exact Rz.some ⟨ho.len, ho.below⟩
  | succ d ih =>
    intro j hj o ho
    have hjl : j < c := by omega
    refine Rz.succ ?_
    simp only [mw_sums.l0, if_pos (show (j : Int) < (c : Int) by omega)]
    rw [hwl]
    have inner : ∀ (d2 i : Nat), i + d2 = c → ∀ (o : List S113), OutG g c z j i o → Rz (fun o => o.length = c ∧ ∀ j, j < c → Num (rd_T113 o (j : Int)) (gS g c z j)) (fun k => mw_sums.l1 k w t o (j : Int) (c : Int) (j : Int) w (c : Int) (i : Int)) := by
      intro d2
      induction d2 with
      | zero =>
        intro i hi o ho
        have hi : i = c := by omega
        subst hi
        refine Rz.succ ?_
        simp only [mw_sums.l1, if_neg (show ¬ (i : Int) < (i : Int) from Int.lt_irrefl _), wn (show (j : Int) + 1 = ((j + 1 : Nat) : Int) by omega) (by omega)]
        refine ih (j + 1) (by omega) o ⟨ho.len, fun j' hj' => ?_, fun hlt => ?_, fun j' h1 h2 => ho.above j' (by omega) h2⟩
        · by_cases e : j' = j
          · subst e; exact ho.here hjl
          · exact ho.below j' (by omega)
        · exact ho.above (j + 1) (by omega) hlt
      | succ d2 ih2 =>
        intro i hi o ho
        have hil : i < c := by omega
        obtain ⟨b0, n0, ew, s0⟩ := hw i hil
        have hol := ho.len
        have hrow := ht.at' i hil
        have hrl := hrow.len
        have htl := ht.len
        have ea : (dg n0).length ≤ M := by rw [sg_len s0]; exact hz i hil
        refine Rz.succ ?_
        simp only [mw_sums.l1, if_pos (show (i : Int) < (c : Int) by omega), if_pos (show (0 : Int) ≤ (i : Int) from Int.natCast_nonneg _), if_pos (show (i : Int) < (w.length : Int) by omega), ew, wn (show (i : Int) + 1 = ((i + 1 : Nat) : Int) by omega) (by omega)]
        by_cases h0 : n0 = 0
        · have hzz : ¬ ((dg n0).length : Int) > 0 := by rw [h0, dg_zero]; simp
          simp only [if_neg hzz]
          refine ih2 (i + 1) (by omega) o ⟨ho.len, ho.below, fun h => ?_, ho.above⟩
          have := ho.here h
          have e : sm (i + 1) (gT g c z j) = sm i (gT g c z j) := by
            rw [sm]
            have : gT g c z j i = 0 := by unfold gT; rw [← s0, h0, sg_zero]; simp
            omega
          rw [e]; exact this
        · have hnz : ((dg n0).length : Int) > 0 := by
            have : (dg n0).length ≠ 0 := by rw [Ne, dg_len_zero]; exact h0
            omega
          obtain ⟨b2, n2, e2, s2⟩ := hrow.at' j (by omega)
          obtain ⟨b1, n1, e1, s1⟩ := ho.here hjl
          have l2 : (dg n2).length ≤ 324 := by rw [sg_len s2]; exact kr_len (by omega) (by omega) (by omega) (by omega)
          have l1 : (dg n1).length ≤ M + 325 := by rw [sg_len s1]; exact gS_len hz hc (by omega) (by omega) hjl
          obtain ⟨b3, n3, v3, s3⟩ := ntimes_ev (b1 := b0) (b2 := b2) (n1 := n0) (n2 := n2) (by omega) (by omega)
          have l3 : (dg n3).length ≤ M + 324 := by
            have t : n3 = n0 * n2 := by rw [sg_len s3, Int.natAbs_mul, sg_abs, sg_abs]
            have := mul_len n0 n2
            rw [t]; omega
          obtain ⟨b4, n4, v4, s4⟩ := nplus_ev (b1 := b1) (b2 := b3) (n1 := n1) (n2 := n3) (by omega) (by omega)
          simp only [if_pos hnz, if_pos (show (0 : Int) ≤ (j : Int) from Int.natCast_nonneg _), if_pos (show (j : Int) < (o.length : Int) by omega), if_pos (show (i : Int) < (t.length : Int) by omega), if_pos (show (j : Int) < ((rd_L6 t (i : Int)).length : Int) by omega), e1, e2, Int.toNat_natCast]
          refine Rz.bind v3 ?_
          refine Rz.bind v4 ?_
          refine ih2 (i + 1) (by omega) _ ⟨by rw [List.length_set]; exact hol, fun j' hj' => ?_, fun _ => ?_, fun j' h1 h2 => ?_⟩
          · rw [rdT_set_ne (by omega)]; exact ho.below j' hj'
          · rw [rdT_set_eq (by omega)]
            refine ⟨b4, n4, rfl, ?_⟩
            rw [s4, s3, s1, s2, s0, sm]
            rfl
          · rw [rdT_set_ne (by omega)]; exact ho.above j' h1 h2
    exact inner c 0 (by omega) o ho
theorem sumsG_ev {q c M : Nat} {z : Nat → Int} {w : List S113} (hz : ∀ i, i < c → (dg (z i).natAbs).length ≤ M) (hM : M < 1048576) (h1 : 1 ≤ c) (hc : c ≤ 65) (hq : 2 ≤ q) (hq2 : q ≤ 256) (hwl : w.length = c) (hw : ∀ i, i < c → Num (rd_T113 w (i : Int)) (z i)) :
    Rz (fun o => o.length = c ∧ ∀ j, j < c → Num (rd_T113 o (j : Int)) (gS (q - 1) c z j)) (fun k => mw_sums.f k (q : Int) w) := by
  obtain ⟨t, ht, hT⟩ := table_ev (q := q) (n := c - 1) hq hq2 (by omega)
  rw [show c - 1 + 1 = c by omega] at hT
  simp only [mw_sums.f, hwl, wn (show (c : Int) - 1 = ((c - 1 : Nat) : Int) by omega) (by omega)]
  refine Rz.bind ht ?_
  simp only [if_pos (show (0 : Int) ≤ (c : Int) from Int.natCast_nonneg _), Int.toNat_natCast, if_pos (show c ≤ 8796093022208 by omega), Option.bind_some, List.length_replicate]
  have hzz : ∀ j : Nat, Num (rd_T113 (List.replicate c z113) (j : Int)) 0 := by
    intro j
    have : rd_T113 (List.replicate c z113) (j : Int) = z113 := by
      unfold rd_T113
      simp only [Int.toNat_natCast, List.getD_eq_getElem?_getD]
      by_cases h : j < c
      · simp [h]
      · rw [List.getElem?_eq_none (by simp; omega)]; rfl
    rw [this]; exact num_zero
  exact sumsG_loop hz hM hc (by omega) hwl hw hT c 0 (by omega) _ ⟨List.length_replicate, fun j' h => by omega, fun _ => hzz 0, fun j' _ _ => hzz j'⟩
def eN (a : List S60) (i : Nat) : Nat := (qn (rd_T60 a (i : Int))).natAbs / Nat.gcd (qn (rd_T60 a (i : Int))).natAbs (qd (rd_T60 a (i : Int)))
def eD (a : List S60) (i : Nat) : Nat := qd (rd_T60 a (i : Int)) / Nat.gcd (qn (rd_T60 a (i : Int))).natAbs (qd (rd_T60 a (i : Int)))
def eB (a : List S60) (i : Nat) : Bool := decide (qn (rd_T60 a (i : Int)) < 0)
theorem e_rq (a : List S60) (i : Nat) : rq (qn (rd_T60 a (i : Int))) (qd (rd_T60 a (i : Int))) = (eB a i, dg (eN a i), dg (eD a i)) := rfl
theorem eD_ne (a : List S60) (i : Nat) : eD a i ≠ 0 := by
  have hd := qd_ne (rd_T60 a (i : Int))
  have h := Nat.div_mul_cancel (Nat.gcd_dvd_right (qn (rd_T60 a (i : Int))).natAbs (qd (rd_T60 a (i : Int))))
  intro e
  unfold eD at e
  rw [e, Nat.zero_mul] at h
  exact hd h.symm
theorem e_low (a : List S60) (i : Nat) : rq (sg (eB a i) (eN a i)) (eD a i) = rq (qn (rd_T60 a (i : Int))) (qd (rd_T60 a (i : Int))) := by
  obtain ⟨m, e, g, hg, he, hr, hn, hde, hm, hee⟩ := rq_parts (n := qn (rd_T60 a (i : Int))) (qd_ne (rd_T60 a (i : Int)))
  rw [e_rq] at hr
  simp only [Prod.mk.injEq] at hr
  have h1 := dg_inj hr.2.1
  have h2 := dg_inj hr.2.2
  rw [h1, h2, hr.1]
  conv => rhs; rw [hn, hde]
  rw [rq_scale hg]
structure Ql (M : Nat) (a : List S60) : Prop where
  at' : ∀ i, i < a.length → Lq M (rd_T60 a (i : Int))
  few : a.length ≤ 65
theorem eN_len {M : Nat} {a : List S60} (h : Ql M a) {i : Nat} (hi : i < a.length) : (dg (eN a i)).length ≤ M := Nat.le_trans (dg_len_mono (Nat.div_le_self _ _)) (h.at' i hi).qn_len
theorem eD_len {M : Nat} {a : List S60} (h : Ql M a) (hM : 1 ≤ M) {i : Nat} (hi : i < a.length) : (dg (eD a i)).length ≤ M := Nat.le_trans (dg_len_mono (Nat.div_le_self _ _)) ((h.at' i hi).qd_len hM)
def eL (a : List S60) : Nat → Nat
  | 0 => 1
  | i + 1 => eL a i * (eD a i / Nat.gcd (eD a i) (eL a i))
theorem eL_ne (a : List S60) : ∀ i, eL a i ≠ 0 := by
  intro i
  induction i with
  | zero => exact Nat.one_ne_zero
  | succ i ih =>
    rw [eL]
    refine Nat.mul_ne_zero ih ?_
    have h := Nat.div_mul_cancel (Nat.gcd_dvd_left (eD a i) (eL a i))
    intro e
    rw [e, Nat.zero_mul] at h
    exact eD_ne a i h.symm
theorem eL_dvd (a : List S60) : ∀ i t, t < i → eD a t ∣ eL a i := by
  intro i
  induction i with
  | zero => intro t h; omega
  | succ i ih =>
    intro t h
    rw [eL]
    by_cases e : t = i
    · subst e
      have h1 := Nat.gcd_dvd_right (eD a t) (eL a t)
      have h2 := Nat.div_mul_cancel (Nat.gcd_dvd_left (eD a t) (eL a t))
      obtain ⟨c, hc⟩ := h1
      refine ⟨c, ?_⟩
      generalize Nat.gcd (eD a t) (eL a t) = g at *
      generalize eD a t / g = y at *
      rw [hc, ← h2]
      grind
    · exact Nat.dvd_trans (ih t (by omega)) (Nat.dvd_mul_right _ _)
theorem eL_len {M : Nat} {a : List S60} (h : Ql M a) (hM : 1 ≤ M) : ∀ i, i ≤ a.length → (dg (eL a i)).length ≤ M * i + 1 := by
  intro i
  induction i with
  | zero => intro _; rw [eL, one_len]; omega
  | succ i ih =>
    intro hi
    have h1 := ih (by omega)
    have h2 := eD_len h hM (i := i) (by omega)
    have h3 := dg_len_mono (Nat.div_le_self (eD a i) (Nat.gcd (eD a i) (eL a i)))
    have := mul_len (eL a i) (eD a i / Nat.gcd (eD a i) (eL a i))
    rw [eL, Nat.mul_succ]
    omega
def eZ (a : List S60) (i : Nat) : Int := sg (eB a i) (eN a i * (eL a a.length / eD a i))
theorem e_whole {a : List S60} {i : Nat} (hi : i < a.length) : rq (eZ a i) (eL a a.length) = rq (qn (rd_T60 a (i : Int))) (qd (rd_T60 a (i : Int))) := by
  rw [← e_low]
  have hd := Nat.div_mul_cancel (eL_dvd a a.length i hi)
  have hne : eL a a.length / eD a i ≠ 0 := by
    intro e
    rw [e, Nat.zero_mul] at hd
    exact eL_ne a a.length hd.symm
  have h1 : eZ a i = sg (eB a i) (eN a i) * ((eL a a.length / eD a i : Nat) : Int) := by
    unfold eZ sg
    cases eB a i <;> simp [Int.neg_mul]
  rw [h1]
  conv => lhs; rw [show eL a a.length = eD a i * (eL a a.length / eD a i) by rw [Nat.mul_comm]; exact hd.symm]
  rw [show eD a i * (eL a a.length / eD a i) / eD a i = eL a a.length / eD a i from Nat.mul_div_cancel_left _ (by have := eD_ne a i; omega)]
  exact rq_scale hne
theorem rdQ_map {c : Nat} {f : Nat → S60} {i : Nat} (h : i < c) : rd_T60 ((List.range c).map f) (i : Int) = f i := by
  unfold rd_T60
  simp [List.getD_eq_getElem?_getD, h]
theorem rdS_map {c : Nat} {f : Nat → S113} {i : Nat} (h : i < c) : rd_T113 ((List.range c).map f) (i : Int) = f i := by
  unfold rd_T113
  simp [List.getD_eq_getElem?_getD, h]
def tRes (g : Nat) (a : List S60) : List S60 := (List.range a.length).map (fun j => qS (rq (gS g a.length (eZ a) j) (eL a a.length)))
theorem eZ_len {M : Nat} {a : List S60} (h : Ql M a) (hM : 1 ≤ M) {i : Nat} (hi : i < a.length) : (dg (eZ a i).natAbs).length ≤ M + (M * 65 + 1) := by
  have h1 := eN_len h hi
  have h2 := eL_len h hM a.length (Nat.le_refl _)
  have h3 := dg_len_mono (Nat.div_le_self (eL a a.length) (eD a i))
  have h4 := mul_len (eN a i) (eL a a.length / eD a i)
  have h5 : M * a.length ≤ M * 65 := Nat.mul_le_mul_left _ h.few
  unfold eZ
  rw [sg_abs]
  omega
theorem ratio_loop {g M : Nat} {a : List S60} {o : List S113} (h : Ql M a) (hM : 1 ≤ M) (hM2 : M ≤ 1000) (hg : g < 256) (hol : o.length = a.length) (ho : ∀ j, j < a.length → Num (rd_T113 o (j : Int)) (gS g a.length (eZ a) j)) : ∀ (d j : Nat), j + d = a.length →
    Ev (fun k => mw_Transform.l2 k (dg (eL a a.length)) ((List.range j).map (fun j => qS (rq (gS g a.length (eZ a) j) (eL a a.length)))) o (a.length : Int) (j : Int)) (tRes g a, 0) := by
  intro d
  have few := h.few
  have hLl := eL_len h hM a.length (Nat.le_refl _)
  have h65 : M * a.length ≤ M * 65 := Nat.mul_le_mul_left _ few
  induction d with
  | zero =>
    intro j hj
    have hj : j = a.length := by omega
    subst hj
    refine Ev.succ ?_
    simp only [mw_Transform.l2, if_neg (show ¬ (a.length : Int) < (a.length : Int) from Int.lt_irrefl _)]
    exact Ev.some _
  | succ d ih =>
    intro j hj
    have hjl : j < a.length := by omega
    obtain ⟨b, n, e, s⟩ := ho j hjl
    have hn : n = (gS g a.length (eZ a) j).natAbs := sg_len s
    have hnl : (dg n).length ≤ M + (M * 65 + 1) + 325 := by rw [hn]; exact gS_len (fun i hi => eZ_len h hM hi) few (by omega) (Nat.le_refl _) hjl
    have hrl : ((List.range j).map (fun j => qS (rq (gS g a.length (eZ a) j) (eL a a.length)))).length = j := by simp
    have hL0 := eL_ne a a.length
    have hq : Lq 100000 (⟨b, dg n, dg (eL a a.length)⟩ : S60) := ⟨lm_dg _, lm_dg _, by simp only; omega, by simp only; omega⟩
    have tr := ntrimR_ev hq (by omega)
    have e1 : qn (⟨b, dg n, dg (eL a a.length)⟩ : S60) = gS g a.length (eZ a) j := by
      unfold qn
      simp only [lv_dg, Int.toNat_natCast]
      rw [if_neg hL0, s]
    have e2 : qd (⟨b, dg n, dg (eL a a.length)⟩ : S60) = eL a a.length := by
      unfold qd
      simp only [lv_dg, Int.toNat_natCast]
      rw [if_neg hL0]
    rw [e1, e2] at tr
    have nx := ih (j + 1) (by omega)
    rw [map_range_succ] at nx
    refine Ev.succ ?_
    simp only [mw_Transform.l2, if_pos (show (j : Int) < (a.length : Int) by omega), if_pos (show (0 : Int) ≤ (j : Int) from Int.natCast_nonneg _), if_pos (show (j : Int) < (o.length : Int) by omega), e, wn (show (j : Int) + 1 = ((j + 1 : Nat) : Int) by omega) (by omega), hrl, if_pos (show j < 2513169434916 by omega), mw_ratio.f]
    refine Ev.bind (Ev.bind tr (Ev.some _)) ?_
    exact nx
theorem nwhole_loop {q M : Nat} {a : List S60} (h : Ql M a) (h1 : 1 ≤ a.length) (hM : 1 ≤ M) (hM2 : M ≤ 1000) (hq : 2 ≤ q) (hq2 : q ≤ 256) : ∀ (d i : Nat), i + d = a.length →
    Ev (fun k => mw_Transform.l1 k (q : Int) (dg (eL a a.length)) ((List.range i).map (fun t => (⟨eB a t, dg (eN a t * (eL a a.length / eD a t))⟩ : S113))) ((List.range a.length).map (fun t => (⟨eB a t, dg (eN a t), dg (eD a t)⟩ : S60))) (a.length : Int) (i : Int)) (tRes (q - 1) a, 0) := by
  intro d
  have few := h.few
  have hLl := eL_len h hM a.length (Nat.le_refl _)
  have h65 : M * a.length ≤ M * 65 := Nat.mul_le_mul_left _ few
  induction d with
  | zero =>
    intro i hi
    have hi : i = a.length := by omega
    subst hi
    obtain ⟨o, hev, hol, ho⟩ := sumsG_ev (q := q) (c := a.length) (z := eZ a) (fun i hi => eZ_len h hM hi) (by omega) h1 few hq hq2 (w := (List.range a.length).map (fun t => (⟨eB a t, dg (eN a t * (eL a a.length / eD a t))⟩ : S113))) (by simp) (fun i hi => ⟨eB a i, eN a i * (eL a a.length / eD a i), rdS_map hi, rfl⟩)
    refine Ev.succ ?_
    simp only [mw_Transform.l1, if_neg (show ¬ (a.length : Int) < (a.length : Int) from Int.lt_irrefl _)]
    refine Ev.bind hev ?_
    rw [hol]
    exact ratio_loop h hM hM2 (by omega) hol ho a.length 0 (by omega)
  | succ d ih =>
    intro i hi
    have hil : i < a.length := by omega
    have l1 := eN_len h hil
    have l2 := eD_len h hM hil
    have l3 := dg_len_mono (Nat.div_le_self (eL a a.length) (eD a i))
    have nx := ih (i + 1) (by omega)
    rw [map_range_succ] at nx
    refine Ev.succ ?_
    have hwl : ((List.range i).map (fun t => (⟨eB a t, dg (eN a t * (eL a a.length / eD a t))⟩ : S113))).length = i := by simp
    have hal : ((List.range a.length).map (fun t => (⟨eB a t, dg (eN a t), dg (eD a t)⟩ : S60))).length = a.length := by simp
    simp only [mw_Transform.l1, hal, hwl, if_pos (show (i : Int) < (a.length : Int) by omega), if_pos (show (0 : Int) ≤ (i : Int) from Int.natCast_nonneg _), rdQ_map hil, wn (show (i : Int) + 1 = ((i + 1 : Nat) : Int) by omega) (by omega), if_pos (show i < 4398046511104 by omega)]
    refine Ev.bind (ndivmod_ev (eD_ne a i) (by omega) (by omega)) ?_
    refine Ev.bind (mul2_ev (by omega) (by omega)) ?_
    exact nx
theorem ntrim_loop {q M : Nat} {a : List S60} (h : Ql M a) (h1 : 1 ≤ a.length) (hM : 1 ≤ M) (hM2 : M ≤ 1000) (hq : 2 ≤ q) (hq2 : q ≤ 256) : ∀ (d i : Nat), i + d = a.length →
    Ev (fun k => mw_Transform.l0 k (q : Int) (dg (eL a i)) ((List.range i).map (fun t => (⟨eB a t, dg (eN a t), dg (eD a t)⟩ : S60))) a (a.length : Int) (i : Int)) (tRes (q - 1) a, 0) := by
  intro d
  have few := h.few
  have h65 : M * a.length ≤ M * 65 := Nat.mul_le_mul_left _ few
  induction d with
  | zero =>
    intro i hi
    have hi : i = a.length := by omega
    subst hi
    have hal : ((List.range a.length).map (fun t => (⟨eB a t, dg (eN a t), dg (eD a t)⟩ : S60))).length = a.length := by simp
    refine Ev.succ ?_
    simp only [mw_Transform.l0, if_neg (show ¬ (a.length : Int) < (a.length : Int) from Int.lt_irrefl _), hal]
    exact nwhole_loop h h1 hM hM2 hq hq2 a.length 0 (by omega)
  | succ d ih =>
    intro i hi
    have hil : i < a.length := by omega
    have hx := h.at' i hil
    have l2 := eD_len h hM hil
    have l3 := eL_len h hM i (by omega)
    have l4 : M * i ≤ M * 65 := Nat.mul_le_mul_left _ (by omega)
    have l5 := dg_len_mono (Nat.div_le_self (eD a i) (Nat.gcd (eD a i) (eL a i)))
    have hg : Nat.gcd (eD a i) (eL a i) ≠ 0 := fun e => eD_ne a i (Nat.gcd_eq_zero_iff.mp e).1
    have l6 := dg_len_mono (Nat.gcd_le_left (eL a i) (show 0 < eD a i by have := eD_ne a i; omega))
    have nx := ih (i + 1) (by omega)
    rw [map_range_succ] at nx
    have hal : ((List.range i).map (fun t => (⟨eB a t, dg (eN a t), dg (eD a t)⟩ : S60))).length = i := by simp
    have tr := ntrimR_ev hx (by omega)
    rw [e_rq] at tr
    refine Ev.succ ?_
    simp only [mw_Transform.l0, hal, if_pos (show (i : Int) < (a.length : Int) by omega), if_pos (show (0 : Int) ≤ (i : Int) from Int.natCast_nonneg _), wn (show (i : Int) + 1 = ((i + 1 : Nat) : Int) by omega) (by omega), if_pos (show i < 2513169434916 by omega)]
    refine Ev.bind tr ?_
    refine Ev.bind (ngcdG_ev (by omega) (by omega)) ?_
    refine Ev.bind (ndivmod_ev hg (by omega) (by omega)) ?_
    refine Ev.bind (mul2_ev (by omega) (by omega)) ?_
    exact nx
theorem ntrans_ev {q M : Nat} {a : List S60} (h : Ql M a) (h1 : 1 ≤ a.length) (hM : 1 ≤ M) (hM2 : M ≤ 1000) (hq : 2 ≤ q) (hq2 : q ≤ 256) :
    Ev (fun k => mw_Transform.f k (q : Int) a) (tRes (q - 1) a, 0) := by
  have few := h.few
  have hsh : mw_wrong.f (q : Int) (a.length : Int) = some 0 := by
    simp only [mw_wrong.f, mw_shape.f, if_neg (show ¬ (q : Int) < 2 by omega), if_neg (show ¬ (q : Int) > 256 by omega), if_neg (show ¬ (a.length : Int) < 1 by omega), if_neg (show ¬ (a.length : Int) > 65 by omega), Option.bind_some]
  simp only [mw_Transform.f, hsh, Option.bind_some, if_true, show ([1] : List Int) = dg 1 from dg_one.symm]
  exact ntrim_loop h h1 hM hM2 hq hq2 a.length 0 (by omega)
theorem rq_mulK {n n' K : Int} {d d' : Nat} (hd : d ≠ 0) (hd' : d' ≠ 0) (h : rq n d = rq n' d') : rq (n * K) d = rq (n' * K) d' := by
  obtain ⟨m1, e1, g1, hg1, he1, hr1, hn1, hde1, _, _⟩ := rq_parts (n := n) hd
  obtain ⟨m2, e2, g2, hg2, he2, hr2, hn2, hde2, _, _⟩ := rq_parts (n := n') hd'
  rw [hr1, hr2] at h
  simp only [Prod.mk.injEq] at h
  have h1 := dg_inj h.2.1
  have h2 := dg_inj h.2.2
  have k1 : n * K = (sg (decide (n < 0)) m1 * K) * (g1 : Int) := by conv => lhs; rw [hn1]
                                                                    grind
  have k2 : n' * K = (sg (decide (n' < 0)) m2 * K) * (g2 : Int) := by conv => lhs; rw [hn2]
                                                                      grind
  rw [k1, k2, hde1, hde2, rq_scale hg1, rq_scale hg2, h1, h2, h.1]
theorem rmulR_ev {M : Nat} {e : S60} {c : Int} {d : Nat} (h : Lq M e) (hM1 : 1 ≤ M) (hM : M < 131072) (h2 : FewQ c d) : Ev (fun k => r2_Mul.f k e.f0 e.f1 e.f2 (rq c d).1 (rq c d).2.1 (rq c d).2.2) (rq (qn e * c) (qd e * d)) := by
  have f1 : FewQ (qn e) (qd e) := ⟨qd_ne e, by have := h.qn_len; omega, by have := h.qd_len hM1; omega⟩
  have g := rmulG_ev f1 h2
  simp only [r2_Mul.f] at g ⊢
  have g := Ev.unbind (rtrimG_ev f1) g
  exact Ev.bind (rtrimR_ev h hM) g
theorem rtransG_loop {q M : Nat} {a : List S60} (h : Ql M a) (h1 : 1 ≤ a.length) (hM : 1 ≤ M) (hM2 : M ≤ 1000) (hq : 2 ≤ q) (hq2 : q ≤ 256) : ∀ (d j : Nat), j + d = a.length →
    Ev (fun k => r24_Transform.l0 k (q : Int) a ((List.range j).map (fun j => qS (rq (gS (q - 1) a.length (eZ a) j) (eL a a.length)))) (j : Int)) (tRes (q - 1) a) := by
  intro d
  have few := h.few
  have hLl := eL_len h hM a.length (Nat.le_refl _)
  have h65 : M * a.length ≤ M * 65 := Nat.mul_le_mul_left _ few
  have hL0 := eL_ne a a.length
  have h1l := one_len
  induction d with
  | zero =>
    intro j hj
    have hj : j = a.length := by omega
    subst hj
    refine Ev.succ ?_
    simp only [r24_Transform.l0, if_neg (show ¬ (a.length : Int) < (a.length : Int) from Int.lt_irrefl _)]
    exact Ev.some _
  | succ d ih =>
    intro j hj
    have hjl : j < a.length := by omega
    have hrl : ((List.range j).map (fun j => qS (rq (gS (q - 1) a.length (eZ a) j) (eL a a.length)))).length = j := by simp
    refine Ev.succ ?_
    simp only [r24_Transform.l0, if_pos (show (j : Int) < (a.length : Int) by omega)]
    refine Ev.bind (rintq_ev (z := 0) (by omega) (by omega)) ?_
    have inner : ∀ (d2 i : Nat), i + d2 = a.length → Ev (fun k => r24_Transform.l1 k (q : Int) a ((List.range j).map (fun j => qS (rq (gS (q - 1) a.length (eZ a) j) (eL a a.length)))) (j : Int) (i : Int) (rq (sm i (gT (q - 1) a.length (eZ a) j)) (eL a a.length)).1 (rq (sm i (gT (q - 1) a.length (eZ a) j)) (eL a a.length)).2.1 (rq (sm i (gT (q - 1) a.length (eZ a) j)) (eL a a.length)).2.2) (tRes (q - 1) a) := by
      intro d2
      induction d2 with
      | zero =>
        intro i hi
        have hi : i = a.length := by omega
        subst hi
        have nx := ih (j + 1) (by omega)
        rw [map_range_succ] at nx
        refine Ev.succ ?_
        simp only [r24_Transform.l1, if_neg (show ¬ (a.length : Int) < (a.length : Int) from Int.lt_irrefl _), hrl, if_pos (show j < 2513169434916 by omega), wn (show (j : Int) + 1 = ((j + 1 : Nat) : Int) by omega) (by omega)]
        exact nx
      | succ d2 ih2 =>
        intro i hi
        have hil : i < a.length := by omega
        have hx := h.at' i hil
        have lk := kr_len (g := q - 1) (a := a.length - 1 - i) (b := i) (k := j) (by omega) (by omega) (by omega) (by omega)
        have lz := eZ_len h hM hil
        have lt := gT_len (g := q - 1) (c := a.length) (z := eZ a) (fun i hi => eZ_len h hM hi) few (by omega) hil hjl
        have ls := gS_len (g := q - 1) (c := a.length) (z := eZ a) (fun i hi => eZ_len h hM hi) few (by omega) (m := i) (by omega) hjl
        have kk := rkraw_ok (q := q) (n := a.length - 1) (j := j) (x := i) hq hq2 (by omega) (by omega) (by omega)
        rw [← rq_one] at kk
        have nx := ih2 (i + 1) (by omega)
        have mm := rmulR_ev hx hM (by omega) (c := kr ((q - 1 : Nat) : Int) (a.length - 1 - i) i j) (d := 1) ⟨by omega, by omega, by omega⟩
        rw [Nat.mul_one, rq_mulK (qd_ne _) hL0 (e_whole hil).symm] at mm
        refine Ev.succ ?_
        simp only [r24_Transform.l1, if_pos (show (i : Int) < (a.length : Int) by omega), if_pos (show (0 : Int) ≤ (i : Int) from Int.natCast_nonneg _), wn (show (i : Int) + 1 = ((i + 1 : Nat) : Int) by omega) (by omega), wn (show (a.length : Int) - 1 = ((a.length - 1 : Nat) : Int) by omega) (by omega)]
        refine Ev.bind kk ?_
        refine Ev.bind mm ?_
        refine Ev.bind (raddG_ev (a := sm i (gT (q - 1) a.length (eZ a) j)) (b := eL a a.length) (c := gT (q - 1) a.length (eZ a) j i) (d := eL a a.length) ⟨hL0, by omega, by omega⟩ ⟨hL0, by omega, by omega⟩) ?_
        rw [rq_same hL0]
        exact nx
    have hz : rz 0 = rq (sm 0 (gT (q - 1) a.length (eZ a) j)) (eL a a.length) := by rw [sm, rq_zero hL0, rz_zero]
    rw [hz]
    exact inner a.length 0 (by omega)
theorem rtransG_ev {q M : Nat} {a : List S60} (h : Ql M a) (h1 : 1 ≤ a.length) (hM : 1 ≤ M) (hM2 : M ≤ 1000) (hq : 2 ≤ q) (hq2 : q ≤ 256) : Ev (fun k => r24_Transform.f k (q : Int) a) (tRes (q - 1) a) := by
  simp only [r24_Transform.f]
  exact rtransG_loop h h1 hM hM2 hq hq2 a.length 0 (by omega)
theorem rdQ_lt {l : List S60} {i : Nat} (h : i < l.length) : rd_T60 l (i : Int) = l[i] := by
  unfold rd_T60
  simp [List.getD_eq_getElem?_getD, h]
def Hld (e : S60) : Prop := Lm e.f1 ∧ Lm e.f2 ∧ e.f1.length ≤ 140737488355328 ∧ e.f2.length ≤ 140737488355328
theorem large_ev {l : List S60} {m : Nat} (hlen : l.length ≤ 9223372036854775807) (hl : ∀ e ∈ l, Hld e) : Ev (fun k => w24_large.f k (m : Int) l) (decide (∃ x ∈ l, m < x.f1.length + x.f2.length)) := by
  have loop : ∀ (d i : Nat), i + d = l.length → (∀ j : Nat, (h : j < i) → (h2 : j < l.length) → l[j].f1.length + l[j].f2.length ≤ m) → Ev (fun k => w24_large.l0 k (m : Int) l (i : Int)) (decide (∃ x ∈ l, m < x.f1.length + x.f2.length)) := by
    intro d
    induction d with
    | zero =>
      intro i hi hp
      refine Ev.succ ?_
      simp only [w24_large.l0, if_neg (show ¬ (i : Int) < (l.length : Int) by omega)]
      refine Ev.cast (Ev.some _) (decide_eq_false (fun ⟨x, hx, hl⟩ => ?_)).symm
      obtain ⟨j, hj, e⟩ := List.getElem_of_mem hx
      have := hp j (by omega) hj
      rw [e] at this
      omega
    | succ d ih =>
      intro i hi hp
      have hil : i < l.length := by omega
      have hx := hl l[i] (List.getElem_mem hil)
      have h1 := hx.2.2.1
      have h2 := hx.2.2.2
      have ew : wrap64 ((l[i].f1.length : Int) + (l[i].f2.length : Int)) = ((l[i].f1.length + l[i].f2.length : Nat) : Int) := wn (by omega) (by omega)
      have ei : wrap64 ((i : Int) + 1) = ((i + 1 : Nat) : Int) := wn (by clear ew; omega) (by clear ew; omega)
      refine Ev.succ ?_
      simp only [w24_large.l0, if_pos (show (i : Int) < (l.length : Int) by clear ew ei; omega), if_pos (show (0 : Int) ≤ (i : Int) from Int.natCast_nonneg _), rdQ_lt hil, ew, ei]
      clear ew ei
      by_cases h : ((l[i].f1.length + l[i].f2.length : Nat) : Int) > (m : Int)
      · simp only [if_pos h]
        refine Ev.cast (Ev.some _) (decide_eq_true ⟨l[i], List.getElem_mem hil, by omega⟩).symm
      · simp only [if_neg h]
        refine ih (i + 1) (by omega) (fun j h1 h2 => ?_)
        by_cases e : j = i
        · subst e; omega
        · exact hp j (by omega) h2
  simp only [w24_large.f]
  exact loop l.length 0 (by omega) (fun j h => by omega)
theorem rqsame_ev {a b c : Bool × List Int × List Int} (h1 : a.2.1.length < 549755813888) (h2 : a.2.2.length < 549755813888) (h : a = b) : Ev (fun k => r2_Same.f k a.1 a.2.1 a.2.2 b.1 b.2.1 b.2.2) true := by
  subst h
  have hs : (a.1 == a.1) = true := by simp
  simp only [r2_Same.f, hs, if_true]
  refine Ev.bind (same_ev _ _ h1) ?_
  simp only [decide_true, if_true]
  refine Ev.bind (same_ev _ _ h2) ?_
  exact Ev.cast (Ev.some _) (by simp)
theorem sameList_ev {R : List S60} (hlen : R.length ≤ 100) (h : ∀ i, i < R.length → (rd_T60 R (i : Int)).f1.length < 549755813888 ∧ (rd_T60 R (i : Int)).f2.length < 549755813888) : Ev (fun k => r2_SameList.f k R R) true := by
  have loop : ∀ (d i : Nat), i + d = R.length → Ev (fun k => r2_SameList.l0 k R R (i : Int)) true := by
    intro d
    induction d with
    | zero =>
      intro i hi
      refine Ev.succ ?_
      simp only [r2_SameList.l0, if_neg (show ¬ (i : Int) < (R.length : Int) by omega)]
      exact Ev.some _
    | succ d ih =>
      intro i hi
      have hil : i < R.length := by omega
      have hh := h i hil
      have e := rqsame_ev (a := ((rd_T60 R (i : Int)).f0, (rd_T60 R (i : Int)).f1, (rd_T60 R (i : Int)).f2)) (b := ((rd_T60 R (i : Int)).f0, (rd_T60 R (i : Int)).f1, (rd_T60 R (i : Int)).f2)) (c := (false, [], [])) hh.1 hh.2 rfl
      refine Ev.succ ?_
      simp only [r2_SameList.l0, if_pos (show (i : Int) < (R.length : Int) by omega), if_pos (show (0 : Int) ≤ (i : Int) from Int.natCast_nonneg _), wn (show (i : Int) + 1 = ((i + 1 : Nat) : Int) by omega) (by omega)]
      refine Ev.bind e ?_
      simp only [if_true]
      exact ih (i + 1) (by omega)
  simp only [r2_SameList.f, if_true]
  exact loop R.length 0 (by omega)
theorem tRes_len {g M : Nat} {a : List S60} (h : Ql M a) (hM : 1 ≤ M) (hg : g < 256) : (tRes g a).length = a.length ∧ ∀ i, i < a.length → rd_T60 (tRes g a) (i : Int) = qS (rq (gS g a.length (eZ a) i) (eL a a.length)) := by
  unfold tRes
  exact ⟨by simp, fun i hi => rdQ_map hi⟩
theorem tRes_lq {g M : Nat} {a : List S60} (h : Ql M a) (hM : 1 ≤ M) (hg : g < 256) {i : Nat} (hi : i < a.length) : Lq (M * 66 + 326) (rd_T60 (tRes g a) (i : Int)) := by
  rw [(tRes_len h hM hg).2 i hi]
  have l1 := gS_len (g := g) (c := a.length) (z := eZ a) (fun i hi => eZ_len h hM hi) h.few (by omega) (Nat.le_refl _) hi
  have l1 : (dg (gS g a.length (eZ a) i).natAbs).length ≤ M + (M * 65 + 1) + 325 := l1
  have l2 := eL_len h hM a.length (Nat.le_refl _)
  have l3 : M * a.length ≤ M * 65 := Nat.mul_le_mul_left _ h.few
  have l4 := dg_len_mono (Nat.div_le_self (gS g a.length (eZ a) i).natAbs (Nat.gcd (gS g a.length (eZ a) i).natAbs (eL a a.length)))
  have l5 := dg_len_mono (Nat.div_le_self (eL a a.length) (Nat.gcd (gS g a.length (eZ a) i).natAbs (eL a a.length)))
  exact ⟨lm_dg _, lm_dg _, by show (dg _).length ≤ _; omega, by show (dg _).length ≤ _; omega⟩
theorem transforms_law {q : Int} {l : List S60} (hlen : l.length ≤ 9223372036854775807) (hl : ∀ e ∈ l, Hld e) : Ev (fun k => w24_MacwilliamsTransforms.f k q l) true := by
  simp only [w24_MacwilliamsTransforms.f]
  refine Ev.bind (large_ev (m := 4) hlen hl) ?_
  by_cases hlong : ∃ x ∈ l, 4 < x.f1.length + x.f2.length
  · simp only [decide_eq_true hlong, if_true]
    exact Ev.some _
  simp only [decide_eq_false hlong, Bool.false_eq_true, if_false]
  have fin : Ev (fun k => w24_MacwilliamsTransforms.j0 k q l true) true := by
    refine Ev.succ ?_
    simp only [w24_MacwilliamsTransforms.j0, if_true]
    exact Ev.some _
  have go : Ev (fun k => w24_MacwilliamsTransforms.j0 k q l false) true := by
    refine Ev.succ ?_
    simp only [w24_MacwilliamsTransforms.j0, Bool.false_eq_true, if_false]
    by_cases hq : q < 2 ∨ 256 < q
    · have h1 : mw_wrong.f q (l.length : Int) = some 6 := by
        simp only [mw_wrong.f]
        by_cases h : q < 2
        · rw [if_pos h]
        · rw [if_neg h, if_pos (by omega)]
      have h2 : r24_Order.f q = some 6 := by
        simp only [r24_Order.f]
        by_cases h : q < 2
        · rw [if_pos h]
        · rw [if_neg h, if_pos (by omega)]
      have ht : Ev (fun k => mw_Transform.f k q l) ([], 6) := by
        simp only [mw_Transform.f, h1, Option.bind_some, if_neg (show ¬ (6 : Int) = 0 by omega)]
        exact Ev.some _
      refine Ev.bind ht ?_
      simp only [h2, Option.bind_some, if_neg (show ¬ (6 : Int) = 0 by omega), if_true, List.length_nil]
      exact Ev.cast (Ev.some _) (by decide)
    · obtain ⟨n, rfl⟩ : ∃ n : Nat, q = (n : Int) := ⟨q.toNat, by omega⟩
      have hor : r24_Order.f (n : Int) = some 0 := by
        simp only [r24_Order.f, if_neg (show ¬ (n : Int) < 2 by omega), if_neg (show ¬ (n : Int) > 256 by omega)]
      by_cases hsh : l.length < 1 ∨ 65 < l.length
      · have h1 : mw_wrong.f (n : Int) (l.length : Int) = some 3 := by
          simp only [mw_wrong.f, if_neg (show ¬ (n : Int) < 2 by omega), if_neg (show ¬ (n : Int) > 256 by omega), shape_bad hsh, Option.bind_some]
        have ht : Ev (fun k => mw_Transform.f k (n : Int) l) ([], 3) := by
          simp only [mw_Transform.f, h1, Option.bind_some, if_neg (show ¬ (3 : Int) = 0 by omega)]
          exact Ev.some _
        refine Ev.bind ht ?_
        simp only [hor, rshape_bad hsh, Option.bind_some, if_true, if_neg (show ¬ (3 : Int) = 0 by omega), List.length_nil]
        exact Ev.cast (Ev.some _) (by decide)
      · have h : Ql 4 l := ⟨fun i hi => by
          rw [rdQ_lt hi]
          have hx := hl l[i] (List.getElem_mem hi)
          have hb : l[i].f1.length + l[i].f2.length ≤ 4 := by
            by_cases g : 4 < l[i].f1.length + l[i].f2.length
            · exact absurd ⟨l[i], List.getElem_mem hi, g⟩ hlong
            · omega
          exact ⟨hx.1, hx.2.1, by omega, by omega⟩, by omega⟩
        have few := h.few
        refine Ev.bind (ntrans_ev h (by omega) (by omega) (by omega) (by omega) (by omega)) ?_
        simp only [hor, rshape_ok (show 1 ≤ l.length by omega) few, Option.bind_some, if_true]
        refine Ev.bind (rtransG_ev h (by omega) (by omega) (by omega) (by omega) (by omega)) ?_
        have hr := tRes_len (g := n - 1) h (by omega) (by omega)
        refine Ev.bind (sameList_ev (by omega) (fun i hi => ?_)) (Ev.some _)
        have hq := tRes_lq (g := n - 1) h (by omega) (by omega) (i := i) (by omega)
        exact ⟨by have := hq.nlen; omega, by have := hq.dlen; omega⟩
  by_cases h20 : (l.length : Int) > 20
  · simp only [if_pos h20]
    by_cases h65 : (l.length : Int) ≤ 65
    · simp only [decide_eq_true h65]; exact fin
    · simp only [decide_eq_false h65]; exact go
  · simp only [if_neg h20]; exact go
end Mw
end
section
namespace Mw
open Go Go.RowKit Go.ChangeShapes Go.WideShapes Go.Deep Go.Proofs Go.Proofs.YtifkbghnmhineaaW.PrintWords Go.Proofs.Ytifkbghnmhineaa.PAll
instance : Inhabited S60 := ⟨z60⟩
set_option maxRecDepth 100000
section
variable {H : Type} {enc : TypeId × Value → H} {w : World} {base : Nat} {held : Bool}
theorem limb_field {fuel : Nat} {cs : List Value} {y : DataW H × List MemPlace} (h : DataW.trod enc Try.prog w base (fun _ => true) held fuel 29 cs = some y) (hw : ∀ n ∈ y.1.weights Try.prog 29, n ≤ reachBytes) :
    ∃ (l : List Int) (A : Option Addr) (c : Nat), cs = [.slice A l.length c] ∧ l.length ≤ c ∧ l.length ≤ 140737488355328 ∧ (Kd.int .u32).C w A l.length l ∧ ∀ n ∈ l, (Lit.int .u32 n).wf = true := by
  rcases open_ints Try.underlying29 Try.underlying97 (by kernel_rfl) h with ⟨hcs, _⟩ | ⟨a, len, cap, zs, hcs, hb, hl, hm, hz, hx, hcell, hwz⟩
  · exact ⟨[], none, 0, hcs, Nat.le_refl _, by simp, Kd.C_nil _ _, fun n hn => by simp at hn⟩
  · simp only [if_true] at hz
    have hm9 : cap ≤ 9223372036854775807 := by simpa [maxLen] using hm
    have hb4 : Try.prog.bytesOf 97 = 4 := by kernel_rfl
    have hlen9 : len ≤ 140737488355328 := by
      have h0 := hw (((lits (H := H) .u32 (zs.take len)).length + (lits (H := H) .u32 (zs.drop len)).length) * Try.prog.bytesOf 97) (by
        rw [hx]
        simp only [DataW.weights, Try.underlying29]
        exact List.mem_cons_self ..)
      have h1 : (lits (H := H) .u32 (zs.take len)).length + (lits (H := H) .u32 (zs.drop len)).length = zs.length := by
        simp [lits]
        omega
      rw [h1, hb4] at h0
      unfold reachBytes at h0
      omega
    have hll : (zs.take len).length = len := by rw [List.length_take]; omega
    refine ⟨zs.take len, some a, cap, by rw [hll]; exact hcs, by omega, by omega, ?_, fun n hn => hwz n (List.mem_of_mem_take hn)⟩
    refine Kd.C_of_reads (d := (0 : Int)) ⟨rfl, by omega, fun hpos => ⟨a, rfl, fun i hi => ?_⟩⟩
    rw [hcell i (by omega)]
    congr 2
    simp only [List.getD_eq_getElem?_getD]
    rw [List.getElem?_take_of_lt (by omega)]
theorem rat_elem {fuel : Nat} {cs : List Value} {y : DataW H × List MemPlace} (h : DataW.trod enc Try.prog w base (fun _ => true) held fuel 60 cs = some y) (hw : ∀ n ∈ y.1.weights Try.prog 60, n ≤ reachBytes) :
    ∃ x : S60, k60.K w x cs ∧ cs.length = 3 ∧ (∀ n ∈ x.f1, (Lit.int .u32 n).wf = true) ∧ (∀ n ∈ x.f2, (Lit.int .u32 n).wf = true) ∧ x.f1.length ≤ 140737488355328 ∧ x.f2.length ≤ 140737488355328 := by
  obtain ⟨xs, n, _, hy, hlen, hxl, hf⟩ := DataW.trod_struct Try.underlying60 h
  have h3 : Try.prog.cellsOf 60 = 3 := by kernel_rfl
  have h4 : Try.prog.cellsOf 4 = 1 := by kernel_rfl
  have h29 : Try.prog.cellsOf 29 = 1 := by kernel_rfl
  rw [h3] at hlen
  obtain ⟨a, b, c, rfl⟩ : ∃ a b c, cs = [a, b, c] := by
    cases cs with
    | nil => simp at hlen
    | cons a cs =>
      cases cs with
      | nil => simp at hlen
      | cons b cs =>
        cases cs with
        | nil => simp at hlen
        | cons c cs =>
          cases cs with
          | nil => exact ⟨a, b, c, rfl⟩
          | cons d cs => simp at hlen
  have hxs : xs.length = 3 := hxl
  obtain ⟨y0, y1, y2, rfl⟩ : ∃ y0 y1 y2, xs = [y0, y1, y2] := by
    cases xs with
    | nil => simp at hxs
    | cons a xs =>
      cases xs with
      | nil => simp at hxs
      | cons b xs =>
        cases xs with
        | nil => simp at hxs
        | cons c xs =>
          cases xs with
          | nil => exact ⟨a, b, c, rfl⟩
          | cons d xs => simp at hxs
  have hw' : ∀ n ∈ DataW.weightsEach Try.prog [4, 29, 29] [y0.1, y1.1, y2.1], n ≤ reachBytes := by
    rw [hy] at hw
    simp only [DataW.weights, Try.underlying60] at hw
    exact hw
  simp only [DataW.weightsEach, List.mem_append] at hw'
  have g0 : DataW.trod enc Try.prog w base (fun _ => true) held n 4 (List.take (Try.prog.cellsOf 4) (List.drop 0 [a, b, c])) = some y0 := hf 0 _ rfl
  have g1 : DataW.trod enc Try.prog w base (fun _ => true) held n 29 (List.take (Try.prog.cellsOf 29) (List.drop 1 [a, b, c])) = some y1 := hf 1 _ rfl
  have g2 : DataW.trod enc Try.prog w base (fun _ => true) held n 29 (List.take (Try.prog.cellsOf 29) (List.drop 2 [a, b, c])) = some y2 := hf 2 _ rfl
  rw [h4] at g0
  rw [h29] at g1 g2
  obtain ⟨s, e0, _⟩ := DataW.trod_bool Try.underlying4 g0
  obtain ⟨l1, A1, c1, e1, p1, p2, p3, p4⟩ := limb_field g1 (fun n hn => hw' n (.inr (.inl hn)))
  obtain ⟨l2, A2, c2, e2, q1, q2, q3, q4⟩ := limb_field g2 (fun n hn => hw' n (.inr (.inr (.inl hn))))
  have f0 : a = .bool s := by simpa using e0
  have f1 : b = .slice A1 l1.length c1 := by simpa using e1
  have f2 : c = .slice A2 l2.length c2 := by simpa using e2
  rw [f0, f1, f2]
  exact ⟨⟨s, l1, l2⟩, k60_mk w ⟨s, l1, l2⟩ p1 p3 q1 q3, rfl, p4, q4, p2, q2⟩
theorem open_rats {t : TypeId} {A : Option Addr} {len cap : Nat} {d : DataW H} {ps : List MemPlace} (ht : Try.prog.underlying t = some (.slice 60))
    (h : DataW.Trod enc Try.prog w base (fun _ => true) held t (.slice A len cap) d ps) (hw : ∀ n ∈ d.weights Try.prog t, n ≤ reachBytes) :
    ∃ l : List S60, l.length = len ∧ len ≤ cap ∧ len ≤ 9223372036854775807 ∧ Kd.C k60 w A len l ∧ ∀ x ∈ l, (∀ n ∈ x.f1, (Lit.int .u32 n).wf = true) ∧ (∀ n ∈ x.f2, (Lit.int .u32 n).wf = true) ∧ x.f1.length ≤ 140737488355328 ∧ x.f2.length ≤ 140737488355328 := by
  obtain ⟨fuel, hf⟩ := h
  rcases DataW.trod_slice ht hf with ⟨hcs, _⟩ | ⟨a, len', cap', elems, rest, n, _, hcs, hx, hb, hl, hm, hel, hcell, _, _⟩
  · simp [Value.cells] at hcs
    obtain ⟨rfl, rfl, rfl⟩ := hcs
    exact ⟨[], rfl, Nat.le_refl _, by omega, ⟨rfl, by omega, fun h => absurd h (by omega)⟩, fun x hx => by simp at hx⟩
  · simp [Value.cells] at hcs
    obtain ⟨rfl, rfl, rfl⟩ := hcs
    have hm9 : cap ≤ 9223372036854775807 := by simpa [maxLen] using hm
    have hw2 : ∀ n ∈ DataW.weightsAll Try.prog 60 (elems.map (·.1)), n ≤ reachBytes := by
      have hd : d = .slice (elems.map (·.1)) (rest.map (·.1)) := (Prod.mk.inj hx).1
      rw [hd] at hw
      simp only [DataW.weights, ht, List.mem_cons, List.mem_append] at hw
      exact fun n hn => hw n (.inr (.inl hn))
    have all : ∀ (l : List (DataW H × List MemPlace)) (i : Nat) (hi : i < l.length) (n : Nat), n ∈ l[i].1.weights Try.prog 60 → n ∈ DataW.weightsAll Try.prog 60 (l.map (·.1)) := by
      intro l
      induction l with
      | nil => intro i hi; simp at hi
      | cons b l ih =>
        intro i hi n hn
        simp only [List.map_cons, DataW.weightsAll, List.mem_append]
        cases i with
        | zero => exact .inl hn
        | succ i => exact .inr (ih i (by simpa using hi) n hn)
    have h3 : Try.prog.cellsOf 60 = 3 := by kernel_rfl
    rw [h3] at hcell
    have each : ∀ i, i < len → ∃ x : S60, (∃ cs, cs.length = 3 ∧ k60.K w x cs ∧ ∀ j u, cs[j]? = some u → w.cell? (a.add (i * 3 + j)) = some u) ∧ (∀ n ∈ x.f1, (Lit.int .u32 n).wf = true) ∧ (∀ n ∈ x.f2, (Lit.int .u32 n).wf = true) ∧ x.f1.length ≤ 140737488355328 ∧ x.f2.length ≤ 140737488355328 := by
      intro i hi
      have g := hcell i hi
      rw [List.getElem?_eq_getElem (by omega)] at g
      obtain ⟨cs, hc, htr⟩ := Option.bind_eq_some_iff.mp g
      obtain ⟨_, hcl, hcc⟩ := World.cells?_some hc
      obtain ⟨x, hK, _, r1, r2, r3, r4⟩ := rat_elem htr (fun n hn => hw2 n (all elems i (by omega) n hn))
      refine ⟨x, ⟨cs, hcl, hK, fun j u hj => ?_⟩, r1, r2, r3, r4⟩
      have hj3 : j < 3 := by
        by_cases g2 : j < 3
        · exact g2
        · rw [List.getElem?_eq_none (by omega)] at hj; cases hj
      have := hcc j hj3
      rw [hj] at this
      have ea : (a.add (i * 3)).add j = a.add (i * 3 + j) := by
        unfold Addr.add
        by_cases z1 : i * 3 = 0 <;> by_cases z2 : j = 0 <;> simp [z1, z2] <;> omega
      rw [ea] at this
      exact this
    obtain ⟨y, hy⟩ := choose_lt each
    refine ⟨(List.range len).map y, by simp, hl, by omega, ⟨by simp, by omega, fun _ => ⟨a, rfl, fun j p hj => ?_⟩⟩, fun x hx => ?_⟩
    · have hjl : j < len := by
        by_cases g : j < len
        · exact g
        · rw [List.getElem?_eq_none (by simp; omega)] at hj; simp at hj
      have hp : p = y j := by
        rw [List.getElem?_map, List.getElem?_range hjl] at hj
        simpa using hj.symm
      obtain ⟨⟨cs, hcl, hK, hc⟩, _⟩ := hy j hjl
      rw [hp]
      exact ⟨cs, hcl, hK, hc⟩
    · obtain ⟨r, hr, rfl⟩ := List.mem_map.mp hx
      exact (hy r (List.mem_range.mp hr)).2
end
end Mw
end
section
namespace Mw
open Go Go.Proofs
def headCodes : List Nat := [
  104, 97, 114, 110, 101, 115, 115, 32, 97, 52, 54, 100, 51, 98, 54, 57, 49, 99, 100, 102, 102, 55, 57, 50, 53, 50, 54, 98, 102, 49,
  54, 102, 48, 51, 48, 99, 54, 97, 97, 48, 53, 57, 101, 57, 49, 50, 49, 49, 52, 97, 101, 54, 102, 97, 52, 52, 54, 99, 49, 56,
  54, 102, 57, 55, 99, 52, 101, 54, 51, 97, 102, 50, 32, 99, 117, 116, 32, 97, 116, 32, 99, 111, 100, 101, 119, 114, 105, 103, 104, 116,
  47, 99, 111, 100, 101, 119, 114, 105, 103, 104, 116, 108, 97, 119, 50, 52, 46, 77, 97, 99, 119, 105, 108, 108, 105, 97, 109, 115, 80, 108,
  101, 115, 115, 32, 99, 111, 100, 101, 119, 114, 105, 103, 104, 116, 47, 99, 111, 100, 101, 119, 114, 105, 103, 104, 116, 108, 97, 119, 50, 52,
  46, 77, 97, 99, 119, 105, 108, 108, 105, 97, 109, 115, 68, 101, 115, 105, 103, 110, 115, 32, 99, 111, 100, 101, 119, 114, 105, 103, 104, 116,
  47, 99, 111, 100, 101, 119, 114, 105, 103, 104, 116, 108, 97, 119, 50, 52, 46, 77, 97, 99, 119, 105, 108, 108, 105, 97, 109, 115, 68, 101,
  114, 105, 118, 101, 100, 32, 99, 111, 100, 101, 119, 114, 105, 103, 104, 116, 47, 99, 111, 100, 101, 119, 114, 105, 103, 104, 116, 108, 97, 119,
  50, 52, 46, 77, 97, 99, 119, 105, 108, 108, 105, 97, 109, 115, 77, 111, 109, 101, 110, 116, 115, 32, 99, 111, 100, 101, 119, 114, 105, 103,
  104, 116, 47, 99, 111, 100, 101, 119, 114, 105, 103, 104, 116, 108, 97, 119, 50, 52, 46, 77, 97, 99, 119, 105, 108, 108, 105, 97, 109, 115,
  83, 116, 114, 101, 110, 103, 116, 104, 115, 32, 99, 111, 100, 101, 119, 114, 105, 103, 104, 116, 47, 99, 111, 100, 101, 119, 114, 105, 103, 104,
  116, 108, 97, 119, 50, 52, 46, 77, 97, 99, 119, 105, 108, 108, 105, 97, 109, 115, 75, 114, 97, 119, 116, 99, 104, 111, 117, 107, 32, 99,
  111, 100, 101, 119, 114, 105, 103, 104, 116, 47, 99, 111, 100, 101, 119, 114, 105, 103, 104, 116, 108, 97, 119, 50, 52, 46, 77, 97, 99, 119,
  105, 108, 108, 105, 97, 109, 115, 65, 115, 115, 109, 117, 115, 32, 99, 111, 100, 101, 119, 114, 105, 103, 104, 116, 47, 99, 111, 100, 101, 119,
  114, 105, 103, 104, 116, 108, 97, 119, 50, 52, 46, 77, 97, 99, 119, 105, 108, 108, 105, 97, 109, 115, 71, 101, 110, 101, 114, 97, 116, 105,
  110, 103, 32, 99, 111, 100, 101, 119, 114, 105, 103, 104, 116, 47, 99, 111, 100, 101, 119, 114, 105, 103, 104, 116, 108, 97, 119, 50, 52, 46,
  77, 97, 99, 119, 105, 108, 108, 105, 97, 109, 115, 79, 114, 116, 104, 111, 103, 111, 110, 97, 108, 32, 99, 111, 100, 101, 119, 114, 105, 103,
  104, 116, 47, 99, 111, 100, 101, 119, 114, 105, 103, 104, 116, 108, 97, 119, 50, 52, 46, 77, 97, 99, 119, 105, 108, 108, 105, 97, 109, 115,
  82, 101, 99, 105, 112, 114, 111, 99, 97, 108, 32, 99, 111, 100, 101, 119, 114, 105, 103, 104, 116, 47, 99, 111, 100, 101, 119, 114, 105, 103,
  104, 116, 108, 97, 119, 50, 52, 46, 77, 97, 99, 119, 105, 108, 108, 105, 97, 109, 115, 82, 101, 99, 117, 114, 114, 101, 110, 99, 101, 32,
  99, 111, 100, 101, 119, 114, 105, 103, 104, 116, 47, 99, 111, 100, 101, 119, 114, 105, 103, 104, 116, 108, 97, 119, 50, 52, 46, 77, 97, 99,
  119, 105, 108, 108, 105, 97, 109, 115, 73, 100, 101, 110, 116, 105, 116, 121, 32, 99, 111, 100, 101, 119, 114, 105, 103, 104, 116, 47, 99, 111,
  100, 101, 119, 114, 105, 103, 104, 116, 108, 97, 119, 50, 52, 46, 77, 97, 99, 119, 105, 108, 108, 105, 97, 109, 115, 68, 101, 108, 115, 97,
  114, 116, 101, 32, 99, 111, 100, 101, 119, 114, 105, 103, 104, 116, 47, 99, 111, 100, 101, 119, 114, 105, 103, 104, 116, 108, 97, 119, 50, 52,
  46, 77, 97, 99, 119, 105, 108, 108, 105, 97, 109, 115, 69, 120, 116, 101, 114, 110, 97, 108, 115, 32, 99, 111, 100, 101, 119, 114, 105, 103,
  104, 116, 47, 99, 111, 100, 101, 119, 114, 105, 103, 104, 116, 108, 97, 119, 50, 52, 46, 77, 97, 99, 119, 105, 108, 108, 105, 97, 109, 115,
  84, 114, 97, 110, 115, 102, 111, 114, 109, 115, 32, 99, 111, 100, 101, 119, 114, 105, 103, 104, 116, 47, 99, 111, 100, 101, 119, 114, 105, 103,
  104, 116, 108, 97, 119, 50, 52, 46, 77, 97, 99, 119, 105, 108, 108, 105, 97, 109, 115, 73, 110, 118, 101, 114, 116, 115]
theorem head_eq : Try.prog.initOrder = String.ofList (headCodes.map Char.ofNat) := by kernel_rfl
theorem head_list : Try.prog.initOrder.toList = headCodes.map Char.ofNat := by rw [head_eq, String.toList_ofList]
def cutSigns : List Char := [99, 117, 116].map Char.ofNat
theorem head_word0 : ∃ rest, behindMainWord (wordsSigns (headCodes.map Char.ofNat)) = cutSigns :: rest := ⟨(behindMainWord (wordsSigns (headCodes.map Char.ofNat))).tail, by kernel_rfl⟩
theorem head_word : ∃ rest, behindMainWord (wordsSigns Try.prog.initOrder.toList) = cutSigns :: rest := by rw [head_list]; exact head_word0
theorem head_strip (rest : List (List Char)) : stripLifts liftWords (cutSigns :: rest) = ([], cutSigns :: rest) := by kernel_rfl
theorem sign1 : (cutSigns == "gc".toList) = false := by kernel_rfl
theorem sign2 : (cutSigns == "spec".toList) = false := by kernel_rfl
theorem sign3 : (cutSigns == "carried".toList) = false := by kernel_rfl
theorem sign4 : (cutSigns == "cut".toList) = true := by kernel_rfl
theorem make_of (P : Program) (c : List Char) (rest : List (List Char)) (h : behindMainWord (wordsSigns P.initOrder.toList) = c :: rest) (h1 : (c == "gc".toList) = false) (h2 : (c == "spec".toList) = false) (h3 : (c == "cut".toList) = true) : P.make = some .cut := by
  unfold Program.make
  rw [h]
  simp only [h1, h2, h3, Bool.or_self, Bool.true_or, Bool.false_eq_true, if_false, if_true]
theorem enter_of (P : Program) (c : List Char) (rest : List (List Char)) (h : behindMainWord (wordsSigns P.initOrder.toList) = c :: rest) (hs : stripLifts liftWords (c :: rest) = ([], c :: rest)) (h3 : (some c == some "cut".toList) = true) (ll : P.laysLater = false) (br : P.bearsReflect = false) (df : P.doorFits [] = true) : P.mayEnter = true := by
  unfold Program.mayEnter
  rw [h]
  simp only [hs, List.head?_cons, h3, ll, br, df]
  simp
theorem final_of (P : Program) (c : List Char) (rest : List (List Char)) (h : behindMainWord (wordsSigns P.initOrder.toList) = c :: rest) (hs : stripLifts liftWords (c :: rest) = ([], c :: rest)) (h3 : (some c == some "carried".toList) = false) : P.liftsFinal = false := by
  unfold Program.liftsFinal Program.headLifts
  rw [h]
  simp only [hs, List.head?_cons, h3, Bool.false_and, Bool.false_or]
  split <;> rfl
theorem laysLater_ : Try.prog.laysLater = false := by kernel_rfl
theorem bearsReflect_ : Try.prog.bearsReflect = false := by kernel_rfl
theorem doorFits_ : Try.prog.doorFits [] = true := by kernel_rfl
theorem make_ : Try.prog.make = some .cut := by
  obtain ⟨rest, h⟩ := head_word
  exact make_of _ _ rest h sign1 sign2 sign4
theorem mayEnter_ : Try.prog.mayEnter = true := by
  obtain ⟨rest, h⟩ := head_word
  exact enter_of _ _ rest h (head_strip rest) sign4 laysLater_ bearsReflect_ doorFits_
theorem liftsFinal_ : Try.prog.liftsFinal = false := by
  obtain ⟨rest, h⟩ := head_word
  exact final_of _ _ rest h (head_strip rest) sign3
theorem laidOut : laidOutB Try.prog = true := by kernel_rfl
theorem mapsRowed_ : mapsRowed Try.prog = true := by kernel_rfl
theorem stopsHeard_ : Try.prog.stopsHeard = true := by kernel_rfl
theorem stops_ : (Try.prog.stops == []) = true := by kernel_rfl
theorem stopKnobs_ : (Try.prog.stopKnobs == []) = true := by kernel_rfl
theorem joined_of {P : Program} {f : FuncId} {fn : Func} {s : ChangeSpec} {c : OpenClaim} (k1 : c.wf (OpenSpec.ofChange s) = true) (k2 : laidOutB P = true) (k3 : mapsRowed P = true) (k4 : fn.params.all (P.readableRec ·) = true) (k5 : namedTie P c.named s.vars = true)
    (k6 : (c.stops == []) = true) (k7 : (P.stops == []) = true) (k8 : (c.knobs == []) = true) (k9 : (P.stopKnobs == []) = true) (k10 : (c.inPlace == P.inPlace f) = true) (k11 : (c.unfollowed == P.unfollowed f) = true) (k12 : (c.recurses == P.recurses f) = true) (k13 : (c.named == P.varsNamed f) = true)
    (k14 : (c.maps == (fn.params.toList ++ s.plain.varTypes P).any (P.mapsRec ·)) = true) (k15 : (c.ifaces == (fn.params.toList ++ s.plain.varTypes P).any (P.ifacesRec ·)) = true) (k16 : (c.mapsOut == P.mapsAmong fn.resultTypes.toList) = true) (k17 : (c.loops == (fn.params.toList ++ s.plain.varTypes P).any (P.loopsFrom ·)) = true) (k18 : (c.wideKeys == (fn.params.toList ++ s.plain.varTypes P ++ fn.resultTypes.toList).any (P.wideKeysFrom ·)) = true)
    (k19 : s.vars.all (P.varReadable ·) = true) (k20 : fn.resultTypes.all (fun t => P.readableRec t && decide (t < P.types.size)) = true) (k21 : (c.ifacesOut == fn.resultTypes.toList.any (P.ifacesRec ·)) = true) (k22 : (c.loopsOut == fn.resultTypes.toList.any (P.loopsFrom ·)) = true) (k23 : (c.plainKeys == P.plainKeys) = true) (k24 : c.shortTexts.isNone = true)
    (k25 : P.stopsHeard = true) (k26 : P.mayEnter = true) (k27 : (c.lifted == P.liftsFinal) = true) (k28 : (P.make == some c.make) = true) (k29 : (c.kinds == (if c.domain.isEmpty then [] else fn.params.toList.map fun t => match P.underlying t with | some (.int k) => some k | _ => none)) = true) (k30 : (c.pinned == c.pinnedBy) = true)
    (k31 : (c.veiled == (fn.params.toList ++ s.plain.varTypes P ++ fn.resultTypes.toList).any (P.veiledRec ·)) = true) (k32 : c.veiledFits P fn.params.toList (fn.params.toList ++ s.plain.varTypes P ++ fn.resultTypes.toList) = true) : joinedFacts P f fn s c = true := by
  unfold joinedFacts
  simp only [Bool.and_eq_true]
  exact ⟨⟨⟨⟨⟨⟨⟨⟨⟨⟨⟨⟨⟨⟨⟨⟨⟨⟨⟨⟨⟨⟨⟨⟨⟨⟨⟨⟨⟨⟨⟨k1, k2⟩, k3⟩, k4⟩, k5⟩, k6⟩, k7⟩, k8⟩, k9⟩, k10⟩, k11⟩, k12⟩, k13⟩, k14⟩, k15⟩, k16⟩, k17⟩, k18⟩, k19⟩, k20⟩, k21⟩, k22⟩, k23⟩, k24⟩, k25⟩, k26⟩, k27⟩, k28⟩, k29⟩, k30⟩, k31⟩, k32⟩
end Mw
end
section
namespace Go.Proofs.Ytifkbghnmhineaa.macwilliamsTransforms
open Go.ChangeShapes Go.WideShapes Go.ChangeAt Go.RowKit
open Go.ChangeMaps (open_string shut_string)
set_option linter.unusedVariables false
theorem own : ownKnob Try.prog.godebug = none := by kernel_rfl
theorem held_of {l : List PAll.S60} (h : ∀ x ∈ l, (∀ n ∈ x.f1, (Lit.int .u32 n).wf = true) ∧ (∀ n ∈ x.f2, (Lit.int .u32 n).wf = true) ∧ x.f1.length ≤ 140737488355328 ∧ x.f2.length ≤ 140737488355328) : ∀ x ∈ l, Mw.Hld x := by
  have lim : ∀ n : Int, (Lit.int .u32 n).wf = true → 0 ≤ n ∧ n < 4294967296 := by
    intro n this
    have h0 : IntKind.u32.min = 0 := rfl
    have h1 : IntKind.u32.max = 4294967295 := rfl
    simp [Lit.wf, h0, h1] at this
    omega
  intro x hx
  obtain ⟨a, b, c, d⟩ := h x hx
  exact ⟨fun n hn => lim n (a n hn), fun n hn => lim n (b n hn), c, d⟩
set_option maxRecDepth 100000 in
theorem lifted (os : Os) (started : os.Started) (H : Type) (enc : TypeId × Value → H) :
    ReturnsInHanded {} Try.checked os 17 .any (Rows.macwilliamsTransformsSpec.pre6 enc Try.prog Try.f17 Rows.macwilliamsTransformsRow.domain false) (Rows.macwilliamsTransformsSpec.post enc Try.prog Try.f17 false true false false) := by
  refine returnsInHanded_of_change_sized (C := Try.checked) own started (by kernel_rfl) Try.func17
    (ChangeSpec.witness6 (enc := enc) (C := Try.checked) false ⟨#[], #[.int .i64 0, .slice none 0 0], []⟩ 8 (by kernel_rfl) (by kernel_rfl) (by kernel_rfl) (by kernel_rfl)) ?_
  intro W base args ds gs before hval0 hW hcnd hsz0 _
  have hval : ∀ (j : Nat) t v, Try.f17.params[j]? = some t → args[j]? = some v → Value.okWide Try.prog W .any base t v := hval0
  have hW' := hW
  obtain ⟨p, q, hA0, hV, rfl, hfz, hnd⟩ := hW
  have hA : DataW.TrodAll enc Try.prog W 0 (fun _ => true) true Try.f17.params.toList args.toList ds p := hA0
  rw [Try.params17] at hA hval
  obtain ⟨v0, vs0, d0, ds0, p0, q0, hargs, rfl, rfl, h0, r0⟩ := trodAll_cons hA
  obtain ⟨v1, vs1, d1, ds1, p1, q1, rfl, rfl, rfl, h1, r1⟩ := trodAll_cons r0
  obtain ⟨rfl, rfl, rfl⟩ := trodAll_nil r1
  obtain rfl : args = #[v0, v1] := by cases args; simp_all
  obtain ⟨rfl, rfl⟩ := trodVars_none hV
  obtain ⟨a0, rfl, rfl, rfl, w0⟩ := open_int Try.underlying3 (hval 0 3 v0 rfl rfl) h0
  obtain ⟨a1, len1, cap1, rfl⟩ := okWide_slice Try.underlying83 (hval 1 83 v1 rfl rfl)
  have k1 := h1
  have lt1 : ∀ x ∈ p1, x.block < W.heap.size := by obtain ⟨m, hm⟩ := k1; exact DataW.trod_lt m _ _ _ hm
  obtain ⟨l1, rfl, hc1, hm1, hr1, hw1⟩ := Mw.open_rats Try.underlying83 h1 (fun n hn => of_decide_eq_true (List.all_eq_true.1 hsz0 n (DataW.weights_mem_each (j := 1) (t := 83) (d := d1) (by rw [Try.params17]; rfl) rfl n hn)))
  clear hA0 hval0 hsz0
  obtain ⟨k, hk⟩ := (Mw.transforms_law (q := a0) hm1 (held_of hw1)).get
  refine (PAll.w24_MacwilliamsTransforms.calls k a0 a1 cap1 l1 true W hr1 hc1 hk).mono fun e W' ⟨he, bel⟩ => ?_
  subst he
  exact ⟨_, rfl, _, _, _, [], _, [], hW', trodAll_mk1 (shut_bool Try.underlying4 _), (trodAll_cons_mk (shut_int Try.underlying3 w0) (trodAll_cons_mk (Below.trod Mw.laidOut (by kernel_rfl) (of_decide_eq_true (by kernel_rfl)) k1 bel lt1) trodAll_mk0)), rfl, bel.frame _, fun h => by cases h⟩
theorem closed : joinedFacts Try.prog 17 Try.f17 Rows.macwilliamsTransformsSpec Rows.macwilliamsTransformsRow = true :=
  Mw.joined_of (by as_aux_lemma => kernel_rfl) Mw.laidOut Mw.mapsRowed_ (by as_aux_lemma => kernel_rfl) (by as_aux_lemma => kernel_rfl) (by as_aux_lemma => kernel_rfl) Mw.stops_ (by as_aux_lemma => kernel_rfl) Mw.stopKnobs_ (by as_aux_lemma => kernel_rfl) (by as_aux_lemma => kernel_rfl) (by as_aux_lemma => kernel_rfl) (by as_aux_lemma => kernel_rfl) (by as_aux_lemma => kernel_rfl) (by as_aux_lemma => kernel_rfl) (by as_aux_lemma => kernel_rfl) (by as_aux_lemma => kernel_rfl) (by as_aux_lemma => kernel_rfl) (by as_aux_lemma => kernel_rfl) (by as_aux_lemma => kernel_rfl) (by as_aux_lemma => kernel_rfl) (by as_aux_lemma => kernel_rfl) (by as_aux_lemma => kernel_rfl) (by as_aux_lemma => kernel_rfl) Mw.stopsHeard_ Mw.mayEnter_ (by rw [Mw.liftsFinal_]; rfl) (by rw [Mw.make_]; rfl) (by as_aux_lemma => kernel_rfl) (by as_aux_lemma => kernel_rfl) (by as_aux_lemma => kernel_rfl) (by as_aux_lemma => kernel_rfl)
theorem over : Rows.macwilliamsTransformsRow.holds Try.pinned (OpenSpec.ofChange Rows.macwilliamsTransformsSpec) :=
  OpenClaim.holds_of_wide 17 Try.f17 rfl rfl rfl rfl rfl rfl rfl ⟨rfl, rfl, rfl, rfl, rfl⟩ rfl rfl rfl rfl rfl (by as_aux_lemma => kernel_rfl) Try.func17 closed
    (of_decide_eq_true (by as_aux_lemma => kernel_rfl)) (by unfold Func.isWrapper; first | (rw [if_pos (by decide +kernel)]; kernel_rfl) | (rw [if_neg (by decide +kernel)]; exact ⟨rfl, rfl⟩))
    (fun os started H enc _ => lifted os started H enc)
theorem proved : Rows.MacwilliamsTransformsSaid := over
end Go.Proofs.Ytifkbghnmhineaa.macwilliamsTransforms
namespace Go.Proofs.Ytifkbghnmhineaa
theorem macwilliamsTransforms_holds : Rows.MacwilliamsTransformsSaid := macwilliamsTransforms.proved
end Go.Proofs.Ytifkbghnmhineaa
end
