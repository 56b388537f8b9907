/- What functions of the program do and come to, for the statement MacwilliamsInverts, part 4. Conditions: as each theorem says. -/
import Derived.Test.YtifkbghnmhineaaQInverts3

namespace Go.Proofs.Ytifkbghnmhineaa.PAll
open Go.RowKit Go.Proofs.YtifkbghnmhineaaW.PrintWords Go.Proofs.YtifkbghnmhineaaW.PrintLast Go.Proofs.YtifkbghnmhineaaW.PrintMore
attribute [local go_sem] max2_int min2_int max_two min_two max_three min_three max_four min_four
set_option linter.unusedVariables false
set_option linter.unusedSimpArgs false
def w24_MacwilliamsInverts.T12 : Bool × List (List Nat × List Nat) := (true, [([], []), ([], []), ([0, 1], [0, 1]), ([2], [2]), ([], []), ([], []), ([4, 5], [4, 5]), ([6], [6]), ([], []), ([8], [8]), ([], []), ([10], [10]), ([11], [11]), ([9, 12], [9, 12]), ([7, 13, 13], [7, 13]), ([3, 14, 14], [3, 14]), ([15], [15])])
def w24_MacwilliamsInverts.B12 : List Nat := [0, 0, 3, 7, 0, 0, 48, 112, 0, 256, 0, 1024, 3072, 7936, 16368, 32767, 65535]
theorem w24_MacwilliamsInverts.tab12 : rtab .any (opsOf Try.f18 12) = w24_MacwilliamsInverts.T12 := by kernel_rfl
theorem w24_MacwilliamsInverts.bits12 : waitsOk w24_MacwilliamsInverts.T12.2 w24_MacwilliamsInverts.B12 = true := by kernel_rfl
set_option maxHeartbeats 8000000 in
set_option maxRecDepth 100000 in
theorem w24_MacwilliamsInverts.calls (k : Nat) (a0 : Int) (A1 : Option Addr) (c1 : Nat) (l1 : List (S60)) (r : Bool) (w : World) (hr1 : Kd.C k60 w A1 l1.length l1) (hc1 : l1.length ≤ c1) (h : w24_MacwilliamsInverts.f k a0 l1 = some r) :
    Calls Try.prog 18 #[.int .u8 a0, .slice A1 l1.length c1] w fun e w' => e = .returned (.bool r) ∧ Below w.heap.size w w' := by
 have hu60 := Try.underlying60
 have HR1 := Aside0.mk hr1
 have HC1 := Aside0.mk hc1
 clear hr1 hc1
 have HB := Aside0.mk (Below.refl w.heap.size w)
 have H : ((w24_large.f k 4 l1).bind fun t101 => (if t101 = true then (some true) else (if a0 < 2 then (w24_MacwilliamsInverts.j0 k a0 l1 true) else (if (l1.length : Int) < 1 then (w24_MacwilliamsInverts.j0 k a0 l1 true) else (w24_MacwilliamsInverts.j0 k a0 l1 (decide ((l1.length : Int) > 16))))))) = some r := h
 clear h
 replace H := zb H
 obtain ⟨t101, A3, H⟩ := H
 by_cases c4 : t101 = true
 · subst c4
   rw [if_pos rfl] at H
   obtain rfl := Option.some.inj H
   go_enter Try.func18, Try.ntmps18
   go_wp2_with (first | ((with_reducible refine gC 63 ?_); refine zG (some 11) Try.func63 #[.int .i64 4, .slice A1 l1.length c1] ?_; (with_reducible refine (w24_large.calls k 4 _ _ l1 true _ ?side1 ?side2 A3.out).mono ?_); (case side1 => exact zC HR1.out); (case side2 => exact HC1.out); rintro e w' ⟨rfl, ⟨nd, rfl⟩⟩; refine ⟨_, rfl, ?_⟩))
   go_ret
   exact ⟨zE, zB HB.out⟩
 replace c4 := Bool.eq_false_iff.mpr c4
 subst c4
 rw [if_neg Bool.false_ne_true] at H
 have HC5 := Aside0.mk H
 clear H
 go_enter Try.func18, Try.ntmps18
 go_upto_region 3 with (first | ((with_reducible refine gC 63 ?_); refine zG (some 11) Try.func63 #[.int .i64 4, .slice A1 l1.length c1] ?_; (with_reducible refine (w24_large.calls k 4 _ _ l1 false _ ?side1 ?side2 A3.out).mono ?_); (case side1 => exact zC HR1.out); (case side2 => exact HC1.out); rintro e w' ⟨rfl, ⟨nd, rfl⟩⟩; refine ⟨_, rfl, ?_⟩))
 (try simp only [Act.put, List.setIfInBounds_toArray, List.set_cons_zero, List.set_cons_succ])
 go_cut [23] (fun v23 wc => ∃ (kq : Nat) (x23_4 : Bool), v23 = .bool x23_4 ∧ Aside0 (w24_MacwilliamsInverts.j0 kq a0 l1 x23_4 = some r) ∧ Aside0 (kq ≤ k) ∧ Aside0 (Below w.heap.size w wc))
 case first =>
  have H := HC5.out
  clear HC5
  replace H := zid H
  rcases H with ⟨c6b0, H⟩ | ⟨c6b0, H⟩
  · (first | rw [c6b0] | (simp only [i64_w, i32_w]; rw [c6b0]) | rw [c6b1] | skip)
    have H' := Aside0.mk H
    clear H
    go_wp2
    go_meet
    case rel => exact ⟨_, (true), zF, H', ⟨zO⟩, ⟨zB HB.out⟩⟩
  (first | rw [c6b0] | (simp only [i64_w, i32_w]; rw [c6b0]) | rw [c6b1] | skip)
  replace H := zi H
  rcases H with ⟨c7, H⟩ | ⟨c7, H⟩
  · have c7b0 := decide_eq_true c7
    have c7b1 : decide (l1.length < 1) = true := decide_eq_true (by omega)
    clear c7
    have H' := Aside0.mk H
    clear H
    go_wp2
    go_meet
    case rel => exact ⟨_, (true), zF, H', ⟨zO⟩, ⟨zB HB.out⟩⟩
  have c7b0 := decide_eq_false c7
  have c7b1 : decide (l1.length < 1) = false := decide_eq_false (by omega)
  clear c7
  have H' := Aside0.mk H
  clear H
  go_wp2
  go_meet
  case rel => exact ⟨_, (decide ((l1.length : Int) > 16)), zF, H', ⟨zO⟩, ⟨zB HB.out⟩⟩
 clear HC5
 (try clear c4);(try clear c6b0);(try clear c7);(try clear c7b0);(try clear c7b1)
 obtain ⟨kq, x23_4, rfl, HA, HJ4, HB⟩ := hcut
 cases kq with | zero => exact absurd HA.out (by simp [w24_MacwilliamsInverts.j0]) | succ kj4 => ?_
 have H := HA.out
 clear HA
 simp only [w24_MacwilliamsInverts.j0] at H
 by_cases c8 : x23_4 = true
 · subst c8
   rw [if_pos rfl] at H
   obtain rfl := Option.some.inj H
   go_wp2
   go_ret
   exact ⟨zE, zB HB.out⟩
 replace c8 := Bool.eq_false_iff.mpr c8
 subst c8
 rw [if_neg Bool.false_ne_true] at H
 replace H := zb H
 obtain ⟨⟨t102, t105⟩, A9, H⟩ := H
 dsimp only at H
 replace H := zb H
 obtain ⟨⟨t106, t109⟩, A10, H⟩ := H
 dsimp only at H
 have HC11 := Aside0.mk H
 clear H
 go_upto_region 7 with (first | ((with_reducible refine gC 64 ?_); refine zG (some 28) Try.func64 #[.int .i64 (wrap64 (a0)), .slice A1 l1.length c1] ?_; (with_reducible refine (mw_Transform.calls kj4 (wrap64 (a0)) (fun k_ => k_ < w.heap.size) _ _ l1 t102 t105 _ ?side1 A9.out).mono ?_); (case side1 => exact Kd.V_mk HC1.out (Kd.F_below (Kd.C_F k60_heap HR1.out) (zB HB.out))); rintro e w12 ⟨v103, rfl, ho0, hb⟩; refine ⟨_, rfl, ?_⟩; have HO104 := Aside0.mk (Kd.N_lower (Kd.N_mono (ok' := fun k_ => True) ho0 (fun k_ hk_ => trivial)) (below_size (zB HB.out))); replace HB := yS HB hb; (try clear hb ho0); obtain ⟨Ao13, co13, rfl⟩ := Kd.N_slice HO104.out) | ((with_reducible refine gC 64 ?_); refine zG (some 35) Try.func64 #[.int .i64 (wrap64 (a0)), .slice Ao13 t102.length co13] ?_; (with_reducible refine (mw_Transform.calls kj4 (wrap64 (a0)) (fun k_ => True) _ _ t102 t106 t109 _ ?side1 A10.out).mono ?_); (case side1 => exact Kd.N_V (HO104.out)); rintro e w14 ⟨v107, rfl, ho0, hb⟩; refine ⟨_, rfl, ?_⟩; replace HO104 := Aside0.mk (Kd.N_elder' (zN HO104.out) (Kd.N_base ho0) hb); have HO108 := Aside0.mk (Kd.N_lower (Kd.N_mono (ok' := fun k_ => True) ho0 (fun k_ hk_ => trivial)) (below_size (zB HB.out))); replace HB := yS HB hb; (try clear hb ho0)))
 (try simp only [Act.put, List.setIfInBounds_toArray, List.set_cons_zero, List.set_cons_succ])
 go_cut [50] (fun v50 wc => ∃ (kq : Nat) (x50_10 : Bool), v50 = .bool x50_10 ∧ Aside0 (w24_MacwilliamsInverts.j1 kq a0 l1 t106 x50_10 = some r) ∧ Aside0 (kq ≤ kj4) ∧ Aside0 (Kd.N k60 60 wc w.heap.size (fun _ => True) v107 t106) ∧ Aside0 (Below w.heap.size w wc))
 case first =>
  have H := HC11.out
  clear HC11
  replace H := zi H
  rcases H with ⟨c15, H⟩ | ⟨c15, H⟩
  · have c15b0 := beq_iff_eq.mpr c15
    have c15b1 := bne_eq_false_iff_eq.mpr c15
    clear c15
    (first | rw [c15b0] | (simp only [i64_w, i32_w]; rw [c15b0]) | rw [c15b1] | skip)
    replace H := zi H
    rcases H with ⟨c16, H⟩ | ⟨c16, H⟩
    · have c16b0 := beq_iff_eq.mpr c16
      have c16b1 := bne_eq_false_iff_eq.mpr c16
      clear c16
      have H' := Aside0.mk H
      clear H
      obtain ⟨Ao17, co17, rfl⟩ := Kd.N_slice HO108.out
      go_wp2
      go_meet
      case rel => exact ⟨_, (((t106.length : Int) != (l1.length : Int))), zF, H', ⟨by have := HJ4.out; first | omega | exact Nat.le_refl _⟩, ⟨zN HO108.out⟩, ⟨zB HB.out⟩⟩
    have c16b0 := beq_eq_false_iff_ne.mpr c16
    have c16b1 := bne_iff_ne.mpr c16
    have H' := Aside0.mk H
    clear H
    go_wp2
    go_meet
    case rel => exact ⟨_, (true), zF, H', ⟨by have := HJ4.out; first | omega | exact Nat.le_refl _⟩, ⟨zN HO108.out⟩, ⟨zB HB.out⟩⟩
  have c15b0 := beq_eq_false_iff_ne.mpr c15
  have c15b1 := bne_iff_ne.mpr c15
  (first | rw [c15b0] | (simp only [i64_w, i32_w]; rw [c15b0]) | rw [c15b1] | skip)
  have H' := Aside0.mk H
  clear H
  go_wp2
  go_meet
  case rel => exact ⟨_, (true), zF, H', ⟨by have := HJ4.out; first | omega | exact Nat.le_refl _⟩, ⟨zN HO108.out⟩, ⟨zB HB.out⟩⟩
 clear HC11
 (try clear c4);(try clear c6b0);(try clear c7);(try clear c7b0);(try clear c7b1);(try clear c8);(try clear c15);(try clear c15b0);(try clear c15b1);(try clear c16);(try clear c16b0);(try clear c16b1)
 obtain ⟨kq, x50_10, rfl, HA, HJ10, HO_7, HB⟩ := hcut
 cases kq with | zero => exact absurd HA.out (by simp [w24_MacwilliamsInverts.j1]) | succ kj10 => ?_
 have H := HA.out
 clear HA
 simp only [w24_MacwilliamsInverts.j1] at H
 by_cases c18 : x50_10 = true
 · subst c18
   rw [if_pos rfl] at H
   obtain rfl := Option.some.inj H
   go_wp2
   go_ret
   exact ⟨zE, zB HB.out⟩
 replace c18 := Bool.eq_false_iff.mpr c18
 subst c18
 rw [if_neg Bool.false_ne_true] at H
 have H' := Aside0.mk H
 clear H
 go_wp2
 go_loopg [9] kj10 (fun kq v9 w' => ∃ (x9_3 : Int), v9 = .int .i64 x9_3 ∧ Aside0 (w24_MacwilliamsInverts.l0 kq a0 l1 t106 x9_3 = some r) ∧ Aside0 (kq ≤ kj10) ∧ Aside0 (Kd.N k60 60 w' w.heap.size (fun _ => True) v107 t106) ∧ Aside0 (Below w.heap.size w w'))
 case atStart => exact ⟨(0), zF, H', ⟨Nat.le_refl _⟩, ⟨zN HO_7.out⟩, ⟨zB HB.out⟩⟩
 clear H'
 (try clear c4);(try clear c6b0);(try clear c7);(try clear c7b0);(try clear c7b1);(try clear c8);(try clear c15);(try clear c15b0);(try clear c15b1);(try clear c16);(try clear c16b0);(try clear c16b1);(try clear c18)
 obtain ⟨x9_3, rfl, HA, HK3, HO_7, HB⟩ := hrel
 cases gk with | zero => exact absurd HA.out (by simp [w24_MacwilliamsInverts.l0]) | succ k3 => ?_
 have H := HA.out
 clear HA
 simp only [w24_MacwilliamsInverts.l0] at H
 replace H := zid H
 rcases H with ⟨c19b0, H⟩ | ⟨c19b0, H⟩
 · replace H := zgd H
   obtain ⟨c20b0, H⟩ := H
   replace H := zgd H
   obtain ⟨c21b0, H⟩ := H
   replace H := zb H
   obtain ⟨⟨t112, t113, t116⟩, A22, H⟩ := H
   dsimp only at H
   replace H := zb H
   obtain ⟨⟨t119, t120, t123⟩, A23, H⟩ := H
   dsimp only at H
   replace H := zb H
   obtain ⟨t126, A24, H⟩ := H
   by_cases c25 : t126 = true
   · subst c25
     rw [if_pos rfl] at H
     have H' := Aside0.mk H
     clear H
     try go_wp2
     replace HO_7 := Aside0.mk (Kd.N_drew HO_7.out)
     replace HB := Aside0.mk (below_drew1 HB.out)
     obtain ⟨Ao27, co27, eo27⟩ := Kd.N_slice HO_7.out
     (first | subst eo27 | (injection eo27 with f1_ f2_ f3_; have f4_ := f1_.symm; have f5_ := f3_.symm; clear f1_ f2_ f3_; subst f4_; subst f5_))
     have p110 : 0 ≤ (x9_3 : Int) := zd
     have q110 : x9_3 < (t106.length : Int) := zd
     obtain ⟨ad110, A110_1, c110_1, A110_2, c110_2, e110, hx110_0, hx110_1, hx110_2, hl110_1, hi110_1, hl110_2, hi110_2⟩ := at_T60 (Kd.N_reads' HO_7.out).2.2 x9_3 p110 q110
     cases e110
     obtain ⟨ce110, hce110, hMe110, hcc110⟩ := Kd.N_get HO_7.out z60 x9_3 p110 (by first | exact q110 | exact zd | (have e_ := (Kd.N_reads' HO_7.out).1; omega))
     obtain ⟨ua110_1, uc110_1, ua110_2, uc110_2, rfl, ul110_1, ge110_1, ul110_2, ge110_2⟩ := k60_openF hMe110
     have hv110_1 := hcc110 1 _ rfl
     rw [add_field _ _ 1 (by omega)] at hv110_1
     replace hv110_1 := Option.some.inj (hv110_1.symm.trans hx110_1)
     injection hv110_1 with hva_ hvn_ hvc_
     rw [hva_] at ge110_1
     rw [hvc_] at ul110_1
     have HL110_1 := Aside0.mk (show Kd.V (Kd.int .u32) 97 _ w.heap.size _ _ ((rd_T60 t106 x9_3).f1) from Kd.V_mk ul110_1 ge110_1)
     clear hva_ hvn_ hvc_ ge110_1 ul110_1
     have hv110_2 := hcc110 2 _ rfl
     rw [add_field _ _ 2 (by omega)] at hv110_2
     replace hv110_2 := Option.some.inj (hv110_2.symm.trans hx110_2)
     injection hv110_2 with hva_ hvn_ hvc_
     rw [hva_] at ge110_2
     rw [hvc_] at ul110_2
     have HL110_2 := Aside0.mk (show Kd.V (Kd.int .u32) 97 _ w.heap.size _ _ ((rd_T60 t106 x9_3).f2) from Kd.V_mk ul110_2 ge110_2)
     clear hva_ hvn_ hvc_ ge110_2 ul110_2
     clear hcc110 hce110
     have HR110_1 := Aside0.mk hi110_1
     have HC110_1 := Aside0.mk hl110_1
     clear hi110_1 hl110_1
     have HR110_2 := Aside0.mk hi110_2
     have HC110_2 := Aside0.mk hl110_2
     clear hi110_2 hl110_2
     replace p110 := eq_true p110
     replace q110 := eq_true q110
     have p111 : 0 ≤ (x9_3 : Int) := zd
     have q111 : x9_3 < (l1.length : Int) := zd
     obtain ⟨ad111, A111_1, c111_1, A111_2, c111_2, e111, hx111_0, hx111_1, hx111_2, hl111_1, hi111_1, hl111_2, hi111_2⟩ := at_T60 HR1.out x9_3 p111 q111
     have hw111_2 := hx111_2
     have hw111_1 := hx111_1
     have hw111_0 := hx111_0
     cases e111
     replace hx111_0 := (HB.out.cell (World.block_lt_of_cell? w _ hx111_0)).trans hx111_0
     replace hx111_1 := (HB.out.cell (World.block_lt_of_cell? w _ hx111_1)).trans hx111_1
     replace hx111_2 := (HB.out.cell (World.block_lt_of_cell? w _ hx111_2)).trans hx111_2
     have HR111_1 := Aside0.mk hi111_1
     have HC111_1 := Aside0.mk hl111_1
     clear hi111_1 hl111_1
     have HR111_2 := Aside0.mk hi111_2
     have HC111_2 := Aside0.mk hl111_2
     clear hi111_2 hl111_2
     replace p111 := eq_true p111
     replace q111 := eq_true q111
     refine start_ (n := 17) (S := fun w' => w'.cell? (ad110.add ((x9_3).toNat * 3)) = some (.bool ((rd_T60 t106 x9_3).f0)) ∧ w'.cell? ⟨(ad110.add ((x9_3).toNat * 3)).block, (ad110.add ((x9_3).toNat * 3)).off + 1, none⟩ = some (.slice A110_1 ((rd_T60 t106 x9_3).f1).length c110_1) ∧ w'.cell? ⟨(ad110.add ((x9_3).toNat * 3)).block, (ad110.add ((x9_3).toNat * 3)).off + 2, none⟩ = some (.slice A110_2 ((rd_T60 t106 x9_3).f2).length c110_2) ∧ w'.cell? (ad111.add ((x9_3).toNat * 3)) = some (.bool ((rd_T60 l1 x9_3).f0)) ∧ w'.cell? ⟨(ad111.add ((x9_3).toNat * 3)).block, (ad111.add ((x9_3).toNat * 3)).off + 1, none⟩ = some (.slice A111_1 ((rd_T60 l1 x9_3).f1).length c111_1) ∧ w'.cell? ⟨(ad111.add ((x9_3).toNat * 3)).block, (ad111.add ((x9_3).toNat * 3)).off + 2, none⟩ = some (.slice A111_2 ((rd_T60 l1 x9_3).f2).length c111_2)) (ds := []) #[false, false, false, false, false, false, false, false, false, false, false, false, false, false, false, false, false] (by kernel_rfl) rfl rfl ⟨hx110_0, hx110_1, hx110_2, ((HB.out.cell (World.block_lt_of_cell? w _ hw111_0)).trans hw111_0), ((HB.out.cell (World.block_lt_of_cell? w _ hw111_1)).trans hw111_1), ((HB.out.cell (World.block_lt_of_cell? w _ hw111_2)).trans hw111_2)⟩ (fun hHeld => ?_); refine with_tabW w24_MacwilliamsInverts.tab12 w24_MacwilliamsInverts.bits12 (fun HT_ HW_ => ?_)
     generalize wr.drew = w26 at HO_7 HB HL110_1 HL110_2 HR110_1 HR110_2 HR111_1 HR111_2 hx110_0 hx110_1 hx110_2 hx111_0 hx111_1 hx111_2 hHeld ⊢
     refine zp (i := 0) (N := some 57) HT_ ?_
     refine zp (i := 1) (N := some 58) HT_ ?_
     refine zp (i := 2) (N := some 59) HT_ ?_
     refine zp (i := 4) (N := some 61) HT_ ?_
     refine zp (i := 5) (N := some 62) HT_ ?_
     refine zp (i := 6) (N := some 63) HT_ ?_
     refine zp (i := 8) (N := some 65) HT_ ?_
     refine zp (i := 9) (N := some 66) HT_ ?_
     refine zp (i := 10) (N := some 67) HT_ ?_
     refine zp (i := 11) (N := some 68) HT_ ?_
     refine zp (i := 12) (N := some 69) HT_ ?_
     refine take_ (i := 3) (N := some 60) (v := ?_) (a' := ?_) #[true, true, true, true, true, true, true, false, true, true, true, true, true, false, false, false, false] rfl rfl (take_ofW HT_.out HW_.out (by kernel_rfl)) (fun _ _ _ h => h) (Or.inl ⟨by rfl, ?_⟩) hHeld ?_ ?_
     rotate_left
     · rintro w' ⟨s0, s1, s2, s3, s4, s5⟩
       go_simp
       with_reducible rfl
     rotate_left
     · simp only [Act.put, List.setIfInBounds_toArray, List.set_cons_zero, List.set_cons_succ, i64_w, i32_w]
       rfl
     refine take_ (i := 7) (N := some 64) (v := ?_) (a' := ?_) #[true, true, true, true, true, true, true, true, true, true, true, true, true, false, false, false, false] rfl rfl (take_ofW HT_.out HW_.out (by kernel_rfl)) (fun _ _ _ h => h) (Or.inl ⟨by rfl, ?_⟩) hHeld ?_ ?_
     rotate_left
     · rintro w' ⟨s0, s1, s2, s3, s4, s5⟩
       go_simp
       with_reducible rfl
     rotate_left
     · simp only [Act.put, List.setIfInBounds_toArray, List.set_cons_zero, List.set_cons_succ, i64_w, i32_w]
       rfl
     refine one_ (i := 13) (N := some 70) #[true, true, true, true, true, true, true, true, true, true, true, true, true, true, false, false, false] rfl rfl (one_of HT_.out (by kernel_rfl)) (by decide) (fun K hK => ?_)
     refine goes_ Try.func54 (by kernel_rfl) rfl #[.int .i64 (wrap64 (a0)), .int .i64 (wrap64 ((l1.length : Int) - 1))] (by rfl) rfl rfl (by (try simp only [List.map_toArray, List.map_cons, List.map_nil]); first | done | rfl | (simp only [List.length_drop, List.length_take]; rfl)) ?_
     with_reducible refine (w24_pow.calls k3 (wrap64 (a0)) (wrap64 ((l1.length : Int) - 1)) t112 t113 t116 _ A22.out).mono ?_
     rintro e w28 ⟨v114, v117, rfl, ho0, ho1, hb⟩
     have HS0_ := (hb.cell (World.block_lt_of_cell? _ _ (hHeld.1))).trans (hHeld.1)
     have HS1_ := (hb.cell (World.block_lt_of_cell? _ _ (hHeld.2.1))).trans (hHeld.2.1)
     have HS2_ := (hb.cell (World.block_lt_of_cell? _ _ (hHeld.2.2.1))).trans (hHeld.2.2.1)
     refine ⟨_, rfl, ?_⟩
     replace HO_7 := Aside0.mk (Kd.N_mono (Kd.N_told (Kd.N_told (Kd.N_old (zN HO_7.out) hb) (Kd.R_base ho0)) (Kd.R_base ho1)) (fun _ h_ => h_.1))
     replace HL110_1 := yVt HL110_1 hb ho0 ho1
     replace HL110_2 := yVt HL110_2 hb ho0 ho1
     have HO115 := yRl ho0 HB
     have HO118 := yRl ho1 HB
     (try replace HR110_1 := yCb HR110_1 hb)
     (try replace HR110_2 := yCb HR110_2 hb)
     replace HB := yS HB hb
     (try clear hb)
     (try clear ho0)
     (try clear ho1)
     obtain ⟨Ao29, co29, eo29⟩ := Kd.R_slice HO115.out
     (first | subst eo29 | (injection eo29 with f1_ f2_ f3_; have f4_ := f1_.symm; have f5_ := f3_.symm; clear f1_ f2_ f3_; subst f4_; subst f5_))
     obtain ⟨Ao30, co30, eo30⟩ := Kd.R_slice HO118.out
     (first | subst eo30 | (injection eo30 with f1_ f2_ f3_; have f4_ := f1_.symm; have f5_ := f3_.symm; clear f1_ f2_ f3_; subst f4_; subst f5_))
     refine hK.out _ _ ⟨HS0_, HS1_, HS2_, ((HB.out.cell (World.block_lt_of_cell? w _ hw111_0)).trans hw111_0), ((HB.out.cell (World.block_lt_of_cell? w _ hw111_1)).trans hw111_1), ((HB.out.cell (World.block_lt_of_cell? w _ hw111_2)).trans hw111_2)⟩ (fun hHeld => ?_)
     clear hK K
     refine norm_ (a' := ?_) ?_ ?_
     rotate_left
     · show Act.put _ (some 70) _ = _
       simp only [Act.put, List.setIfInBounds_toArray, List.set_cons_zero, List.set_cons_succ, i64_w, i32_w]
       rfl
     refine one_ (i := 14) (N := some 71) #[true, true, true, true, true, true, true, true, true, true, true, true, true, true, true, false, false] rfl rfl (one_of HT_.out (by kernel_rfl)) (by decide) (fun K hK => ?_)
     refine goes_ Try.func51 (by kernel_rfl) rfl #[.agg #[.bool ((rd_T60 l1 x9_3).f0), .slice A111_1 ((rd_T60 l1 x9_3).f1).length c111_1, .slice A111_2 ((rd_T60 l1 x9_3).f2).length c111_2], .agg #[.bool t112, .slice Ao29 t113.length co29, .slice Ao30 t116.length co30]] (by rfl) rfl rfl (by (try simp only [List.map_toArray, List.map_cons, List.map_nil]); first | done | rfl | (simp only [List.length_drop, List.length_take]; rfl)) ?_
     with_reducible refine (r2_Mul.calls k3 ((rd_T60 l1 x9_3).f0) _ _ ((rd_T60 l1 x9_3).f1) _ _ ((rd_T60 l1 x9_3).f2) t112 _ _ t113 _ _ t116 t119 t120 t123 _ ?side1 ?side2 ?side3 ?side4 ?side5 ?side6 ?side7 ?side8 A23.out).mono ?_
     (case side1 => exact zC (Kd.C_below HR111_1.out HB.out))
     (case side2 => exact HC111_1.out)
     (case side3 => exact zC (Kd.C_below HR111_2.out HB.out))
     (case side4 => exact HC111_2.out)
     (case side5 => exact zC (Kd.R_reads' HO115.out).2.2)
     (case side6 => exact (Kd.R_reads' HO115.out).2.1)
     (case side7 => exact zC (Kd.R_reads' HO118.out).2.2)
     (case side8 => exact (Kd.R_reads' HO118.out).2.1)
     rintro e w31 ⟨v121, v124, rfl, ho0, ho1, hb⟩
     have HS0_ := (hb.cell (World.block_lt_of_cell? _ _ (hHeld.1))).trans (hHeld.1)
     have HS1_ := (hb.cell (World.block_lt_of_cell? _ _ (hHeld.2.1))).trans (hHeld.2.1)
     have HS2_ := (hb.cell (World.block_lt_of_cell? _ _ (hHeld.2.2.1))).trans (hHeld.2.2.1)
     refine ⟨_, rfl, ?_⟩
     replace HO_7 := Aside0.mk (Kd.N_mono (Kd.N_told (Kd.N_told (Kd.N_old (zN HO_7.out) hb) (Kd.R_base ho0)) (Kd.R_base ho1)) (fun _ h_ => h_.1))
     replace HL110_1 := yVt HL110_1 hb ho0 ho1
     replace HL110_2 := yVt HL110_2 hb ho0 ho1
     replace ho0 := yn ho0 HO115
     replace ho0 := yn ho0 HO118
     have HO122 := yRl ho0 HB
     replace ho1 := yn ho1 HO115
     replace ho1 := yn ho1 HO118
     have HO125 := yRl ho1 HB
     replace HO115 := yRt HO115 hb ho0 ho1
     replace HO118 := yRt HO118 hb ho0 ho1
     (try replace HR110_1 := yCb HR110_1 hb)
     (try replace HR110_2 := yCb HR110_2 hb)
     replace HB := yS HB hb
     (try clear hb)
     (try clear ho0)
     (try clear ho1)
     obtain ⟨Ao32, co32, eo32⟩ := Kd.R_slice HO122.out
     (first | subst eo32 | (injection eo32 with f1_ f2_ f3_; have f4_ := f1_.symm; have f5_ := f3_.symm; clear f1_ f2_ f3_; subst f4_; subst f5_))
     obtain ⟨Ao33, co33, eo33⟩ := Kd.R_slice HO125.out
     (first | subst eo33 | (injection eo33 with f1_ f2_ f3_; have f4_ := f1_.symm; have f5_ := f3_.symm; clear f1_ f2_ f3_; subst f4_; subst f5_))
     refine hK.out _ _ ⟨HS0_, HS1_, HS2_, ((HB.out.cell (World.block_lt_of_cell? w _ hw111_0)).trans hw111_0), ((HB.out.cell (World.block_lt_of_cell? w _ hw111_1)).trans hw111_1), ((HB.out.cell (World.block_lt_of_cell? w _ hw111_2)).trans hw111_2)⟩ (fun hHeld => ?_)
     clear hK K
     refine norm_ (a' := ?_) ?_ ?_
     rotate_left
     · show Act.put _ (some 71) _ = _
       simp only [Act.put, List.setIfInBounds_toArray, List.set_cons_zero, List.set_cons_succ, i64_w, i32_w]
       rfl
     refine one_ (i := 15) (N := some 72) #[true, true, true, true, true, true, true, true, true, true, true, true, true, true, true, true, false] rfl rfl (one_of HT_.out (by kernel_rfl)) (by decide) (fun K hK => ?_)
     refine goes_ Try.func45 (by kernel_rfl) rfl #[.agg #[.bool ((rd_T60 t106 x9_3).f0), .slice A110_1 ((rd_T60 t106 x9_3).f1).length c110_1, .slice A110_2 ((rd_T60 t106 x9_3).f2).length c110_2], .agg #[.bool t119, .slice Ao32 t120.length co32, .slice Ao33 t123.length co33]] (by rfl) rfl rfl (by (try simp only [List.map_toArray, List.map_cons, List.map_nil]); first | done | rfl | (simp only [List.length_drop, List.length_take]; rfl)) ?_
     with_reducible refine (r2_Same.calls k3 ((rd_T60 t106 x9_3).f0) _ _ ((rd_T60 t106 x9_3).f1) _ _ ((rd_T60 t106 x9_3).f2) t119 _ _ t120 _ _ t123 true _ ?side1 ?side2 ?side3 ?side4 ?side5 ?side6 ?side7 ?side8 A24.out).mono ?_
     (case side1 => repeat (first | exact (zCr HR110_1.out) | (with_reducible refine Kd.C_alloc ?_ _) | (with_reducible refine Kd.C_drewN ?_ _) | (with_reducible refine Kd.C_drew ?_)))
     (case side2 => exact HC110_1.out)
     (case side3 => repeat (first | exact (zCr HR110_2.out) | (with_reducible refine Kd.C_alloc ?_ _) | (with_reducible refine Kd.C_drewN ?_ _) | (with_reducible refine Kd.C_drew ?_)))
     (case side4 => exact HC110_2.out)
     (case side5 => exact zC (Kd.R_reads' HO122.out).2.2)
     (case side6 => exact (Kd.R_reads' HO122.out).2.1)
     (case side7 => exact zC (Kd.R_reads' HO125.out).2.2)
     (case side8 => exact (Kd.R_reads' HO125.out).2.1)
     rintro e w34 ⟨rfl, hb⟩
     have HS0_ := (hb.cell (World.block_lt_of_cell? _ _ (hHeld.1))).trans (hHeld.1)
     have HS1_ := (hb.cell (World.block_lt_of_cell? _ _ (hHeld.2.1))).trans (hHeld.2.1)
     have HS2_ := (hb.cell (World.block_lt_of_cell? _ _ (hHeld.2.2.1))).trans (hHeld.2.2.1)
     refine ⟨_, rfl, ?_⟩
     replace HO_7 := yNb HO_7 hb
     replace HL110_1 := yVb HL110_1 hb
     replace HL110_2 := yVb HL110_2 hb
     replace HO115 := yRb HO115 hb
     replace HO118 := yRb HO118 hb
     replace HO122 := yRb HO122 hb
     replace HO125 := yRb HO125 hb
     (try replace HR110_1 := yCb HR110_1 hb)
     (try replace HR110_2 := yCb HR110_2 hb)
     replace HB := yS HB hb
     (try clear hb)
     refine hK.out _ _ ⟨HS0_, HS1_, HS2_, ((HB.out.cell (World.block_lt_of_cell? w _ hw111_0)).trans hw111_0), ((HB.out.cell (World.block_lt_of_cell? w _ hw111_1)).trans hw111_1), ((HB.out.cell (World.block_lt_of_cell? w _ hw111_2)).trans hw111_2)⟩ (fun hHeld => ?_)
     clear hK K
     refine norm_ (a' := ?_) ?_ ?_
     rotate_left
     · show Act.put _ (some 72) _ = _
       simp only [Act.put, List.setIfInBounds_toArray, List.set_cons_zero, List.set_cons_succ, i64_w, i32_w]
       rfl
     refine zp (i := 16) (N := some 73) HT_ ?_
     refine done_ (done_of HT_.out (by kernel_rfl)) ?_
     try go_wp2
     go_roundg k3
     case measure => have := HJ4.out; have := HJ10.out; have := HK3.out; omega
     case rel => exact ⟨(wrap64 (x9_3 + 1)), zF, H', ⟨by have := HJ4.out; have := HJ10.out; have := HK3.out; omega⟩, ⟨by (with_reducible repeat (first | apply Kd.N_alloc | apply Kd.N_drewN | apply Kd.N_drew)); exact Kd.N_mono HO_7.out (fun _ hk => trivial)⟩, ⟨zB HB.out⟩⟩
   replace c25 := Bool.eq_false_iff.mpr c25
   subst c25
   rw [if_neg Bool.false_ne_true] at H
   obtain rfl := Option.some.inj H
   try go_wp2
   replace HO_7 := Aside0.mk (Kd.N_drew HO_7.out)
   replace HB := Aside0.mk (below_drew1 HB.out)
   obtain ⟨Ao36, co36, eo36⟩ := Kd.N_slice HO_7.out
   (first | subst eo36 | (injection eo36 with f1_ f2_ f3_; have f4_ := f1_.symm; have f5_ := f3_.symm; clear f1_ f2_ f3_; subst f4_; subst f5_))
   have p110 : 0 ≤ (x9_3 : Int) := zd
   have q110 : x9_3 < (t106.length : Int) := zd
   obtain ⟨ad110, A110_1, c110_1, A110_2, c110_2, e110, hx110_0, hx110_1, hx110_2, hl110_1, hi110_1, hl110_2, hi110_2⟩ := at_T60 (Kd.N_reads' HO_7.out).2.2 x9_3 p110 q110
   cases e110
   obtain ⟨ce110, hce110, hMe110, hcc110⟩ := Kd.N_get HO_7.out z60 x9_3 p110 (by first | exact q110 | exact zd | (have e_ := (Kd.N_reads' HO_7.out).1; omega))
   obtain ⟨ua110_1, uc110_1, ua110_2, uc110_2, rfl, ul110_1, ge110_1, ul110_2, ge110_2⟩ := k60_openF hMe110
   have hv110_1 := hcc110 1 _ rfl
   rw [add_field _ _ 1 (by omega)] at hv110_1
   replace hv110_1 := Option.some.inj (hv110_1.symm.trans hx110_1)
   injection hv110_1 with hva_ hvn_ hvc_
   rw [hva_] at ge110_1
   rw [hvc_] at ul110_1
   have HL110_1 := Aside0.mk (show Kd.V (Kd.int .u32) 97 _ w.heap.size _ _ ((rd_T60 t106 x9_3).f1) from Kd.V_mk ul110_1 ge110_1)
   clear hva_ hvn_ hvc_ ge110_1 ul110_1
   have hv110_2 := hcc110 2 _ rfl
   rw [add_field _ _ 2 (by omega)] at hv110_2
   replace hv110_2 := Option.some.inj (hv110_2.symm.trans hx110_2)
   injection hv110_2 with hva_ hvn_ hvc_
   rw [hva_] at ge110_2
   rw [hvc_] at ul110_2
   have HL110_2 := Aside0.mk (show Kd.V (Kd.int .u32) 97 _ w.heap.size _ _ ((rd_T60 t106 x9_3).f2) from Kd.V_mk ul110_2 ge110_2)
   clear hva_ hvn_ hvc_ ge110_2 ul110_2
   clear hcc110 hce110
   have HR110_1 := Aside0.mk hi110_1
   have HC110_1 := Aside0.mk hl110_1
   clear hi110_1 hl110_1
   have HR110_2 := Aside0.mk hi110_2
   have HC110_2 := Aside0.mk hl110_2
   clear hi110_2 hl110_2
   replace p110 := eq_true p110
   replace q110 := eq_true q110
   have p111 : 0 ≤ (x9_3 : Int) := zd
   have q111 : x9_3 < (l1.length : Int) := zd
   obtain ⟨ad111, A111_1, c111_1, A111_2, c111_2, e111, hx111_0, hx111_1, hx111_2, hl111_1, hi111_1, hl111_2, hi111_2⟩ := at_T60 HR1.out x9_3 p111 q111
   have hw111_2 := hx111_2
   have hw111_1 := hx111_1
   have hw111_0 := hx111_0
   cases e111
   replace hx111_0 := (HB.out.cell (World.block_lt_of_cell? w _ hx111_0)).trans hx111_0
   replace hx111_1 := (HB.out.cell (World.block_lt_of_cell? w _ hx111_1)).trans hx111_1
   replace hx111_2 := (HB.out.cell (World.block_lt_of_cell? w _ hx111_2)).trans hx111_2
   have HR111_1 := Aside0.mk hi111_1
   have HC111_1 := Aside0.mk hl111_1
   clear hi111_1 hl111_1
   have HR111_2 := Aside0.mk hi111_2
   have HC111_2 := Aside0.mk hl111_2
   clear hi111_2 hl111_2
   replace p111 := eq_true p111
   replace q111 := eq_true q111
   refine start_ (n := 17) (S := fun w' => w'.cell? (ad110.add ((x9_3).toNat * 3)) = some (.bool ((rd_T60 t106 x9_3).f0)) ∧ w'.cell? ⟨(ad110.add ((x9_3).toNat * 3)).block, (ad110.add ((x9_3).toNat * 3)).off + 1, none⟩ = some (.slice A110_1 ((rd_T60 t106 x9_3).f1).length c110_1) ∧ w'.cell? ⟨(ad110.add ((x9_3).toNat * 3)).block, (ad110.add ((x9_3).toNat * 3)).off + 2, none⟩ = some (.slice A110_2 ((rd_T60 t106 x9_3).f2).length c110_2) ∧ w'.cell? (ad111.add ((x9_3).toNat * 3)) = some (.bool ((rd_T60 l1 x9_3).f0)) ∧ w'.cell? ⟨(ad111.add ((x9_3).toNat * 3)).block, (ad111.add ((x9_3).toNat * 3)).off + 1, none⟩ = some (.slice A111_1 ((rd_T60 l1 x9_3).f1).length c111_1) ∧ w'.cell? ⟨(ad111.add ((x9_3).toNat * 3)).block, (ad111.add ((x9_3).toNat * 3)).off + 2, none⟩ = some (.slice A111_2 ((rd_T60 l1 x9_3).f2).length c111_2)) (ds := []) #[false, false, false, false, false, false, false, false, false, false, false, false, false, false, false, false, false] (by kernel_rfl) rfl rfl ⟨hx110_0, hx110_1, hx110_2, ((HB.out.cell (World.block_lt_of_cell? w _ hw111_0)).trans hw111_0), ((HB.out.cell (World.block_lt_of_cell? w _ hw111_1)).trans hw111_1), ((HB.out.cell (World.block_lt_of_cell? w _ hw111_2)).trans hw111_2)⟩ (fun hHeld => ?_); refine with_tabW w24_MacwilliamsInverts.tab12 w24_MacwilliamsInverts.bits12 (fun HT_ HW_ => ?_)
   generalize wr.drew = w35 at HO_7 HB HL110_1 HL110_2 HR110_1 HR110_2 HR111_1 HR111_2 hx110_0 hx110_1 hx110_2 hx111_0 hx111_1 hx111_2 hHeld ⊢
   refine zp (i := 0) (N := some 57) HT_ ?_
   refine zp (i := 1) (N := some 58) HT_ ?_
   refine zp (i := 2) (N := some 59) HT_ ?_
   refine zp (i := 4) (N := some 61) HT_ ?_
   refine zp (i := 5) (N := some 62) HT_ ?_
   refine zp (i := 6) (N := some 63) HT_ ?_
   refine zp (i := 8) (N := some 65) HT_ ?_
   refine zp (i := 9) (N := some 66) HT_ ?_
   refine zp (i := 10) (N := some 67) HT_ ?_
   refine zp (i := 11) (N := some 68) HT_ ?_
   refine zp (i := 12) (N := some 69) HT_ ?_
   refine take_ (i := 3) (N := some 60) (v := ?_) (a' := ?_) #[true, true, true, true, true, true, true, false, true, true, true, true, true, false, false, false, false] rfl rfl (take_ofW HT_.out HW_.out (by kernel_rfl)) (fun _ _ _ h => h) (Or.inl ⟨by rfl, ?_⟩) hHeld ?_ ?_
   rotate_left
   · rintro w' ⟨s0, s1, s2, s3, s4, s5⟩
     go_simp
     with_reducible rfl
   rotate_left
   · simp only [Act.put, List.setIfInBounds_toArray, List.set_cons_zero, List.set_cons_succ, i64_w, i32_w]
     rfl
   refine take_ (i := 7) (N := some 64) (v := ?_) (a' := ?_) #[true, true, true, true, true, true, true, true, true, true, true, true, true, false, false, false, false] rfl rfl (take_ofW HT_.out HW_.out (by kernel_rfl)) (fun _ _ _ h => h) (Or.inl ⟨by rfl, ?_⟩) hHeld ?_ ?_
   rotate_left
   · rintro w' ⟨s0, s1, s2, s3, s4, s5⟩
     go_simp
     with_reducible rfl
   rotate_left
   · simp only [Act.put, List.setIfInBounds_toArray, List.set_cons_zero, List.set_cons_succ, i64_w, i32_w]
     rfl
   refine one_ (i := 13) (N := some 70) #[true, true, true, true, true, true, true, true, true, true, true, true, true, true, false, false, false] rfl rfl (one_of HT_.out (by kernel_rfl)) (by decide) (fun K hK => ?_)
   refine goes_ Try.func54 (by kernel_rfl) rfl #[.int .i64 (wrap64 (a0)), .int .i64 (wrap64 ((l1.length : Int) - 1))] (by rfl) rfl rfl (by (try simp only [List.map_toArray, List.map_cons, List.map_nil]); first | done | rfl | (simp only [List.length_drop, List.length_take]; rfl)) ?_
   with_reducible refine (w24_pow.calls k3 (wrap64 (a0)) (wrap64 ((l1.length : Int) - 1)) t112 t113 t116 _ A22.out).mono ?_
   rintro e w37 ⟨v114, v117, rfl, ho0, ho1, hb⟩
   have HS0_ := (hb.cell (World.block_lt_of_cell? _ _ (hHeld.1))).trans (hHeld.1)
   have HS1_ := (hb.cell (World.block_lt_of_cell? _ _ (hHeld.2.1))).trans (hHeld.2.1)
   have HS2_ := (hb.cell (World.block_lt_of_cell? _ _ (hHeld.2.2.1))).trans (hHeld.2.2.1)
   refine ⟨_, rfl, ?_⟩
   replace HO_7 := Aside0.mk (Kd.N_mono (Kd.N_told (Kd.N_told (Kd.N_old (zN HO_7.out) hb) (Kd.R_base ho0)) (Kd.R_base ho1)) (fun _ h_ => h_.1))
   replace HL110_1 := yVt HL110_1 hb ho0 ho1
   replace HL110_2 := yVt HL110_2 hb ho0 ho1
   have HO115 := yRl ho0 HB
   have HO118 := yRl ho1 HB
   (try replace HR110_1 := yCb HR110_1 hb)
   (try replace HR110_2 := yCb HR110_2 hb)
   replace HB := yS HB hb
   (try clear hb)
   (try clear ho0)
   (try clear ho1)
   obtain ⟨Ao38, co38, eo38⟩ := Kd.R_slice HO115.out
   (first | subst eo38 | (injection eo38 with f1_ f2_ f3_; have f4_ := f1_.symm; have f5_ := f3_.symm; clear f1_ f2_ f3_; subst f4_; subst f5_))
   obtain ⟨Ao39, co39, eo39⟩ := Kd.R_slice HO118.out
   (first | subst eo39 | (injection eo39 with f1_ f2_ f3_; have f4_ := f1_.symm; have f5_ := f3_.symm; clear f1_ f2_ f3_; subst f4_; subst f5_))
   refine hK.out _ _ ⟨HS0_, HS1_, HS2_, ((HB.out.cell (World.block_lt_of_cell? w _ hw111_0)).trans hw111_0), ((HB.out.cell (World.block_lt_of_cell? w _ hw111_1)).trans hw111_1), ((HB.out.cell (World.block_lt_of_cell? w _ hw111_2)).trans hw111_2)⟩ (fun hHeld => ?_)
   clear hK K
   refine norm_ (a' := ?_) ?_ ?_
   rotate_left
   · show Act.put _ (some 70) _ = _
     simp only [Act.put, List.setIfInBounds_toArray, List.set_cons_zero, List.set_cons_succ, i64_w, i32_w]
     rfl
   refine one_ (i := 14) (N := some 71) #[true, true, true, true, true, true, true, true, true, true, true, true, true, true, true, false, false] rfl rfl (one_of HT_.out (by kernel_rfl)) (by decide) (fun K hK => ?_)
   refine goes_ Try.func51 (by kernel_rfl) rfl #[.agg #[.bool ((rd_T60 l1 x9_3).f0), .slice A111_1 ((rd_T60 l1 x9_3).f1).length c111_1, .slice A111_2 ((rd_T60 l1 x9_3).f2).length c111_2], .agg #[.bool t112, .slice Ao38 t113.length co38, .slice Ao39 t116.length co39]] (by rfl) rfl rfl (by (try simp only [List.map_toArray, List.map_cons, List.map_nil]); first | done | rfl | (simp only [List.length_drop, List.length_take]; rfl)) ?_
   with_reducible refine (r2_Mul.calls k3 ((rd_T60 l1 x9_3).f0) _ _ ((rd_T60 l1 x9_3).f1) _ _ ((rd_T60 l1 x9_3).f2) t112 _ _ t113 _ _ t116 t119 t120 t123 _ ?side1 ?side2 ?side3 ?side4 ?side5 ?side6 ?side7 ?side8 A23.out).mono ?_
   (case side1 => exact zC (Kd.C_below HR111_1.out HB.out))
   (case side2 => exact HC111_1.out)
   (case side3 => exact zC (Kd.C_below HR111_2.out HB.out))
   (case side4 => exact HC111_2.out)
   (case side5 => exact zC (Kd.R_reads' HO115.out).2.2)
   (case side6 => exact (Kd.R_reads' HO115.out).2.1)
   (case side7 => exact zC (Kd.R_reads' HO118.out).2.2)
   (case side8 => exact (Kd.R_reads' HO118.out).2.1)
   rintro e w40 ⟨v121, v124, rfl, ho0, ho1, hb⟩
   have HS0_ := (hb.cell (World.block_lt_of_cell? _ _ (hHeld.1))).trans (hHeld.1)
   have HS1_ := (hb.cell (World.block_lt_of_cell? _ _ (hHeld.2.1))).trans (hHeld.2.1)
   have HS2_ := (hb.cell (World.block_lt_of_cell? _ _ (hHeld.2.2.1))).trans (hHeld.2.2.1)
   refine ⟨_, rfl, ?_⟩
   replace HO_7 := Aside0.mk (Kd.N_mono (Kd.N_told (Kd.N_told (Kd.N_old (zN HO_7.out) hb) (Kd.R_base ho0)) (Kd.R_base ho1)) (fun _ h_ => h_.1))
   replace HL110_1 := yVt HL110_1 hb ho0 ho1
   replace HL110_2 := yVt HL110_2 hb ho0 ho1
   replace ho0 := yn ho0 HO115
   replace ho0 := yn ho0 HO118
   have HO122 := yRl ho0 HB
   replace ho1 := yn ho1 HO115
   replace ho1 := yn ho1 HO118
   have HO125 := yRl ho1 HB
   replace HO115 := yRt HO115 hb ho0 ho1
   replace HO118 := yRt HO118 hb ho0 ho1
   (try replace HR110_1 := yCb HR110_1 hb)
   (try replace HR110_2 := yCb HR110_2 hb)
   replace HB := yS HB hb
   (try clear hb)
   (try clear ho0)
   (try clear ho1)
   obtain ⟨Ao41, co41, eo41⟩ := Kd.R_slice HO122.out
   (first | subst eo41 | (injection eo41 with f1_ f2_ f3_; have f4_ := f1_.symm; have f5_ := f3_.symm; clear f1_ f2_ f3_; subst f4_; subst f5_))
   obtain ⟨Ao42, co42, eo42⟩ := Kd.R_slice HO125.out
   (first | subst eo42 | (injection eo42 with f1_ f2_ f3_; have f4_ := f1_.symm; have f5_ := f3_.symm; clear f1_ f2_ f3_; subst f4_; subst f5_))
   refine hK.out _ _ ⟨HS0_, HS1_, HS2_, ((HB.out.cell (World.block_lt_of_cell? w _ hw111_0)).trans hw111_0), ((HB.out.cell (World.block_lt_of_cell? w _ hw111_1)).trans hw111_1), ((HB.out.cell (World.block_lt_of_cell? w _ hw111_2)).trans hw111_2)⟩ (fun hHeld => ?_)
   clear hK K
   refine norm_ (a' := ?_) ?_ ?_
   rotate_left
   · show Act.put _ (some 71) _ = _
     simp only [Act.put, List.setIfInBounds_toArray, List.set_cons_zero, List.set_cons_succ, i64_w, i32_w]
     rfl
   refine one_ (i := 15) (N := some 72) #[true, true, true, true, true, true, true, true, true, true, true, true, true, true, true, true, false] rfl rfl (one_of HT_.out (by kernel_rfl)) (by decide) (fun K hK => ?_)
   refine goes_ Try.func45 (by kernel_rfl) rfl #[.agg #[.bool ((rd_T60 t106 x9_3).f0), .slice A110_1 ((rd_T60 t106 x9_3).f1).length c110_1, .slice A110_2 ((rd_T60 t106 x9_3).f2).length c110_2], .agg #[.bool t119, .slice Ao41 t120.length co41, .slice Ao42 t123.length co42]] (by rfl) rfl rfl (by (try simp only [List.map_toArray, List.map_cons, List.map_nil]); first | done | rfl | (simp only [List.length_drop, List.length_take]; rfl)) ?_
   with_reducible refine (r2_Same.calls k3 ((rd_T60 t106 x9_3).f0) _ _ ((rd_T60 t106 x9_3).f1) _ _ ((rd_T60 t106 x9_3).f2) t119 _ _ t120 _ _ t123 false _ ?side1 ?side2 ?side3 ?side4 ?side5 ?side6 ?side7 ?side8 A24.out).mono ?_
   (case side1 => repeat (first | exact (zCr HR110_1.out) | (with_reducible refine Kd.C_alloc ?_ _) | (with_reducible refine Kd.C_drewN ?_ _) | (with_reducible refine Kd.C_drew ?_)))
   (case side2 => exact HC110_1.out)
   (case side3 => repeat (first | exact (zCr HR110_2.out) | (with_reducible refine Kd.C_alloc ?_ _) | (with_reducible refine Kd.C_drewN ?_ _) | (with_reducible refine Kd.C_drew ?_)))
   (case side4 => exact HC110_2.out)
   (case side5 => exact zC (Kd.R_reads' HO122.out).2.2)
   (case side6 => exact (Kd.R_reads' HO122.out).2.1)
   (case side7 => exact zC (Kd.R_reads' HO125.out).2.2)
   (case side8 => exact (Kd.R_reads' HO125.out).2.1)
   rintro e w43 ⟨rfl, hb⟩
   have HS0_ := (hb.cell (World.block_lt_of_cell? _ _ (hHeld.1))).trans (hHeld.1)
   have HS1_ := (hb.cell (World.block_lt_of_cell? _ _ (hHeld.2.1))).trans (hHeld.2.1)
   have HS2_ := (hb.cell (World.block_lt_of_cell? _ _ (hHeld.2.2.1))).trans (hHeld.2.2.1)
   refine ⟨_, rfl, ?_⟩
   replace HO_7 := yNb HO_7 hb
   replace HL110_1 := yVb HL110_1 hb
   replace HL110_2 := yVb HL110_2 hb
   replace HO115 := yRb HO115 hb
   replace HO118 := yRb HO118 hb
   replace HO122 := yRb HO122 hb
   replace HO125 := yRb HO125 hb
   (try replace HR110_1 := yCb HR110_1 hb)
   (try replace HR110_2 := yCb HR110_2 hb)
   replace HB := yS HB hb
   (try clear hb)
   refine hK.out _ _ ⟨HS0_, HS1_, HS2_, ((HB.out.cell (World.block_lt_of_cell? w _ hw111_0)).trans hw111_0), ((HB.out.cell (World.block_lt_of_cell? w _ hw111_1)).trans hw111_1), ((HB.out.cell (World.block_lt_of_cell? w _ hw111_2)).trans hw111_2)⟩ (fun hHeld => ?_)
   clear hK K
   refine norm_ (a' := ?_) ?_ ?_
   rotate_left
   · show Act.put _ (some 72) _ = _
     simp only [Act.put, List.setIfInBounds_toArray, List.set_cons_zero, List.set_cons_succ, i64_w, i32_w]
     rfl
   refine zp (i := 16) (N := some 73) HT_ ?_
   refine done_ (done_of HT_.out (by kernel_rfl)) ?_
   try go_wp2
   go_ret
   exact ⟨zE, zB HB.out⟩
 obtain rfl := Option.some.inj H
 go_wp2
 go_ret
 exact ⟨zE, zB HB.out⟩
end Go.Proofs.Ytifkbghnmhineaa.PAll
section
set_option linter.unusedVariables false
set_option linter.unusedSimpArgs false
namespace Mw
open Go Go.RowKit Go.Proofs.YtifkbghnmhineaaW.PrintWords
def Ev {α : Type} (g : Nat → Option α) (r : α) : Prop := ∃ K, ∀ k, K ≤ k → g k = some r
theorem Ev.of {α : Type} {g : Nat → Option α} {r : α} (h : ∀ k, g k = some r) : Ev g r := ⟨0, fun k _ => h k⟩
theorem Ev.some {α : Type} (r : α) : Ev (fun _ => some r) r := ⟨0, fun _ _ => rfl⟩
theorem Ev.succ {α : Type} {g : Nat → Option α} {r : α} (h : Ev (fun k => g (k + 1)) r) : Ev g r := by
  obtain ⟨K, h⟩ := h
  refine ⟨K + 1, fun k hk => ?_⟩
  obtain ⟨m, rfl⟩ : ∃ m, k = m + 1 := ⟨k - 1, by omega⟩
  exact h m (by omega)
theorem Ev.bind {α β : Type} {g : Nat → Option α} {f : Nat → α → Option β} {a : α} {r : β} (hg : Ev g a) (hf : Ev (fun k => f k a) r) : Ev (fun k => (g k).bind (f k)) r := by
  obtain ⟨K, hg⟩ := hg
  obtain ⟨L, hf⟩ := hf
  refine ⟨K + L, fun k hk => ?_⟩
  show (g k).bind (f k) = _
  rw [hg k (by omega)]
  exact hf k (by omega)
theorem Ev.cast {α : Type} {g : Nat → Option α} {r s : α} (h : Ev g r) (e : r = s) : Ev g s := e ▸ h
theorem Ev.get {α : Type} {g : Nat → Option α} {r : α} (h : Ev g r) : ∃ k, g k = Option.some r := by
  obtain ⟨K, h⟩ := h
  exact ⟨K, h K (Nat.le_refl K)⟩
theorem w64 {x : Int} (h0 : -9223372036854775808 ≤ x) (h1 : x ≤ 9223372036854775807) : wrap64 x = x := by unfold wrap64; omega
theorem wn {x : Int} {n : Nat} (h : x = (n : Int)) (hn : n < 9223372036854775808) : wrap64 x = (n : Int) := by subst h; exact w64 (by omega) (by omega)
theorem u64w {x : Int} (h0 : 0 ≤ x) (h1 : x < 18446744073709551616) : IntKind.u64.wrap x = x := by
  simp [IntKind.wrap, IntKind.bits, IntKind.signed]; omega
theorem u64m (x : Int) : IntKind.u64.wrap x = x % 18446744073709551616 := by
  simp [IntKind.wrap, IntKind.bits, IntKind.signed]
def bp : Nat → Nat
  | 0 => 1
  | n + 1 => 4294967296 * bp n
theorem bp_pos : ∀ n, 0 < bp n
  | 0 => by decide
  | n + 1 => by have := bp_pos n; simp only [bp]; omega
theorem bp_mono : ∀ {m n : Nat}, m ≤ n → bp m ≤ bp n := by
  intro m n h
  induction n with
  | zero => have : m = 0 := by omega
            subst this; exact Nat.le_refl _
  | succ n ih =>
    by_cases e : m = n + 1
    · subst e; exact Nat.le_refl _
    · have := ih (by omega); simp only [bp]; omega
theorem bp_add : ∀ (m n : Nat), bp (m + n) = bp m * bp n
  | m, 0 => by simp [bp]
  | m, n + 1 => by rw [← Nat.add_assoc, bp, bp, bp_add m n, Nat.mul_left_comm]
def lv : List Int → Int
  | [] => 0
  | a :: l => a + 4294967296 * lv l
def Lm (l : List Int) : Prop := ∀ x ∈ l, 0 ≤ x ∧ x < 4294967296
def dg (n : Nat) : List Int := if n = 0 then [] else ((n % 4294967296 : Nat) : Int) :: dg (n / 4294967296)
termination_by n
decreasing_by omega
theorem dg_zero : dg 0 = [] := by rw [dg]; rfl
theorem dg_pos {n : Nat} (h : n ≠ 0) : dg n = ((n % 4294967296 : Nat) : Int) :: dg (n / 4294967296) := by rw [dg, if_neg h]
theorem lv_dg : ∀ n : Nat, lv (dg n) = n := by
  intro n
  induction n using Nat.strongRecOn with
  | _ n ih =>
    by_cases h : n = 0
    · subst h; rw [dg_zero]; rfl
    · rw [dg_pos h, lv, ih _ (by omega)]; omega
theorem lm_nil : Lm [] := by intro x hx; simp at hx
theorem lm_cons {a : Int} {l : List Int} : Lm (a :: l) ↔ (0 ≤ a ∧ a < 4294967296) ∧ Lm l := by
  constructor
  · intro h; exact ⟨h a (by simp), fun x hx => h x (by simp [hx])⟩
  · intro h x hx
    exact (List.mem_cons.mp hx).elim (fun e => e ▸ h.1) (fun e => h.2 x e)
theorem lm_dg : ∀ n : Nat, Lm (dg n) := by
  intro n
  induction n using Nat.strongRecOn with
  | _ n ih =>
    by_cases h : n = 0
    · subst h; rw [dg_zero]; exact lm_nil
    · rw [dg_pos h, lm_cons]; exact ⟨by omega, ih _ (by omega)⟩
theorem lv_nonneg : ∀ {l : List Int}, Lm l → 0 ≤ lv l
  | [], _ => Int.le_refl 0
  | a :: l, h => by have := lv_nonneg (lm_cons.mp h).2; have := (lm_cons.mp h).1; simp only [lv]; omega
theorem lv_lt : ∀ {l : List Int}, Lm l → lv l < bp l.length
  | [], _ => by simp [lv, bp]
  | a :: l, h => by
    have h1 := lv_lt (lm_cons.mp h).2
    have h2 := (lm_cons.mp h).1
    simp only [lv, List.length_cons, bp]
    omega
theorem lv_append : ∀ (l m : List Int), lv (l ++ m) = lv l + (bp l.length : Int) * lv m
  | [], m => by simp [lv, bp]
  | a :: l, m => by
    simp only [List.cons_append, lv, List.length_cons, bp, Int.natCast_mul]
    rw [lv_append l m, Int.mul_add, Int.mul_assoc]
    omega
theorem lv_rep : ∀ n : Nat, lv (List.replicate n 0) = 0
  | 0 => rfl
  | n + 1 => by rw [List.replicate_succ, lv, lv_rep n]; rfl
theorem lm_rep (n : Nat) : Lm (List.replicate n 0) := by
  intro x hx; rw [(List.mem_replicate.mp hx).2]; omega
theorem dg_lv : ∀ {l : List Int}, Lm l → (∀ h : l ≠ [], l.getLast h ≠ 0) → dg (lv l).toNat = l
  | [], _, _ => by simp only [lv]; exact dg_zero
  | a :: l, h, hl => by
    have h1 := lm_cons.mp h
    have h0 := lv_nonneg h1.2
    have ih : l ≠ [] → dg (lv l).toNat = l := fun hne => dg_lv h1.2 (fun hh => by
      have := hl (by simp)
      rwa [List.getLast_cons hh] at this)
    by_cases hne : l = []
    · subst hne
      have ha := hl (by simp)
      simp only [List.getLast_singleton] at ha
      simp only [lv]
      rw [dg_pos (by omega), show (a + 4294967296 * 0).toNat / 4294967296 = 0 by omega, dg_zero]
      congr 1
      omega
    · have ih := ih hne
      have hpos : lv l ≠ 0 := by
        intro e
        rw [e] at ih
        rw [show (0 : Int).toNat = 0 from rfl, dg_zero] at ih
        exact hne ih.symm
      simp only [lv]
      rw [dg_pos (by omega), show (a + 4294967296 * lv l).toNat / 4294967296 = (lv l).toNat by omega, ih]
      congr 1
      omega
theorem dg_last : ∀ (n : Nat) (h : dg n ≠ []), (dg n).getLast h ≠ 0 := by
  intro n
  induction n using Nat.strongRecOn with
  | _ n ih =>
    intro h
    by_cases h0 : n = 0
    · subst h0; exact absurd dg_zero h
    · have e := dg_pos h0
      by_cases hd : n / 4294967296 = 0
      · rw [hd, dg_zero] at e
        simp only [e, List.getLast_singleton]
        omega
      · have hne : dg (n / 4294967296) ≠ [] := by rw [dg_pos hd]; simp
        have := ih (n / 4294967296) (by omega) hne
        simp only [e]
        rw [List.getLast_cons hne]
        exact this
theorem dg_inj {m n : Nat} (h : dg m = dg n) : m = n := by
  have := lv_dg m
  rw [h, lv_dg] at this
  omega
theorem dg_len_le {n m : Nat} (h : n < bp m) : (dg n).length ≤ m := by
  induction m generalizing n with
  | zero => have : n = 0 := by simp only [bp] at h; omega
            subst this; rw [dg_zero]; simp
  | succ m ih =>
    by_cases h0 : n = 0
    · subst h0; rw [dg_zero]; simp
    · rw [dg_pos h0, List.length_cons]
      have := ih (n := n / 4294967296) (by simp only [bp] at h; omega)
      omega
theorem dg_lt_len (n : Nat) : n < bp (dg n).length := by
  have h := lv_lt (lm_dg n)
  rw [lv_dg] at h
  omega
theorem dg_len_zero {n : Nat} : (dg n).length = 0 ↔ n = 0 := by
  constructor
  · intro h
    by_cases h0 : n = 0
    · exact h0
    · rw [dg_pos h0] at h; simp at h
  · intro h; subst h; rw [dg_zero]; rfl
theorem dg_len_mono {m n : Nat} (h : m ≤ n) : (dg m).length ≤ (dg n).length := dg_len_le (Nat.lt_of_le_of_lt h (dg_lt_len n))
theorem dg_small {n : Nat} (h0 : n ≠ 0) (h : n < 4294967296) : dg n = [(n : Int)] := by
  rw [dg_pos h0, show n / 4294967296 = 0 by omega, dg_zero, show n % 4294967296 = n by omega]
theorem dg_one : dg 1 = [1] := dg_small (by decide) (by decide)
theorem lv_le_of_len {l : List Int} (h : Lm l) {m : Nat} (hm : l.length ≤ m) : (lv l).toNat < bp m := by
  have h1 := lv_lt h
  have h2 := bp_mono hm
  have h3 := lv_nonneg h
  omega
theorem rd_lt {l : List Int} {i : Nat} (h : i < l.length) : rd l (i : Int) = l[i] := by
  unfold rd
  simp [List.getD_eq_getElem?_getD, h]
theorem rd_ge {l : List Int} {i : Nat} (h : l.length ≤ i) : rd l (i : Int) = 0 := by
  unfold rd
  simp [List.getD_eq_getElem?_getD, h]
theorem rd_lm {l : List Int} (hl : Lm l) (i : Int) : 0 ≤ rd l i ∧ rd l i < 4294967296 := by
  unfold rd
  rw [List.getD_eq_getElem?_getD]
  by_cases h : i.toNat < l.length
  · rw [List.getElem?_eq_getElem h]
    exact hl _ (List.getElem_mem h)
  · rw [List.getElem?_eq_none (by omega)]; simp
theorem take_succ_rd {l : List Int} {i : Nat} (h : i < l.length) : l.take (i + 1) = l.take i ++ [rd l (i : Int)] := by
  rw [List.take_succ_eq_append_getElem h, rd_lt h]
theorem lv_take_succ {l : List Int} {i : Nat} (h : i < l.length) : lv (l.take (i + 1)) = lv (l.take i) + (bp i : Int) * rd l (i : Int) := by
  rw [take_succ_rd h, lv_append, List.length_take, Nat.min_eq_left (by omega)]
  simp [lv]
theorem lv_set : ∀ {l : List Int} {i : Nat} (v : Int), i < l.length → lv (l.set i v) = lv l + (bp i : Int) * (v - rd l (i : Int))
  | [], i, v, h => by simp at h
  | a :: l, 0, v, _ => by
    rw [show ((0 : Nat) : Int) = ((0 : Nat) : Int) from rfl, rd_lt (by simp)]
    simp only [List.set_cons_zero, lv, List.getElem_cons_zero, bp]; omega
  | a :: l, i + 1, v, h => by
    have h' : i < l.length := by simpa using h
    have ih := lv_set v h'
    rw [rd_lt h'] at ih
    rw [rd_lt h]
    simp only [List.set_cons_succ, lv, List.getElem_cons_succ, bp, Int.natCast_mul]
    rw [ih, Int.mul_add, Int.mul_assoc]
    omega
theorem lm_set {l : List Int} {i : Nat} {v : Int} (h : Lm l) (h0 : 0 ≤ v) (h1 : v < 4294967296) : Lm (l.set i v) := by
  intro x hx
  rcases List.mem_or_eq_of_mem_set hx with e | e
  · exact h x e
  · subst e; exact ⟨h0, h1⟩
theorem rd_set_ne {l : List Int} {i j : Nat} (v : Int) (h : i ≠ j) : rd (l.set i v) (j : Int) = rd l (j : Int) := by
  unfold rd
  simp [List.getD_eq_getElem?_getD, h]
theorem lm_take {l : List Int} (h : Lm l) (n : Nat) : Lm (l.take n) := fun x hx => h x (List.mem_of_mem_take hx)
theorem lm_append {l m : List Int} (h1 : Lm l) (h2 : Lm m) : Lm (l ++ m) := by
  intro x hx
  rcases List.mem_append.mp hx with e | e
  · exact h1 x e
  · exact h2 x e
theorem dg_take {l : List Int} (h : Lm l) {n : Nat} (hn : n ≤ l.length) (hz : ∀ i : Nat, n ≤ i → i < l.length → rd l (i : Int) = 0) (hl : n = 0 ∨ rd l ((n - 1 : Nat) : Int) ≠ 0) :
    l.take n = dg (lv l).toNat := by
  have hv : lv l = lv (l.take n) := by
    have : ∀ m : Nat, n + m ≤ l.length → lv (l.take (n + m)) = lv (l.take n) := by
      intro m
      induction m with
      | zero => intro _; rfl
      | succ m ih =>
        intro hm
        rw [← Nat.add_assoc, lv_take_succ (by omega), hz (n + m) (by omega) (by omega), ih (by omega)]; simp
    have := this (l.length - n) (by omega)
    rw [show n + (l.length - n) = l.length by omega, List.take_of_length_le (Nat.le_refl _)] at this
    exact this
  rw [hv]
  symm
  refine dg_lv (lm_take h n) (fun hne => ?_)
  rcases hl with e | e
  · subst e; simp at hne
  · rw [List.getLast_eq_getElem]
    simp only [List.length_take, Nat.min_eq_left hn]
    have hp : n ≠ 0 := by intro e0; subst e0; simp at hne
    rw [List.getElem_take]
    rw [rd_lt (by omega)] at e
    exact e
theorem lv_nil : lv [] = 0 := rfl
theorem lv_cons (a : Int) (l : List Int) : lv (a :: l) = a + 4294967296 * lv l := rfl
theorem bp_zero : bp 0 = 1 := rfl
theorem bp_succ (n : Nat) : bp (n + 1) = 4294967296 * bp n := rfl
attribute [irreducible] lv bp
end Mw
end
section
set_option linter.unusedVariables false
set_option linter.unusedSimpArgs false
namespace Mw
open Go Go.RowKit Go.Proofs.YtifkbghnmhineaaW.PrintWords Go.Proofs.YtifkbghnmhineaaW.PrintLast Go.Proofs.YtifkbghnmhineaaW.PrintMore Go.Proofs.Ytifkbghnmhineaa.PAll
theorem short_loop {l : List Int} (hl : Lm l) (hlen : l.length < 1099511627776) : ∀ n : Nat, n ≤ l.length → (∀ i : Nat, n ≤ i → i < l.length → rd l (i : Int) = 0) →
    Ev (fun k => nat_short.l0 k l (n : Int)) (dg (lv l).toNat) := by
  intro n
  induction n with
  | zero =>
    intro hn hz
    refine Ev.succ ?_
    simp only [nat_short.l0, if_neg (show ¬ ((0 : Nat) : Int) > 0 by omega), if_pos (show (0 : Int) ≤ ((0 : Nat) : Int) by omega), if_pos (show ((0 : Nat) : Int) ≤ (l.length : Int) by omega)]
    refine Ev.cast (Ev.some _) ?_
    rw [show (((0 : Nat) : Int)).toNat = 0 from rfl]
    exact dg_take hl hn hz (.inl rfl)
  | succ n ih =>
    intro hn hz
    refine Ev.succ ?_
    have e : wrap64 (((n + 1 : Nat) : Int) - 1) = (n : Int) := by rw [w64 (by omega) (by omega)]; omega
    by_cases h : rd l (n : Int) = 0
    · simp only [nat_short.l0, e, if_pos (show ((n + 1 : Nat) : Int) > 0 by omega), if_pos (show (0 : Int) ≤ (n : Int) by omega), if_pos (show (n : Int) < (l.length : Int) by omega), if_pos h]
      exact ih (by omega) (fun i h1 h2 => by
        by_cases e2 : i = n
        · subst e2; exact h
        · exact hz i (by omega) h2)
    · simp only [nat_short.l0, e, if_pos (show ((n + 1 : Nat) : Int) > 0 by omega), if_pos (show (0 : Int) ≤ (n : Int) by omega), if_pos (show (n : Int) < (l.length : Int) by omega), if_neg h, if_pos (show (0 : Int) ≤ ((n + 1 : Nat) : Int) by omega), if_pos (show ((n + 1 : Nat) : Int) ≤ (l.length : Int) by omega)]
      refine Ev.cast (Ev.some _) ?_
      rw [show (((n + 1 : Nat) : Int)).toNat = n + 1 by omega]
      exact dg_take hl hn hz (.inr h)
theorem short_ev {l : List Int} (hl : Lm l) (hlen : l.length < 1099511627776) : Ev (fun k => nat_short.f k l) (dg (lv l).toNat) := by
  simp only [nat_short.f]
  exact short_loop hl hlen l.length (Nat.le_refl _) (fun i h1 h2 => by omega)
theorem dg_len_of {l : List Int} (hl : Lm l) : (dg (lv l).toNat).length ≤ l.length := dg_len_le (lv_le_of_len hl (Nat.le_refl _))
theorem trim_ev {l : List Int} (hl : Lm l) (hlen : l.length < 1099511627776) : Ev (fun k => nat_Trim.f k l) (dg (lv l).toNat) := by
  simp only [nat_Trim.f]
  refine Ev.bind (short_ev hl hlen) ?_
  have := dg_len_of hl
  simp only [List.length_nil, List.nil_append, if_pos (show 0 + (dg (lv l).toNat).length < 35184372088832 by omega)]
  exact Ev.some _
theorem of_ev {n : Nat} (hn : n < 18446744073709551616) : Ev (fun k => nat_Of.f k (n : Int)) (dg n) := by
  simp only [nat_Of.f]
  have hl : Lm [(n : Int) % 4294967296, ((n : Int) / 4294967296) % 4294967296] := by
    rw [lm_cons, lm_cons]
    exact ⟨by omega, by omega, lm_nil⟩
  refine Ev.bind (trim_ev hl (by simp)) ?_
  refine Ev.cast (Ev.some _) ?_
  congr 1
  simp only [lv_cons, lv_nil]
  omega
theorem plus_loop {a b : List Int} (ha : Lm a) (hb : Lm b) (hab : b.length ≤ a.length) (hlen : a.length < 549755813888) : ∀ (d : Nat) (i : Nat) (o : List Int) (c : Int), i + d = a.length → o.length = a.length + 1 → Lm o →
    0 ≤ c → c ≤ 1 → (∀ j : Nat, i ≤ j → rd o (j : Int) = 0) → Aside0 (lv o + (bp i : Int) * c = lv (a.take i) + lv (b.take i)) →
    Ev (fun k => nat_plus.l0 k a b o c (a.length : Int) (i : Int)) (dg (lv a + lv b).toNat) := by
  intro d
  induction d with
  | zero =>
    intro i o c hi ho hol hc0 hc1 hz hv
    have hi : i = a.length := by omega
    subst hi
    refine Ev.succ ?_
    simp only [nat_plus.l0, if_neg (show ¬ ((a.length : Nat) : Int) < (a.length : Int) by omega), if_pos (show (0 : Int) ≤ (a.length : Int) by omega), if_pos (show (a.length : Int) < (o.length : Int) by omega)]
    have hs : Lm (o.set ((a.length : Int) : Int).toNat (c % 4294967296)) := lm_set hol (by omega) (by omega)
    refine Ev.bind (short_ev hs (by rw [List.length_set]; omega)) ?_
    refine Ev.cast (Ev.some _) ?_
    congr 2
    rw [Int.toNat_natCast, lv_set _ (by omega), hz _ (Nat.le_refl _), show c % 4294967296 = c by omega, Int.sub_zero, hv.out, List.take_of_length_le (Nat.le_refl _), List.take_of_length_le hab]
  | succ d ih =>
    intro i o c hi ho hol hc0 hc1 hz hv
    have hia : i < a.length := by omega
    refine Ev.succ ?_
    have ra := rd_lm ha (i : Int)
    have rb := rd_lm hb (i : Int)
    have e1 : wrap64 ((i : Int) + 1) = ((i + 1 : Nat) : Int) := by rw [w64 (by omega) (by omega)]; omega
    have step : ∀ s : Int, 0 ≤ s → s ≤ 8589934591 → s = rd a (i : Int) + c + rd b (i : Int) →
        Ev (fun k => nat_plus.l0 k a b (o.set ((i : Int)).toNat (s % 4294967296)) (s / 4294967296) (a.length : Int) ((i + 1 : Nat) : Int)) (dg (lv a + lv b).toNat) := by
      intro s hs0 hs1 hs
      refine ih (i + 1) _ _ (by omega) (by rw [List.length_set]; exact ho) (lm_set hol (by omega) (by omega)) (by omega) (by omega) (fun j hj => ?_) ?_
      · rw [Int.toNat_natCast, rd_set_ne _ (by omega)]; exact hz j (by omega)
      · refine ⟨?_⟩
        rw [Int.toNat_natCast, lv_set _ (by omega), hz i (Nat.le_refl _), lv_take_succ hia]
        have hbt : lv (b.take (i + 1)) = lv (b.take i) + (bp i : Int) * rd b (i : Int) := by
          by_cases hib : i < b.length
          · exact lv_take_succ hib
          · rw [rd_ge (by omega), List.take_of_length_le (by omega), List.take_of_length_le (by omega)]; simp
        rw [hbt]
        have hdiv : s % 4294967296 + 4294967296 * (s / 4294967296) = rd a (i : Int) + c + rd b (i : Int) := by omega
        have hm := congrArg (fun z => (bp i : Int) * z) hdiv
        simp only [Int.mul_add] at hm
        rw [Int.mul_left_comm] at hm
        rw [Int.sub_zero, bp_succ, Int.natCast_mul, Int.mul_assoc]
        have hv := hv.out
        clear ih hz hdiv hs hs0 hs1 ra rb e1 hc0 hc1
        omega
    by_cases hib : i < b.length
    · have e2 : IntKind.u64.wrap (IntKind.u64.wrap (IntKind.u64.wrap (rd a (i : Int)) + c) + IntKind.u64.wrap (rd b (i : Int))) = rd a (i : Int) + c + rd b (i : Int) := by
        rw [u64w ra.1 (by omega), u64w rb.1 (by omega), u64w (x := rd a (i : Int) + c) (by omega) (by omega), u64w (x := rd a (i : Int) + c + rd b (i : Int)) (by omega) (by omega)]
      simp only [nat_plus.l0, e1, e2, if_pos (show (i : Int) < (a.length : Int) by omega), if_pos (show (0 : Int) ≤ (i : Int) by omega), if_pos (show (i : Int) < (b.length : Int) by omega), if_pos (show (i : Int) < (o.length : Int) by omega)]
      exact step (rd a (i : Int) + c + rd b (i : Int)) (by omega) (by omega) rfl
    · have e2 : IntKind.u64.wrap (IntKind.u64.wrap (rd a (i : Int)) + c) = rd a (i : Int) + c := by
        rw [u64w ra.1 (by omega), u64w (x := rd a (i : Int) + c) (by omega) (by omega)]
      simp only [nat_plus.l0, e1, e2, if_pos (show (i : Int) < (a.length : Int) by omega), if_pos (show (0 : Int) ≤ (i : Int) by omega), if_neg (show ¬ (i : Int) < (b.length : Int) by omega), if_pos (show (i : Int) < (o.length : Int) by omega)]
      exact step (rd a (i : Int) + c) (by omega) (by omega) (by rw [rd_ge (l := b) (by omega)]; omega)
theorem plus_long {a b : List Int} (ha : Lm a) (hb : Lm b) (hab : b.length ≤ a.length) (hlen : a.length < 549755813888) : Ev (fun k => nat_plus.j0 k a b) (dg (lv a + lv b).toNat) := by
  refine Ev.succ ?_
  have e1 : wrap64 ((a.length : Int) + 1) = ((a.length + 1 : Nat) : Int) := by rw [w64 (by omega) (by omega)]; omega
  simp only [nat_plus.j0, e1, Int.toNat_natCast, if_pos (show (0 : Int) ≤ ((a.length + 1 : Nat) : Int) by omega), if_pos (show a.length + 1 ≤ 70368744177664 by omega)]
  exact plus_loop ha hb hab hlen a.length 0 _ 0 (by omega) (by simp) (lm_rep _) (by omega) (by omega) (fun j _ => by
    by_cases h : j < a.length + 1
    · rw [rd_lt (by simpa using h)]; simp
    · exact rd_ge (by simp; omega)) ⟨by rw [lv_rep]; simp [lv_nil]⟩
theorem plus_ev {a b : List Int} (ha : Lm a) (hb : Lm b) (h1 : a.length < 549755813888) (h2 : b.length < 549755813888) : Ev (fun k => nat_plus.f k a b) (dg (lv a + lv b).toNat) := by
  simp only [nat_plus.f]
  by_cases h : (a.length : Int) < (b.length : Int)
  · simp only [if_pos h]
    rw [Int.add_comm]
    exact plus_long hb ha (by omega) h2
  · simp only [if_neg h]
    exact plus_long ha hb (by omega) h1
def lsum : List (List Int) → Int
  | [] => 0
  | a :: l => lv a + lsum l
def Lms (l : List (List Int)) : Prop := ∀ x ∈ l, Lm x ∧ x.length < 1073741824
theorem rd3_lt {l : List (List Int)} {i : Nat} (h : i < l.length) : rd_L3 l (i : Int) = l[i] := by
  unfold rd_L3
  simp [List.getD_eq_getElem?_getD, h]
theorem lsum_take {l : List (List Int)} {i : Nat} (h : i < l.length) : lsum (l.take (i + 1)) = lsum (l.take i) + lv l[i] := by
  have app : ∀ (a b : List (List Int)), lsum (a ++ b) = lsum a + lsum b := by
    intro a
    induction a with
    | nil => intro b; simp [lsum]
    | cons x a ih => intro b; simp only [List.cons_append, lsum]; rw [ih]; omega
  rw [List.take_succ_eq_append_getElem h, app]
  simp [lsum]
theorem lv_dg_toNat {x : Int} (h : 0 ≤ x) : lv (dg x.toNat) = x := by rw [lv_dg]; omega
theorem add_loop {l : List (List Int)} (hl : Lms l) (hlen : l.length < 1073741824) : ∀ (d i : Nat) (s : List Int), i + d = l.length → Lm s → s.length ≤ 1073741824 + i → lv s = lsum (l.take i) →
    Ev (fun k => nat_Add.l0 k s l (l.length : Int) (i : Int)) (dg (lsum l).toNat) := by
  intro d
  induction d with
  | zero =>
    intro i s hi hs hsl hv
    have hi : i = l.length := by omega
    subst hi
    refine Ev.succ ?_
    simp only [nat_Add.l0, if_neg (show ¬ ((l.length : Nat) : Int) < (l.length : Int) by omega)]
    refine Ev.bind (trim_ev hs (by omega)) ?_
    refine Ev.cast (Ev.some _) ?_
    rw [hv, List.take_of_length_le (Nat.le_refl _)]
  | succ d ih =>
    intro i s hi hs hsl hv
    have hil : i < l.length := by omega
    have hx := hl l[i] (List.getElem_mem hil)
    refine Ev.succ ?_
    have e1 : wrap64 ((i : Int) + 1) = ((i + 1 : Nat) : Int) := by rw [w64 (by omega) (by omega)]; omega
    simp only [nat_Add.l0, e1, rd3_lt hil, if_pos (show (i : Int) < (l.length : Int) by omega), if_pos (show (0 : Int) ≤ (i : Int) by omega)]
    refine Ev.bind (short_ev hx.1 (by omega)) ?_
    have h2 := dg_len_of hx.1
    refine Ev.bind (plus_ev hs (lm_dg _) (by omega) (by omega)) ?_
    have h3 : 0 ≤ lv s := lv_nonneg hs
    have h4 : 0 ≤ lv l[i] := lv_nonneg hx.1
    refine ih (i + 1) _ (by omega) (lm_dg _) ?_ ?_
    · rw [lv_dg_toNat h4]
      have h5 := lv_le_of_len hs hsl
      have h6 := lv_le_of_len hx.1 (m := 1073741824 + i) (by omega)
      refine dg_len_le ?_
      rw [show 1073741824 + (i + 1) = (1073741824 + i) + 1 by omega, bp_succ]
      generalize bp (1073741824 + i) = p at *
      omega
    · rw [lv_dg_toNat h4, lv_dg_toNat (by omega), hv, lsum_take hil]
theorem add_ev {l : List (List Int)} (hl : Lms l) (hlen : l.length < 1073741824) : Ev (fun k => nat_Add.f k l) (dg (lsum l).toNat) := by
  simp only [nat_Add.f]
  exact add_loop hl hlen l.length 0 [] (by omega) lm_nil (by simp) (by simp [lv_nil, lsum])
theorem add2_ev {a b : Nat} (ha : (dg a).length < 1073741824) (hb : (dg b).length < 1073741824) : Ev (fun k => nat_Add.f k [dg a, dg b]) (dg (a + b)) := by
  refine Ev.cast (add_ev (l := [dg a, dg b]) (fun x hx => ?_) (by simp)) ?_
  · rcases List.mem_cons.mp hx with e | e
    · exact e ▸ ⟨lm_dg a, ha⟩
    · rw [List.mem_singleton.mp e]; exact ⟨lm_dg b, hb⟩
  · congr 1
    simp only [lsum, lv_dg]
    omega
end Mw
end
section
namespace Mw
def sm : Nat → (Nat → Int) → Int
  | 0, _ => 0
  | n + 1, f => sm n f + f n
theorem sm_congr {n : Nat} {f g : Nat → Int} (h : ∀ i, i < n → f i = g i) : sm n f = sm n g := by
  induction n with
  | zero => rfl
  | succ n ih => simp only [sm]; rw [ih (fun i hi => h i (by omega)), h n (by omega)]
theorem sm_zero {n : Nat} {f : Nat → Int} (h : ∀ i, i < n → f i = 0) : sm n f = 0 := by
  induction n with
  | zero => rfl
  | succ n ih => simp only [sm]; rw [ih (fun i hi => h i (by omega)), h n (by omega)]; rfl
theorem sm_add (n : Nat) (f g : Nat → Int) : sm n (fun i => f i + g i) = sm n f + sm n g := by
  induction n with
  | zero => rfl
  | succ n ih => simp only [sm]; rw [ih]; omega
theorem sm_sub (n : Nat) (f g : Nat → Int) : sm n (fun i => f i - g i) = sm n f - sm n g := by
  induction n with
  | zero => rfl
  | succ n ih => simp only [sm]; rw [ih]; omega
theorem sm_mul (n : Nat) (c : Int) (f : Nat → Int) : sm n (fun i => c * f i) = c * sm n f := by
  induction n with
  | zero => simp [sm]
  | succ n ih => simp only [sm]; rw [ih, Int.mul_add]
theorem sm_mul_right (n : Nat) (c : Int) (f : Nat → Int) : sm n (fun i => f i * c) = sm n f * c := by
  induction n with
  | zero => simp [sm]
  | succ n ih => simp only [sm]; rw [ih, Int.add_mul]
theorem sm_head (n : Nat) (f : Nat → Int) : sm (n + 1) f = f 0 + sm n (fun i => f (i + 1)) := by
  induction n with
  | zero => simp [sm]
  | succ n ih => rw [sm, ih]; simp only [sm]; omega
theorem sm_swap (m n : Nat) (f : Nat → Nat → Int) : sm m (fun i => sm n (fun j => f i j)) = sm n (fun j => sm m (fun i => f i j)) := by
  induction m with
  | zero => simp only [sm]; exact (sm_zero (fun _ _ => rfl)).symm
  | succ m ih => simp only [sm]; rw [ih, sm_add]
theorem sm_single {n a : Nat} {f : Nat → Int} (ha : a < n) (h : ∀ i, i < n → i ≠ a → f i = 0) : sm n f = f a := by
  induction n with
  | zero => omega
  | succ n ih =>
    simp only [sm]
    by_cases e : a = n
    · subst e; rw [sm_zero (fun i hi => h i (by omega) (by omega))]; omega
    · rw [ih (by omega) (fun i hi hne => h i (by omega) hne), h n (by omega) (by omega)]; omega
theorem poly_zero : ∀ (n : Nat) (c : Nat → Int), (∀ z : Int, z ≠ 0 → sm n (fun i => c i * z ^ i) = 0) → ∀ i, i < n → c i = 0 := by
  intro n
  induction n with
  | zero => intro c _ i hi; omega
  | succ n ih =>
    intro c h
    have step : ∀ z : Int, c 0 + z * sm n (fun i => c (i + 1) * z ^ i) = sm (n + 1) (fun i => c i * z ^ i) := by
      intro z
      rw [sm_head, ← sm_mul]
      have : sm n (fun i => z * (c (i + 1) * z ^ i)) = sm n (fun i => c (i + 1) * z ^ (i + 1)) := sm_congr (fun i _ => by rw [Int.pow_succ]; grind)
      rw [this]; simp
    have h0 : c 0 = 0 := by
      have hsq : 0 ≤ c 0 * c 0 := by
        rcases Int.le_total 0 (c 0) with g | g
        · exact Int.mul_nonneg g g
        · exact Int.mul_nonneg_of_nonpos_of_nonpos g g
      have hz := h (c 0 * c 0 + 1) (by omega)
      rw [← step] at hz
      have hd : (c 0 * c 0 + 1) ∣ c 0 := ⟨-(sm n (fun i => c (i + 1) * (c 0 * c 0 + 1) ^ i)), by grind⟩
      refine Decidable.byContradiction fun hne => ?_
      have hle := Int.natAbs_dvd_natAbs.mpr hd
      have hpos : 0 < (c 0).natAbs := by omega
      have hle2 := Nat.le_of_dvd hpos hle
      have h1 : (c 0 * c 0 + 1).natAbs = (c 0).natAbs * (c 0).natAbs + 1 := by
        have e : c 0 * c 0 = (((c 0).natAbs * (c 0).natAbs : Nat) : Int) := by
          rw [Int.natCast_mul, ← Int.natAbs_mul_self' (c 0)]
        rw [e]; omega
      rw [h1] at hle2
      have : (c 0).natAbs * 1 ≤ (c 0).natAbs * (c 0).natAbs := Nat.mul_le_mul_left _ hpos
      omega
    have hrest := ih (fun i => c (i + 1)) (by
      intro z hz
      have := h z hz
      rw [← step, h0, Int.zero_add] at this
      rcases Int.mul_eq_zero.mp this with e | e
      · exact absurd e hz
      · exact e)
    intro i hi
    cases i with
    | zero => exact h0
    | succ i => exact hrest i (by omega)
theorem poly_eq {n : Nat} {c d : Nat → Int} (h : ∀ z : Int, sm n (fun i => c i * z ^ i) = sm n (fun i => d i * z ^ i)) : ∀ i, i < n → c i = d i := by
  intro i hi
  have := poly_zero n (fun i => c i - d i) (by
    intro z _
    have e : sm n (fun i => (c i - d i) * z ^ i) = sm n (fun i => c i * z ^ i - d i * z ^ i) := sm_congr (fun i _ => by rw [Int.sub_mul])
    rw [e, sm_sub, h z]; omega) i hi
  have this : c i - d i = 0 := this
  omega
def bin : Nat → Nat → Nat
  | _, 0 => 1
  | 0, _ + 1 => 0
  | n + 1, k + 1 => bin n k + bin n (k + 1)
theorem bin_zero (n : Nat) : bin n 0 = 1 := by cases n <;> rfl
theorem bin_succ (n k : Nat) : bin (n + 1) (k + 1) = bin n k + bin n (k + 1) := rfl
theorem bin_above : ∀ {n k : Nat}, n < k → bin n k = 0
  | 0, 0, h => by omega
  | 0, _ + 1, _ => rfl
  | n + 1, 0, h => by omega
  | n + 1, k + 1, h => by rw [bin_succ, bin_above (n := n) (k := k) (by omega), bin_above (n := n) (k := k + 1) (by omega)]
theorem bin_self (n : Nat) : bin n n = 1 := by
  induction n with
  | zero => rfl
  | succ n ih => rw [bin_succ, ih, bin_above (by omega)]
theorem bin_one (n : Nat) : bin n 1 = n := by
  induction n with
  | zero => rfl
  | succ n ih => rw [bin_succ, ih, bin_zero]; omega
theorem bin_step : ∀ (n k : Nat), (k + 1) * bin n (k + 1) = (n - k) * bin n k
  | 0, k => by rw [bin_above (by omega)]; simp
  | n + 1, 0 => by rw [bin_one, bin_zero]; omega
  | n + 1, k + 1 => by
    rw [bin_succ, bin_succ]
    have h1 := bin_step n k
    have h2 := bin_step n (k + 1)
    by_cases hk : k + 1 ≤ n
    · obtain ⟨m, rfl⟩ : ∃ m, n = m + (k + 1) := ⟨n - (k + 1), by omega⟩
      rw [show m + (k + 1) - k = m + 1 by omega] at h1
      rw [show m + (k + 1) - (k + 1) = m by omega] at h2
      rw [show m + (k + 1) + 1 - (k + 1) = m + 1 by omega]
      grind
    · by_cases hk2 : k = n
      · subst hk2
        rw [bin_above (n := k) (k := k + 1 + 1) (by omega), bin_above (n := k) (k := k + 1) (by omega)]; simp
      · rw [bin_above (n := n) (k := k + 1 + 1) (by omega), bin_above (n := n) (k := k + 1) (by omega), bin_above (n := n) (k := k) (by omega)]; simp
theorem bin_symm : ∀ {n k : Nat}, k ≤ n → bin n (n - k) = bin n k
  | 0, k, h => by have : k = 0 := by omega
                  subst this; rfl
  | n + 1, 0, _ => by rw [Nat.sub_zero, bin_self, bin_zero]
  | n + 1, k + 1, h => by
    rw [Nat.add_sub_add_right]
    by_cases e : k = n
    · subst e; rw [Nat.sub_self, bin_zero, bin_self]
    · obtain ⟨m, hm⟩ : ∃ m, n - k = m + 1 := ⟨n - k - 1, by omega⟩
      rw [hm, bin_succ, bin_succ]
      have h1 := bin_symm (n := n) (k := k) (by omega)
      have h2 := bin_symm (n := n) (k := k + 1) (by omega)
      rw [hm] at h1
      rw [show n - (k + 1) = m by omega] at h2
      omega
def kr (g : Int) : Nat → Nat → Nat → Int
  | 0, 0, 0 => 1
  | 0, 0, _ + 1 => 0
  | a + 1, 0, 0 => kr g a 0 0
  | a + 1, 0, k + 1 => kr g a 0 (k + 1) + g * kr g a 0 k
  | a, b + 1, 0 => kr g a b 0
  | a, b + 1, k + 1 => kr g a b (k + 1) - kr g a b k
theorem kr_b0 (g : Int) (a b : Nat) : kr g a (b + 1) 0 = kr g a b 0 := by cases a <;> simp [kr]
theorem kr_b (g : Int) (a b k : Nat) : kr g a (b + 1) (k + 1) = kr g a b (k + 1) - kr g a b k := by cases a <;> simp [kr]
theorem kr_zero (g : Int) (a b : Nat) : kr g a b 0 = 1 := by
  induction b with
  | zero => induction a with
    | zero => simp [kr]
    | succ a ih => simp [kr, ih]
  | succ b ih => rw [kr_b0, ih]
theorem kr_a (g : Int) (a b k : Nat) : kr g (a + 1) b (k + 1) = kr g a b (k + 1) + g * kr g a b k := by
  induction b generalizing k with
  | zero => simp [kr]
  | succ b ih =>
    rw [kr_b, kr_b, ih]
    cases k with
    | zero => rw [kr_zero, kr_zero, kr_zero]; omega
    | succ k => rw [ih, kr_b]; grind
theorem kr_above (g : Int) : ∀ (a b k : Nat), a + b < k → kr g a b k = 0 := by
  intro a
  induction a with
  | zero =>
    intro b
    induction b with
    | zero => intro k h; cases k with
      | zero => omega
      | succ k => simp [kr]
    | succ b ih => intro k h; cases k with
      | zero => omega
      | succ k => rw [kr_b, ih _ (by omega), ih _ (by omega)]; rfl
  | succ a ih => intro b k h; cases k with
    | zero => omega
    | succ k => rw [kr_a, ih _ _ (by omega), ih _ _ (by omega)]; simp
theorem kr_first (g : Int) (a k : Nat) : kr g a 0 k = (bin a k : Int) * g ^ k := by
  induction a generalizing k with
  | zero => cases k with
    | zero => simp [kr, bin]
    | succ k => simp [kr, bin]
  | succ a ih => cases k with
    | zero => simp [kr_zero, bin_zero]
    | succ k => rw [kr_a, ih, ih, bin_succ, Int.pow_succ, Int.natCast_add]; grind
theorem kr_row (g : Int) (a b k : Nat) : kr g a (b + 1) (k + 1) = kr g (a + 1) b (k + 1) - kr g (a + 1) b k - g * kr g a (b + 1) k := by
  have h := kr_a g a (b + 1) k
  rw [kr_b] at h
  omega
def krF (g : Int) (a b k : Nat) : Int := sm (k + 1) (fun j => (-1) ^ j * (g ^ (k - j) * ((bin b j : Int) * (bin a (k - j) : Int))))
theorem kr_formula (g : Int) (a b k : Nat) : kr g a b k = krF g a b k := by
  induction b generalizing k with
  | zero =>
    rw [kr_first, krF]
    rw [sm_single (a := 0) (by omega)]
    · simp [bin_zero]; grind
    · intro i _ hne
      obtain ⟨m, rfl⟩ : ∃ m, i = m + 1 := ⟨i - 1, by omega⟩
      simp [bin]
  | succ b ih =>
    cases k with
    | zero => rw [kr_zero]; simp [krF, sm, bin_zero]
    | succ k =>
      rw [kr_b, ih, ih, krF, krF, krF]
      rw [sm_head (k + 1) (fun j => (-1) ^ j * (g ^ (k + 1 - j) * ((bin (b + 1) j : Int) * (bin a (k + 1 - j) : Int))))]
      rw [sm_head (k + 1) (fun j => (-1) ^ j * (g ^ (k + 1 - j) * ((bin b j : Int) * (bin a (k + 1 - j) : Int))))]
      simp only [bin_zero, Nat.add_sub_add_right]
      rw [Int.add_sub_assoc]
      congr 1
      rw [← sm_sub]
      refine sm_congr fun i hi => ?_
      rw [bin_succ, Int.natCast_add, Int.pow_succ]
      grind
theorem kr_gen (g : Int) (a b : Nat) (u w : Int) : sm (a + b + 1) (fun i => kr g a b i * u ^ (a + b - i) * w ^ i) = (u + g * w) ^ a * (u - w) ^ b := by
  have shift : ∀ (m : Nat) (c : Nat → Int) (s : Int) (d : Nat → Int), d 0 = c 0 → (∀ k, d (k + 1) = c (k + 1) + s * c k) → (∀ k, m < k → c k = 0) →
      sm (m + 2) (fun i => d i * u ^ (m + 1 - i) * w ^ i) = (u + s * w) * sm (m + 1) (fun i => c i * u ^ (m - i) * w ^ i) := by
    intro m c s d h0 h1 h2
    have e1 : u * sm (m + 1) (fun i => c i * u ^ (m - i) * w ^ i) = sm (m + 2) (fun i => c i * u ^ (m + 1 - i) * w ^ i) := by
      rw [← sm_mul, sm.eq_def (m + 2)]
      simp only []
      rw [h2 (m + 1) (by omega)]
      simp only [Int.zero_mul, Int.add_zero]
      refine sm_congr fun i hi => ?_
      rw [show m + 1 - i = (m - i) + 1 by omega, Int.pow_succ]; grind
    have e2 : s * w * sm (m + 1) (fun i => c i * u ^ (m - i) * w ^ i) = sm (m + 1) (fun i => s * c i * u ^ (m + 1 - (i + 1)) * w ^ (i + 1)) := by
      rw [← sm_mul]
      refine sm_congr fun i hi => ?_
      rw [Nat.add_sub_add_right, Int.pow_succ]; grind
    rw [Int.add_mul, e1, e2, sm_head (m + 1), sm_head (m + 1), Int.add_assoc, ← sm_add, h0]
    congr 1
    refine sm_congr fun i _ => ?_
    rw [h1]; grind
  induction b with
  | zero =>
    induction a with
    | zero => simp [sm, kr]
    | succ a ih =>
      have := shift (a + 0) (kr g a 0) g (kr g (a + 1) 0) (by rw [kr_zero, kr_zero]) (fun k => kr_a g a 0 k) (fun k hk => kr_above g a 0 k hk)
      rw [show a + 1 + 0 + 1 = a + 0 + 2 by omega, show a + 1 + 0 = a + 0 + 1 by omega, this, ih]
      grind
  | succ b ih =>
    have := shift (a + b) (kr g a b) (-1) (kr g a (b + 1)) (by rw [kr_zero, kr_zero]) (fun k => by rw [kr_b]; omega) (fun k hk => kr_above g a b k hk)
    rw [show a + (b + 1) + 1 = a + b + 2 by omega, show a + (b + 1) = a + b + 1 by omega, this, ih]
    grind
theorem kr_gen1 (g : Int) (a b : Nat) (z : Int) : sm (a + b + 1) (fun i => kr g a b i * z ^ i) = (1 + g * z) ^ a * (1 - z) ^ b := by
  rw [← kr_gen g a b 1 z]
  refine sm_congr fun i _ => ?_
  rw [Int.one_pow, Int.mul_one]
theorem kr_invert (g : Int) (n r s : Nat) (hr : r ≤ n) (hs : s ≤ n) :
    sm (n + 1) (fun i => kr g (n - r) r i * kr g (n - i) i s) = if r = s then (g + 1) ^ n else 0 := by
  have h : ∀ z : Int, sm (n + 1) (fun s => sm (n + 1) (fun i => kr g (n - r) r i * kr g (n - i) i s) * z ^ s) = sm (n + 1) (fun s => (if r = s then (g + 1) ^ n else 0) * z ^ s) := by
    intro z
    have e1 : sm (n + 1) (fun s => sm (n + 1) (fun i => kr g (n - r) r i * kr g (n - i) i s) * z ^ s) =
        sm (n + 1) (fun i => kr g (n - r) r i * (1 + g * z) ^ (n - i) * (1 - z) ^ i) := by
      have : ∀ s, s < n + 1 → sm (n + 1) (fun i => kr g (n - r) r i * kr g (n - i) i s) * z ^ s = sm (n + 1) (fun i => kr g (n - r) r i * kr g (n - i) i s * z ^ s) := by
        intro s _; rw [sm_mul_right]
      rw [sm_congr this, sm_swap]
      refine sm_congr fun i hi => ?_
      rw [Int.mul_assoc (kr g (n - r) r i), ← kr_gen1, show n - i + i = n by omega, ← sm_mul]
      refine sm_congr fun j _ => ?_
      rw [Int.mul_assoc]
    rw [e1]
    have e2 := kr_gen g (n - r) r (1 + g * z) (1 - z)
    rw [show n - r + r = n by omega] at e2
    rw [e2, sm_single (a := r) (by omega)]
    · rw [if_pos rfl, show 1 + g * z + g * (1 - z) = g + 1 by grind, show 1 + g * z - (1 - z) = (g + 1) * z by grind, Int.mul_pow, ← Int.mul_assoc, ← Int.pow_add, show n - r + r = n by omega]
    · intro i _ hne; rw [if_neg (fun e => hne e.symm)]; simp
  exact poly_eq h s (by omega)
end Mw
end
section
set_option linter.unusedVariables false
set_option linter.unusedSimpArgs false
namespace Mw
open Go Go.RowKit Go.Proofs.YtifkbghnmhineaaW.PrintWords Go.Proofs.YtifkbghnmhineaaW.PrintLast Go.Proofs.YtifkbghnmhineaaW.PrintMore Go.Proofs.Ytifkbghnmhineaa.PAll
theorem rd_rep (n : Nat) (j : Nat) : rd (List.replicate n 0) (j : Int) = 0 := by
  by_cases h : j < n
  · rw [rd_lt (by simpa using h)]; simp
  · exact rd_ge (by simp; omega)
theorem mac_bound {x y z c : Int} (hx0 : 0 ≤ x) (hx1 : x < 4294967296) (hy0 : 0 ≤ y) (hy1 : y < 4294967296) (hz0 : 0 ≤ z) (hz1 : z < 4294967296) (hc0 : 0 ≤ c) (hc1 : c < 4294967296) :
    0 ≤ x * y ∧ x * y + z + c < 18446744073709551616 := by
  have hp0 : 0 ≤ x * y := Int.mul_nonneg hx0 hy0
  have hp1 : x * y ≤ 4294967295 * 4294967295 := Int.mul_le_mul (by omega) (by omega) hy0 (by decide)
  generalize x * y = p at *
  omega
theorem mac_wrap {x y z c : Int} (hx0 : 0 ≤ x) (hx1 : x < 4294967296) (hy0 : 0 ≤ y) (hy1 : y < 4294967296) (hz0 : 0 ≤ z) (hz1 : z < 4294967296) (hc0 : 0 ≤ c) (hc1 : c < 4294967296) :
    IntKind.u64.wrap (IntKind.u64.wrap (IntKind.u64.wrap (IntKind.u64.wrap x * IntKind.u64.wrap y) + IntKind.u64.wrap z) + c) = x * y + z + c := by
  have hb := mac_bound hx0 hx1 hy0 hy1 hz0 hz1 hc0 hc1
  rw [u64w (x := x) (by omega) (by omega), u64w (x := y) (by omega) (by omega), u64w (x := z) (by omega) (by omega)]
  generalize x * y = p at *
  rw [u64w (x := p) (by omega) (by omega), u64w (x := p + z) (by omega) (by omega), u64w (x := p + z + c) (by omega) (by omega)]
theorem split_div (s : Int) : s % 4294967296 + 4294967296 * (s / 4294967296) = s := by omega
theorem div_bound {s : Int} (h0 : 0 ≤ s) (h1 : s < 18446744073709551616) : 0 ≤ s % 4294967296 ∧ s % 4294967296 < 4294967296 ∧ 0 ≤ s / 4294967296 ∧ s / 4294967296 < 4294967296 := by omega
theorem times_inner {x : Int} {b l18 : List Int} (hx0 : 0 ≤ x) (hx1 : x < 4294967296) (hb : Lm b) (hbl : b.length < 536870912) (x19 : Int) (i L : Nat) (hL : i + b.length + 1 ≤ L) (hL2 : L < 1073741824) (V : Int) (R : List Int)
    (next : ∀ o : List Int, o.length = L → Lm o → (∀ j : Nat, i + 1 + b.length ≤ j → rd o (j : Int) = 0) → Aside0 (lv o = V + (bp i : Int) * (x * lv b)) → Ev (fun k => nat_times.l0 k b o l18 x19 ((i + 1 : Nat) : Int)) R) :
    ∀ (d j : Nat) (o : List Int) (c : Int), j + d = b.length → o.length = L → Lm o → 0 ≤ c → c < 4294967296 → (∀ m : Nat, i + b.length ≤ m → rd o (m : Int) = 0) →
      Aside0 (lv o + (bp (i + j) : Int) * c = V + (bp i : Int) * (x * lv (b.take j))) →
      Ev (fun k => nat_times.l1 k b o (i : Int) x c l18 x19 (i : Int) b (b.length : Int) (j : Int)) R := by
  intro d
  induction d with
  | zero =>
    intro j o c hj ho hol hc0 hc1 hz hv
    have hj : j = b.length := by omega
    subst hj
    refine Ev.succ ?_
    simp only [nat_times.l1, wn (show (i : Int) + (b.length : Int) = ((i + b.length : Nat) : Int) by omega) (by omega), wn (show (i : Int) + 1 = ((i + 1 : Nat) : Int) by omega) (by omega), if_neg (show ¬ ((b.length : Nat) : Int) < (b.length : Int) by omega), if_pos (show (0 : Int) ≤ ((i + b.length : Nat) : Int) by omega), if_pos (show ((i + b.length : Nat) : Int) < (o.length : Int) by omega)]
    rw [Int.toNat_natCast, show c % 4294967296 = c by omega]
    refine next _ (by rw [List.length_set]; omega) (lm_set hol hc0 hc1) (fun m hm => ?_) ⟨?_⟩
    · rw [rd_set_ne _ (by omega)]; exact hz m (by omega)
    · rw [lv_set _ (by omega), hz _ (Nat.le_refl _), Int.sub_zero, hv.out, List.take_of_length_le (Nat.le_refl _)]
  | succ d ih =>
    intro j o c hj ho hol hc0 hc1 hz hv
    have hjb : j < b.length := by omega
    refine Ev.succ ?_
    have rb := rd_lm hb (j : Int)
    have ro := rd_lm hol ((i + j : Nat) : Int)
    simp only [nat_times.l1, wn (show (i : Int) + (j : Int) = ((i + j : Nat) : Int) by omega) (by omega), wn (show (j : Int) + 1 = ((j + 1 : Nat) : Int) by omega) (by omega), if_pos (show (j : Int) < (b.length : Int) by omega), if_pos (show (0 : Int) ≤ (j : Int) by omega), if_pos (show (0 : Int) ≤ ((i + j : Nat) : Int) by omega), if_pos (show ((i + j : Nat) : Int) < (o.length : Int) by omega), mac_wrap hx0 hx1 rb.1 rb.2 ro.1 ro.2 hc0 hc1]
    have hb2 := mac_bound hx0 hx1 rb.1 rb.2 ro.1 ro.2 hc0 hc1
    have hdef : ∃ s, s = x * rd b (j : Int) + rd o ((i + j : Nat) : Int) + c := ⟨_, rfl⟩
    obtain ⟨s, hs⟩ := hdef
    have hs0 : 0 ≤ s := by rw [hs]; exact Int.add_nonneg (Int.add_nonneg hb2.1 ro.1) hc0
    have hs1 : s < 18446744073709551616 := by rw [hs]; exact hb2.2
    have hd := div_bound hs0 hs1
    clear hb2
    rw [← hs]
    rw [Int.toNat_natCast]
    have hs := Aside0.mk hs
    refine ih (j + 1) _ _ (by omega) (by rw [List.length_set]; omega) (lm_set hol hd.1 hd.2.1) hd.2.2.1 hd.2.2.2 (fun m hm => ?_) ⟨?_⟩
    · rw [rd_set_ne _ (by omega)]; exact hz m hm
    · rw [lv_set _ (by omega), lv_take_succ hjb, ← Nat.add_assoc, bp_succ, Int.natCast_mul]
      have hdiv : s % 4294967296 + 4294967296 * (s / 4294967296) = x * rd b (j : Int) + rd o ((i + j : Nat) : Int) + c := by rw [split_div]; exact hs.out
      have hv := hv.out
      have hbp : ((bp (i + j) : Nat) : Int) = (bp i : Int) * (bp j : Int) := by rw [bp_add, Int.natCast_mul]
      clear ih hz next hs hs0 hs1 hd rb ro hc0 hc1
      generalize s % 4294967296 = y at *
      generalize s / 4294967296 = u at *
      generalize (bp (i + j) : Int) = p at *
      generalize (bp i : Int) = pi at *
      generalize (bp j : Int) = pj at *
      generalize rd b (j : Int) = rb at *
      generalize rd o ((i + j : Nat) : Int) = ro at *
      generalize lv o = lo at *
      generalize lv (b.take j) = lt at *
      subst hbp
      have h1 : lo + pi * pj * c = V + pi * (x * lt) := hv
      have h2 : y + 4294967296 * u = x * rb + ro + c := hdiv
      show lo + pi * pj * (y - ro) + 4294967296 * (pi * pj) * u = V + pi * (x * (lt + pj * rb))
      have h3 : pi * pj * (y + 4294967296 * u) = pi * pj * (x * rb + ro + c) := by rw [h2]
      grind
theorem times_outer {b l : List Int} (hb : Lm b) (hl : Lm l) (hbl : b.length < 268435456) (hll : l.length < 268435456) : ∀ (d i : Nat) (o : List Int), i + d = l.length → o.length = l.length + b.length → Lm o → (∀ m : Nat, i + b.length ≤ m → rd o (m : Int) = 0) →
    Aside0 (lv o = lv (l.take i) * lv b) → Ev (fun k => nat_times.l0 k b o l (l.length : Int) (i : Int)) (dg (lv l * lv b).toNat) := by
  intro d
  induction d with
  | zero =>
    intro i o hi ho hol hz hv
    have hi : i = l.length := by omega
    subst hi
    refine Ev.succ ?_
    simp only [nat_times.l0, if_neg (show ¬ ((l.length : Nat) : Int) < (l.length : Int) by omega)]
    refine Ev.bind (short_ev hol (by omega)) ?_
    refine Ev.cast (Ev.some _) ?_
    rw [hv.out, List.take_of_length_le (Nat.le_refl _)]
  | succ d ih =>
    intro i o hi ho hol hz hv
    have hil : i < l.length := by omega
    refine Ev.succ ?_
    have rl := rd_lm hl (i : Int)
    simp only [nat_times.l0, if_pos (show (i : Int) < (l.length : Int) by omega), if_pos (show (0 : Int) ≤ (i : Int) by omega)]
    refine times_inner (l18 := l) rl.1 rl.2 hb (by omega) (l.length : Int) i (l.length + b.length) (by omega) (by omega) (lv (l.take i) * lv b) _ (fun o2 h1 h2 h3 h4 => ?_) b.length 0 o 0 (by omega) ho hol (by omega) (by omega) hz ⟨?_⟩
    · refine ih (i + 1) o2 (by omega) h1 h2 (fun m hm => h3 m hm) ⟨?_⟩
      rw [h4.out, lv_take_succ hil, Int.add_mul, Int.mul_assoc]
    · rw [hv.out]; simp [lv_nil]
theorem times_ev {a b : List Int} (ha : Lm a) (hb : Lm b) (h1 : a.length < 268435456) (h2 : b.length < 268435456) : Ev (fun k => nat_times.f k a b) (dg (lv a * lv b).toNat) := by
  simp only [nat_times.f]
  simp only [wn (show (a.length : Int) + (b.length : Int) = ((a.length + b.length : Nat) : Int) by omega) (by omega), Int.toNat_natCast, if_pos (show (0 : Int) ≤ ((a.length + b.length : Nat) : Int) by omega), if_pos (show a.length + b.length ≤ 70368744177664 by omega)]
  exact times_outer hb ha h2 h1 a.length 0 _ (by omega) (by simp) (lm_rep _) (fun m _ => rd_rep _ m) ⟨by rw [lv_rep]; simp [lv_nil]⟩
theorem mul2_ev {a b : Nat} (ha : (dg a).length < 134217728) (hb : (dg b).length < 134217728) : Ev (fun k => nat_Mul.f k [dg a, dg b]) (dg (a * b)) := by
  simp only [nat_Mul.f]
  have mul_len : ∀ x y : Nat, (dg (x * y)).length ≤ (dg x).length + (dg y).length := by
    intro x y
    refine dg_len_le ?_
    rw [bp_add]
    exact Nat.mul_lt_mul'' (dg_lt_len x) (dg_lt_len y)
  have one : lv [1] = 1 := by rw [lv_cons, lv_nil]; rfl
  have l1 : Lm [1] := by rw [lm_cons]; exact ⟨by omega, lm_nil⟩
  refine Ev.succ ?_
  simp only [nat_Mul.l0, List.length_cons, List.length_nil, w64 (x := (0 : Int) + 1) (by omega) (by omega)]
  rw [show ((0 + 1 + 1 : Nat) : Int) = 2 from rfl]
  simp only [if_pos (show (0 : Int) < 2 by omega), if_pos (show (0 : Int) ≤ 0 by omega)]
  rw [show rd_L3 [dg a, dg b] 0 = dg a from rfl]
  refine Ev.bind (short_ev (lm_dg a) (by omega)) ?_
  rw [lv_dg, Int.toNat_natCast]
  refine Ev.bind (times_ev l1 (lm_dg a) (by simp) (by omega)) ?_
  rw [one, lv_dg, Int.one_mul, Int.toNat_natCast]
  refine Ev.succ ?_
  rw [show (0 : Int) + 1 = 1 from rfl]
  simp only [nat_Mul.l0, List.length_cons, List.length_nil, w64 (x := (1 : Int) + 1) (by omega) (by omega)]
  rw [show ((0 + 1 + 1 : Nat) : Int) = 2 from rfl]
  simp only [if_pos (show (1 : Int) < 2 by omega), if_pos (show (0 : Int) ≤ 1 by omega)]
  rw [show rd_L3 [dg a, dg b] 1 = dg b from rfl]
  refine Ev.bind (short_ev (lm_dg b) (by omega)) ?_
  rw [lv_dg, Int.toNat_natCast]
  refine Ev.bind (times_ev (lm_dg a) (lm_dg b) (by omega) (by omega)) ?_
  rw [lv_dg, lv_dg, ← Int.natCast_mul, Int.toNat_natCast]
  rw [show (1 : Int) + 1 = 2 from rfl]
  refine Ev.succ ?_
  simp only [nat_Mul.l0, if_neg (show ¬ (2 : Int) < 2 by omega)]
  have := mul_len a b
  refine Ev.bind (trim_ev (lm_dg (a * b)) (by omega)) ?_
  rw [lv_dg, Int.toNat_natCast]
  exact Ev.some _
theorem wraps_u64 (n : Int) (h0 : 0 ≤ n) (h1 : n < 2 ^ 64) : IntKind.u64.wrap n = n := u64w h0 (by omega)
theorem join32 {x y : Int} (hx0 : 0 ≤ x) (hx1 : x < 4294967296) (hy0 : 0 ≤ y) (hy1 : y < 4294967296) : Go.bits .or .u64 (IntKind.u64.wrap (x * 4294967296)) (IntKind.u64.wrap y) = x * 4294967296 + y := by
  rw [u64w (x := x * 4294967296) (by omega) (by omega), u64w (x := y) (by omega) (by omega)]
  exact bits_join .u64 64 (by decide) wraps_u64 32 _ _ (by omega) (by omega) (by omega) hy0 (by omega) (by omega)
theorem digit_bounds {r b y : Int} (hr0 : 0 ≤ r) (hrb : r < b) (hb : b < 4294967296) (hy0 : 0 ≤ y) (hy1 : y < 4294967296) :
    0 ≤ (r * 4294967296 + y) / b ∧ (r * 4294967296 + y) / b < 4294967296 ∧ 0 ≤ (r * 4294967296 + y) % b ∧ (r * 4294967296 + y) % b < b := by
  have hbp : 0 < b := by omega
  refine ⟨Int.ediv_nonneg (by omega) (by omega), ?_, Int.emod_nonneg _ (by omega), Int.emod_lt_of_pos _ hbp⟩
  refine Int.ediv_lt_of_lt_mul hbp ?_
  have : (r + 1) * 4294967296 ≤ b * 4294967296 := by omega
  omega
theorem digit_loop {a : List Int} {b : Int} (ha : Lm a) (hb0 : 0 < b) (hb1 : b < 4294967296) (hlen : a.length < 1073741824) : ∀ (n : Nat) (o : List Int) (r : Int), n ≤ a.length → o.length = a.length → Lm o → (∀ j : Nat, j < n → rd o (j : Int) = 0) → 0 ≤ r → r < b →
    Aside0 (lv o * b + (bp n : Int) * r = lv a - lv (a.take n)) → Ev (fun k => nat_digit.l0 k a b o r ((n : Int) - 1)) (dg (lv a / b).toNat, lv a % b) := by
  intro n
  induction n with
  | zero =>
    intro o r hn ho hol hz hr0 hr1 hv
    refine Ev.succ ?_
    simp only [nat_digit.l0, if_neg (show ¬ ((0 : Nat) : Int) - 1 ≥ 0 by omega)]
    refine Ev.bind (short_ev hol (by omega)) ?_
    refine Ev.cast (Ev.some _) ?_
    have hv := hv.out
    rw [List.take_zero, lv_nil, bp_zero] at hv
    have e : lv a = b * lv o + r := by rw [Int.mul_comm]; omega
    have h1 : lv a / b = lv o := by
      rw [e, Int.add_comm, Int.add_mul_ediv_left _ _ (by omega), Int.ediv_eq_zero_of_lt hr0 hr1]; omega
    have h2 : lv a % b = r := by
      rw [e, Int.add_comm, Int.add_mul_emod_self_left, Int.emod_eq_of_lt hr0 hr1]
    rw [h1, h2]
    clear hv e h1 h2
    congr 1
    omega
  | succ n ih =>
    intro o r hn ho hol hz hr0 hr1 hv
    refine Ev.succ ?_
    have ra := rd_lm ha (n : Int)
    have hd := digit_bounds hr0 hr1 hb1 ra.1 ra.2
    have hdiv : b * ((r * 4294967296 + rd a (n : Int)) / b) + (r * 4294967296 + rd a (n : Int)) % b = r * 4294967296 + rd a (n : Int) := Int.mul_ediv_add_emod _ _
    have t0 : 0 ≤ r * 4294967296 + rd a (n : Int) := by omega
    simp only [nat_digit.l0, show ((n + 1 : Nat) : Int) - 1 = (n : Int) from by omega, if_pos (show (n : Int) ≥ 0 by omega), if_pos (show (0 : Int) ≤ (n : Int) by omega), if_pos (show (n : Int) < (a.length : Int) by omega), if_pos (show (n : Int) < (o.length : Int) by omega), if_neg (show ¬ b = 0 by omega),
      join32 hr0 (by omega) ra.1 ra.2, w64 (x := (n : Int) - 1) (by omega) (by omega), u64w (x := b) (by omega) (by omega)]
    rw [Int.tdiv_eq_ediv_of_nonneg t0, Int.tmod_eq_emod_of_nonneg t0]
    generalize (r * 4294967296 + rd a (n : Int)) / b = q at *
    generalize (r * 4294967296 + rd a (n : Int)) % b = s at *
    rw [u64w (x := q) hd.1 (by omega), show q % 4294967296 = q by omega, Int.toNat_natCast]
    refine ih _ _ (by omega) (by rw [List.length_set]; exact ho) (lm_set hol hd.1 hd.2.1) (fun j hj => ?_) hd.2.2.1 hd.2.2.2 ⟨?_⟩
    · rw [rd_set_ne _ (by omega)]; exact hz j (by omega)
    · have hv := hv.out
      rw [lv_take_succ (l := a) (i := n) (by omega), bp_succ, Int.natCast_mul] at hv
      rw [lv_set (l := o) (i := n) _ (by omega), hz n (by omega)]
      clear ih hz hd ra t0
      generalize lv o = x at *
      generalize (bp n : Int) = p at *
      generalize rd a (n : Int) = y at *
      generalize lv a = A at *
      generalize lv (a.take n) = T at *
      have hv : x * b + 4294967296 * p * r = A - (T + p * y) := hv
      have h3 : p * (b * q + s) = p * (r * 4294967296 + y) := by rw [hdiv]
      grind
theorem digit_ev {a : List Int} {b : Int} (ha : Lm a) (hb0 : 0 < b) (hb1 : b < 4294967296) (hlen : a.length < 1073741824) : Ev (fun k => nat_digit.f k a b) (dg (lv a / b).toNat, lv a % b) := by
  simp only [nat_digit.f, Int.toNat_natCast, if_pos (show (0 : Int) ≤ (a.length : Int) by omega), if_pos (show a.length ≤ 70368744177664 by omega), w64 (x := (a.length : Int) - 1) (by omega) (by omega)]
  exact digit_loop ha hb0 hb1 hlen a.length _ 0 (Nat.le_refl _) (by simp) (lm_rep _) (fun j _ => rd_rep _ j) (by omega) (by omega) ⟨by rw [lv_rep, List.take_of_length_le (Nat.le_refl _)]; simp⟩
theorem bin_mul (n i : Nat) : bin n i * (n - i) = (i + 1) * bin n (i + 1) := by rw [bin_step, Nat.mul_comm]
theorem bin_lt (n k : Nat) : bin n k ≤ 2 ^ n := by
  induction n generalizing k with
  | zero => cases k <;> simp [bin]
  | succ n ih => cases k with
    | zero => rw [bin_zero]; exact Nat.one_le_two_pow
    | succ k => rw [bin_succ, Nat.pow_succ]; have h1 := ih k; have h2 := ih (k + 1); omega
theorem pow2_bp (m : Nat) : 2 ^ (32 * m) = bp m := by
  induction m with
  | zero => rw [bp_zero]
  | succ m ih => rw [Nat.mul_succ, Nat.pow_add, ih, bp_succ, Nat.mul_comm]
theorem bin_len {n : Nat} (hn : n ≤ 4096) (k : Nat) : (dg (bin n k)).length ≤ 129 := by
  refine dg_len_le ?_
  have h1 := bin_lt n k
  have h2 : ∀ m, n ≤ 32 * m → 2 ^ n ≤ bp m := fun m h => by rw [← pow2_bp]; exact Nat.pow_le_pow_right (by decide) h
  have h2 := h2 128 (by omega)
  have h3 := bp_pos 128
  rw [show 129 = 128 + 1 from rfl, bp_succ]
  generalize 2 ^ n = p at *
  generalize bp 128 = u at *
  omega
theorem binomial_loop {n : Nat} (hn : n ≤ 4096) : ∀ (d i m : Nat), i + d = m → m ≤ n → Ev (fun k => nat_Binomial.l0 k (n : Int) (dg (bin n i)) (m : Int) (i : Int)) (dg (bin n m), 0) := by
  intro d
  induction d with
  | zero =>
    intro i m hi hm
    have hi : i = m := by omega
    subst hi
    refine Ev.succ ?_
    simp only [nat_Binomial.l0, if_neg (show ¬ (i : Int) < (i : Int) by omega)]
    have := bin_len hn i
    refine Ev.bind (trim_ev (lm_dg _) (by omega)) ?_
    rw [lv_dg, Int.toNat_natCast]
    exact Ev.some _
  | succ d ih =>
    intro i m hi hm
    refine Ev.succ ?_
    have hl := bin_len hn i
    have e0 : ((n : Int) - (i : Int)) % 4294967296 = ((n - i : Nat) : Int) := by omega
    have e1 : ((i + 1 : Nat) : Int) % 4294967296 = ((i + 1 : Nat) : Int) := by omega
    simp only [nat_Binomial.l0, w64 (x := (n : Int) - (i : Int)) (by omega) (by omega), wn (show (i : Int) + 1 = ((i + 1 : Nat) : Int) by omega) (by omega), if_pos (show (i : Int) < (m : Int) by omega), e0, e1]
    have l1 : Lm [((n - i : Nat) : Int)] := by rw [lm_cons]; exact ⟨by omega, lm_nil⟩
    refine Ev.bind (times_ev (lm_dg _) l1 (by omega) (by simp)) ?_
    have v1 : lv (dg (bin n i)) * lv [((n - i : Nat) : Int)] = ((bin n i * (n - i) : Nat) : Int) := by rw [lv_dg, lv_cons, lv_nil, Int.natCast_mul]; simp
    rw [v1, Int.toNat_natCast, bin_mul]
    have hl2 : (dg ((i + 1) * bin n (i + 1))).length ≤ 130 := by
      refine dg_len_le ?_
      rw [← bin_mul]
      have h1 := dg_lt_len (bin n i)
      have h2 := bp_mono hl
      have h3 : bin n i < bp 129 := by omega
      rw [show 130 = 129 + 1 from rfl, bp_succ, Nat.mul_comm]
      have h4 : n - i ≤ 4294967296 := by omega
      exact Nat.lt_of_le_of_lt (Nat.mul_le_mul_right _ h4) (Nat.mul_lt_mul_of_pos_left h3 (by decide))
    refine Ev.bind (digit_ev (lm_dg _) (by omega) (by omega) (by omega)) ?_
    rw [lv_dg]
    have v2 : (((i + 1) * bin n (i + 1) : Nat) : Int) / ((i + 1 : Nat) : Int) = ((bin n (i + 1) : Nat) : Int) := by
      rw [Int.natCast_mul, Int.mul_ediv_cancel_left _ (by omega)]
    rw [v2, Int.toNat_natCast]
    exact ih (i + 1) m (by omega) hm
theorem binomial_ev {n m : Nat} (hn : n ≤ 4096) (hm : m ≤ n) : Ev (fun k => nat_Binomial.f k (n : Int) (m : Int)) (dg (bin n m), 0) := by
  simp only [nat_Binomial.f, if_neg (show ¬ (n : Int) < 0 by omega), decide_eq_false (show ¬ (n : Int) > 4096 by omega)]
  refine Ev.succ ?_
  simp only [nat_Binomial.j0, Bool.false_eq_true, if_false, if_neg (show ¬ (m : Int) < 0 by omega), decide_eq_false (show ¬ (m : Int) > (n : Int) by omega)]
  refine Ev.succ ?_
  simp only [nat_Binomial.j1, Bool.false_eq_true, if_false, wn (show (n : Int) - (m : Int) = ((n - m : Nat) : Int) by omega) (by omega)]
  have hone : ([1] : List Int) = dg (bin n 0) := by rw [bin_zero, dg_one]
  rw [hone]
  have hz : (0 : Int) = ((0 : Nat) : Int) := rfl
  by_cases h : m ≤ n - m
  · rw [show mn (m : Int) ((n - m : Nat) : Int) = (m : Int) from by unfold mn; split <;> omega]
    exact binomial_loop hn m 0 m (by omega) hm
  · rw [show mn (m : Int) ((n - m : Nat) : Int) = ((n - m : Nat) : Int) from by unfold mn; split <;> omega, ← bin_symm hm]
    exact binomial_loop hn (n - m) 0 (n - m) (by omega) (by omega)
theorem bits_half (x : Nat) (h : x < 4294967296) : Lib.bitLen x ≤ 32 := Lib.bitLen_le x 32 (by decide) (by omega)
theorem bitLen_zero : Lib.bitLen 0 = 0 := by decide
theorem bitLen_pos {x : Nat} (h0 : x ≠ 0) (h : x < 4294967296) : 1 ≤ Lib.bitLen x := by
  rw [Lib.bitLen_half x h0 (by omega)]; omega
theorem bitLen_lt : ∀ (b x : Nat), x < 4294967296 → Lib.bitLen x ≤ b → x < 2 ^ b := by
  intro b
  induction b with
  | zero =>
    intro x hx hb
    by_cases h : x = 0
    · subst h; decide
    · have := bitLen_pos h hx; omega
  | succ b ih =>
    intro x hx hb
    by_cases h : x = 0
    · subst h; exact Nat.two_pow_pos _
    · rw [Lib.bitLen_half x h (by omega)] at hb
      have := ih (x / 2) (by omega) (by omega)
      rw [Nat.pow_succ]
      omega
theorem dg_head {n : Nat} {i : Nat} (hi : i + 1 = (dg n).length) : rd (dg n) (i : Int) ≠ 0 := by
  have hne : dg n ≠ [] := by intro e; rw [e] at hi; simp at hi
  have := dg_last n hne
  rw [List.getLast_eq_getElem] at this
  rw [rd_lt (by omega)]
  have e : (dg n).length - 1 = i := by omega
  simpa [e] using this
def bl (n : Nat) : Nat := if n = 0 then 0 else 32 * ((dg n).length - 1) + Lib.bitLen (rd (dg n) (((dg n).length - 1 : Nat) : Int)).toNat
theorem bits_ev {n : Nat} (hn : (dg n).length < 33554432) : Ev (fun k => nat_Bits.f k (dg n)) ((bl n : Nat) : Int) := by
  simp only [nat_Bits.f]
  refine Ev.bind (short_ev (lm_dg n) (by omega)) ?_
  rw [lv_dg, Int.toNat_natCast]
  by_cases h : n = 0
  · subst h
    rw [dg_zero]
    simp only [List.length_nil, if_pos (show ((0 : Nat) : Int) = 0 from rfl)]
    exact Ev.cast (Ev.some _) (by simp [bl])
  · have hp : (dg n).length ≠ 0 := by rw [Ne, dg_len_zero]; exact h
    obtain ⟨m, hm⟩ : ∃ m, (dg n).length = m + 1 := ⟨(dg n).length - 1, by omega⟩
    have hb : bl n = 32 * m + Lib.bitLen (rd (dg n) (m : Int)).toNat := by unfold bl; rw [if_neg h, hm]; rfl
    have hr := rd_lm (lm_dg n) (m : Int)
    have hbl := bits_half (rd (dg n) (m : Int)).toNat (by omega)
    rw [hb, hm]
    have f1 : bits_Len32.f (rd (dg n) (m : Int)) = some ((Lib.bitLen (rd (dg n) (m : Int)).toNat : Nat) : Int) := by
      unfold bits_Len32.f
      rw [if_pos hr.1, if_pos (by omega)]
    simp only [if_neg (show ¬ ((m + 1 : Nat) : Int) = 0 by omega), wn (show ((m + 1 : Nat) : Int) - 1 = (m : Int) by omega) (by omega), if_pos (show (0 : Int) ≤ (m : Int) by omega), if_pos (show (m : Int) < ((m + 1 : Nat) : Int) by omega), f1, Option.bind_some]
    refine Ev.cast (Ev.some _) ?_
    rw [wn (show (32 : Int) * (m : Int) = ((32 * m : Nat) : Int) by omega) (by omega), wn (show ((32 * m : Nat) : Int) + ((Lib.bitLen (rd (dg n) (m : Int)).toNat : Nat) : Int) = ((32 * m + Lib.bitLen (rd (dg n) (m : Int)).toNat : Nat) : Int) by omega) (by omega)]
theorem bl_zero {n : Nat} : bl n = 0 ↔ n = 0 := by
  constructor
  · intro h
    by_cases h0 : n = 0
    · exact h0
    · unfold bl at h
      rw [if_neg h0] at h
      have hp : (dg n).length ≠ 0 := by rw [Ne, dg_len_zero]; exact h0
      obtain ⟨m, hm⟩ : ∃ m, (dg n).length = m + 1 := ⟨(dg n).length - 1, by omega⟩
      have hr := rd_lm (lm_dg n) (m : Int)
      have h1 := dg_head hm.symm
      rw [hm, show m + 1 - 1 = m from rfl] at h
      have := bitLen_pos (x := (rd (dg n) (m : Int)).toNat) (by omega) (by omega)
      omega
  · intro h; subst h; rfl
theorem bl_small {n : Nat} (h0 : n ≠ 0) (h : n < 4294967296) : bl n = Lib.bitLen n := by
  unfold bl
  rw [if_neg h0, dg_small h0 h]
  simp [rd]
theorem bl_one {n : Nat} : bl n = 1 ↔ n = 1 := by
  constructor
  · intro h
    have hn0 : n ≠ 0 := by intro e; subst e; rw [bl_zero.mpr rfl] at h; omega
    unfold bl at h
    rw [if_neg hn0] at h
    have hp : (dg n).length ≠ 0 := by rw [Ne, dg_len_zero]; exact hn0
    obtain ⟨m, hm⟩ : ∃ m, (dg n).length = m + 1 := ⟨(dg n).length - 1, by omega⟩
    have hr := rd_lm (lm_dg n) (m : Int)
    have h1 := dg_head hm.symm
    rw [hm, show m + 1 - 1 = m from rfl] at h
    have h2 := bitLen_pos (x := (rd (dg n) (m : Int)).toNat) (by omega) (by omega)
    have hm0 : m = 0 := by omega
    subst hm0
    have hn : n < 4294967296 := by
      have := dg_lt_len n
      rw [hm, show (0 + 1 : Nat) = 0 + 1 from rfl, bp_succ, bp_zero] at this
      omega
    have h4 : dg n = [(n : Int)] := dg_small hn0 hn
    rw [h4] at h
    have h3 := bitLen_lt 1 n hn (by simp [rd] at h; omega)
    omega
  · intro h; subst h; rw [bl_small (by decide) (by decide)]; decide
theorem pow_len (x n m : Nat) (h : (dg x).length ≤ m) : (dg (x ^ n)).length ≤ m * n + 1 := by
  refine dg_len_le ?_
  have h1 := dg_lt_len x
  have h2 := bp_mono h
  have h3 : ∀ n, x ^ n ≤ bp (m * n) := by
    intro n
    induction n with
    | zero => simp [bp_zero]
    | succ n ih => rw [Nat.pow_succ, Nat.mul_succ, bp_add]; exact Nat.mul_le_mul ih (by omega)
  have h4 := h3 n
  rw [bp_succ]
  have h5 := bp_pos (m * n)
  omega
theorem and1 {n : Nat} (hn : n < 9223372036854775808) : Go.bits .and .i64 (n : Int) 1 = ((n % 2 : Nat) : Int) := by
  have := bits_mask .i64 63 (by decide) (fun n h0 h1 => by
    rw [IntKind.wrap_i64]
    have : n < 9223372036854775808 := by omega
    omega) 1 (by decide) (n : Int) (by omega) (by have : (n : Int) < 9223372036854775808 := by omega
                                                  omega)
  rw [show (2 : Int) ^ 1 - 1 = 1 from rfl, show (2 : Int) ^ 1 = 2 from rfl] at this
  rw [this]
  omega
theorem mul_len (x y : Nat) : (dg (x * y)).length ≤ (dg x).length + (dg y).length := by
  refine dg_len_le ?_
  rw [bp_add]
  exact Nat.mul_lt_mul'' (dg_lt_len x) (dg_lt_len y)
theorem times2_ev {a b : Nat} (h1 : (dg a).length < 268435456) (h2 : (dg b).length < 268435456) : Ev (fun k => nat_times.f k (dg a) (dg b)) (dg (a * b)) := by
  refine Ev.cast (times_ev (lm_dg a) (lm_dg b) h1 h2) ?_
  rw [lv_dg, lv_dg, ← Int.natCast_mul, Int.toNat_natCast]
theorem trim2_ev {a : Nat} (h1 : (dg a).length < 268435456) : Ev (fun k => nat_Trim.f k (dg a)) (dg a) := by
  refine Ev.cast (trim_ev (lm_dg a) (by omega)) ?_
  rw [lv_dg, Int.toNat_natCast]
theorem pow_half (y x n : Nat) : y * x ^ n = (if n % 2 = 1 then y * x else y) * (x * x) ^ (n / 2) := by
  have e : n = 2 * (n / 2) + n % 2 := by omega
  have h : x ^ n = (x * x) ^ (n / 2) * x ^ (n % 2) := by
    conv => lhs; rw [e]
    rw [Nat.pow_add, Nat.pow_mul, Nat.pow_two]
  rw [h]
  by_cases g : n % 2 = 1
  · rw [if_pos g, g, Nat.pow_one]; simp only [Nat.mul_assoc, Nat.mul_comm x]
  · rw [if_neg g, show n % 2 = 0 by omega, Nat.pow_zero, Nat.mul_one]
theorem pow_loop : ∀ (n : Nat), 0 < n → n < 4611686018427387904 → ∀ (y x : Nat), Aside0 ((dg x).length * n + (dg y).length ≤ 4096) → Ev (fun k => nat_Pow.l0 k (n : Int) (dg y) (dg x)) (dg (y * x ^ n), 0) := by
  intro n
  induction n using Nat.strongRecOn with
  | _ n ih =>
    intro h0 h1 y x hl
    have hx : (dg x).length ≤ 4096 := by
      have h2 := hl.out
      have h3 : (dg x).length * 1 ≤ (dg x).length * n := Nat.mul_le_mul_left _ h0
      omega
    have hy : (dg y).length ≤ 4096 := by have := hl.out; omega
    have hyx := mul_len y x
    have hxx := mul_len x x
    refine Ev.succ ?_
    have hd : (n : Int) / 2 = ((n / 2 : Nat) : Int) := by omega
    have hy2 : Aside0 ((dg (x * x)).length * (n / 2) + (dg (if n % 2 = 1 then y * x else y)).length ≤ 4096) := by
      refine ⟨?_⟩
      have h2 := hl.out
      have h3 : (dg (x * x)).length * (n / 2) ≤ ((dg x).length + (dg x).length) * (n / 2) := Nat.mul_le_mul_right _ hxx
      have h4 : ((dg x).length + (dg x).length) * (n / 2) + (dg x).length * (n % 2) = (dg x).length * n := by
        conv => rhs; rw [show n = 2 * (n / 2) + n % 2 by omega]
        rw [Nat.mul_add, ← Nat.two_mul, Nat.mul_assoc, Nat.mul_left_comm]
      by_cases g : n % 2 = 1
      · rw [if_pos g]
        rw [g, Nat.mul_one] at h4
        omega
      · rw [if_neg g]
        rw [show n % 2 = 0 by omega, Nat.mul_zero] at h4
        omega
    have fin : n / 2 = 0 → Ev (fun k => if (((dg (if n % 2 = 1 then y * x else y)).length : Nat) : Int) > 4096 then some (([] : List Int), (8 : Int)) else (nat_Trim.f k (dg (if n % 2 = 1 then y * x else y))).bind fun t => some (t, 0)) (dg (y * x ^ n), 0) := by
      intro hz
      have h2 := hy2.out
      rw [hz, Nat.mul_zero] at h2
      rw [pow_half y x n, hz, Nat.pow_zero, Nat.mul_one]
      simp only [if_neg (show ¬ (((dg (if n % 2 = 1 then y * x else y)).length : Nat) : Int) > 4096 by omega)]
      refine Ev.bind (trim2_ev (by omega)) ?_
      exact Ev.some _
    have go : n / 2 ≠ 0 → Ev (fun k => (nat_times.f k (dg x) (dg x)).bind fun t => nat_Pow.l0 k ((n / 2 : Nat) : Int) (dg (if n % 2 = 1 then y * x else y)) t) (dg (y * x ^ n), 0) := by
      intro hz
      refine Ev.bind (times2_ev (by omega) (by omega)) ?_
      rw [pow_half y x n]
      exact ih (n / 2) (by omega) (by omega) (by omega) _ _ hy2
    simp only [nat_Pow.l0, and1 (show n < 9223372036854775808 by omega), hd]
    clear hy2 hl
    by_cases g : n % 2 = 1
    · rw [if_pos g] at fin go
      simp only [if_pos (show ((n % 2 : Nat) : Int) = 1 by omega)]
      refine Ev.bind (times2_ev (by omega) (by omega)) ?_
      by_cases hz : n / 2 = 0
      · simp only [if_pos (show ((n / 2 : Nat) : Int) = 0 by omega)]
        exact fin hz
      · simp only [if_neg (show ¬ ((n / 2 : Nat) : Int) = 0 by omega)]
        exact go hz
    · rw [if_neg g] at fin go
      simp only [if_neg (show ¬ ((n % 2 : Nat) : Int) = 1 by omega)]
      by_cases hz : n / 2 = 0
      · simp only [if_pos (show ((n / 2 : Nat) : Int) = 0 by omega)]
        exact fin hz
      · simp only [if_neg (show ¬ ((n / 2 : Nat) : Int) = 0 by omega)]
        exact go hz
theorem pow_ev {x n : Nat} (hx : x < 4294967296) (hn : n < 4096) : Ev (fun k => nat_Pow.f k (dg x) (n : Int)) (dg (x ^ n), 0) := by
  have hxl : (dg x).length ≤ 1 := dg_len_le (by rw [show (1 : Nat) = 0 + 1 from rfl, bp_succ, bp_zero]; omega)
  simp only [nat_Pow.f, if_neg (show ¬ (n : Int) < 0 by omega)]
  refine Ev.bind (bits_ev (by omega)) ?_
  have one : ([1] : List Int) = dg 1 := dg_one.symm
  by_cases h0 : n = 0
  · subst h0
    simp only [if_pos (show ((0 : Nat) : Int) = 0 from rfl)]
    refine Ev.succ ?_
    simp only [nat_Pow.j0, if_true, Nat.pow_zero, one]
    exact Ev.some _
  · simp only [if_neg (show ¬ (n : Int) = 0 by omega)]
    by_cases h1 : x = 1
    · subst h1
      rw [bl_one.mpr rfl]
      refine Ev.succ ?_
      simp only [nat_Pow.j0, Nat.one_pow, one]
      exact Ev.some _
    · have hb1 : bl x ≠ 1 := fun e => h1 (bl_one.mp e)
      have hbl : bl x ≤ 32 := by
        by_cases hx0 : x = 0
        · subst hx0; rw [bl_zero.mpr rfl]; omega
        · rw [bl_small hx0 hx]; exact bits_half x hx
      rw [show (((bl x : Nat) : Int) == 1) = false from by simp; omega]
      refine Ev.succ ?_
      simp only [nat_Pow.j0, Bool.false_eq_true, if_false]
      by_cases hx0 : x = 0
      · subst hx0
        simp only [bl_zero.mpr rfl, if_pos (show ((0 : Nat) : Int) = 0 from rfl)]
        rw [Nat.zero_pow (by omega), dg_zero]
        exact Ev.some _
      · have hb0 : bl x ≠ 0 := fun e => hx0 (bl_zero.mp e)
        have hmul : (bl x - 1) * n ≤ 31 * 4095 := Nat.mul_le_mul (by omega) (by omega)
        have e2 : wrap64 (wrap64 ((bl x : Int) - 1) * (n : Int)) = (((bl x - 1) * n : Nat) : Int) := by
          rw [wn (show (bl x : Int) - 1 = ((bl x - 1 : Nat) : Int) by omega) (by omega)]
          exact wn (by rw [Int.natCast_mul]) (by omega)
        have e3 : ¬ wrap64 (wrap64 ((bl x : Int) - 1) * (n : Int)) ≥ 131072 := by rw [e2]; clear e2; omega
        simp only [if_neg (show ¬ ((bl x : Nat) : Int) = 0 by clear e2 e3; omega), if_neg (show ¬ (n : Int) > 131072 by clear e2 e3; omega), if_neg e3]
        clear e2 e3
        refine Ev.bind (short_ev (lm_dg x) (by omega)) ?_
        rw [lv_dg, Int.toNat_natCast, one]
        refine Ev.cast (pow_loop n (by omega) (by omega) 1 x ⟨?_⟩) (by rw [Nat.one_mul])
        have h5 : (dg x).length * n ≤ 1 * 4095 := Nat.mul_le_mul hxl (by omega)
        rw [dg_one]
        simp only [List.length_cons, List.length_nil]
        omega
theorem rtrim_loop {l : List Int} (hl : Lm l) (hlen : l.length < 1099511627776) : ∀ n : Nat, n ≤ l.length → (∀ i : Nat, n ≤ i → i < l.length → rd l (i : Int) = 0) →
    Ev (fun k => r1_Trim.l0 k l (n : Int)) (dg (lv l).toNat) := by
  intro n
  induction n with
  | zero =>
    intro hn hz
    refine Ev.succ ?_
    simp only [r1_Trim.l0, Option.bind_some, if_neg (show ¬ ((0 : Nat) : Int) > 0 by omega), if_pos (show (0 : Int) ≤ ((0 : Nat) : Int) by omega), if_pos (show ((0 : Nat) : Int) ≤ (l.length : Int) by omega), if_pos (show ([] : List Int).length + (l.take ((0 : Nat) : Int).toNat).length < 35184372088832 by simp), List.nil_append]
    refine Ev.cast (Ev.some _) ?_
    rw [show (((0 : Nat) : Int)).toNat = 0 from rfl]
    exact dg_take hl hn hz (.inl rfl)
  | succ n ih =>
    intro hn hz
    refine Ev.succ ?_
    have e : wrap64 (((n + 1 : Nat) : Int) - 1) = (n : Int) := by rw [w64 (by omega) (by omega)]; omega
    by_cases h : rd l (n : Int) = 0
    · simp only [r1_Trim.l0, e, if_pos (show ((n + 1 : Nat) : Int) > 0 by omega), if_pos (show (0 : Int) ≤ (n : Int) by omega), if_pos (show (n : Int) < (l.length : Int) by omega), if_pos h]
      exact ih (by omega) (fun i h1 h2 => by
        by_cases e2 : i = n
        · subst e2; exact h
        · exact hz i (by omega) h2)
    · have hlt : ([] : List Int).length + (l.take ((n + 1 : Nat) : Int).toNat).length < 35184372088832 := by
        rw [List.length_take, List.length_nil]; clear e; omega
      simp only [r1_Trim.l0, Option.bind_some, e, if_pos (show ((n + 1 : Nat) : Int) > 0 by omega), if_pos (show (0 : Int) ≤ (n : Int) by omega), if_pos (show (n : Int) < (l.length : Int) by omega), if_neg h, if_pos (show (0 : Int) ≤ ((n + 1 : Nat) : Int) by omega), if_pos (show ((n + 1 : Nat) : Int) ≤ (l.length : Int) by omega), if_pos hlt, List.nil_append]
      refine Ev.cast (Ev.some _) ?_
      rw [show (((n + 1 : Nat) : Int)).toNat = n + 1 by omega]
      exact dg_take hl hn hz (.inr h)
theorem rtrim_ev {l : List Int} (hl : Lm l) (hlen : l.length < 1099511627776) : Ev (fun k => r1_Trim.f k l) (dg (lv l).toNat) := by
  simp only [r1_Trim.f]
  exact rtrim_loop hl hlen l.length (Nat.le_refl _) (fun i h1 h2 => by omega)
theorem rtrim2_ev {a : Nat} (h1 : (dg a).length < 268435456) : Ev (fun k => r1_Trim.f k (dg a)) (dg a) := by
  refine Ev.cast (rtrim_ev (lm_dg a) (by omega)) ?_
  rw [lv_dg, Int.toNat_natCast]
theorem rof_ev {n : Nat} (hn : n < 18446744073709551616) : Ev (fun k => r1_Of.f k (n : Int)) (dg n) := by
  simp only [r1_Of.f]
  have e1 : Int.tmod (n : Int) 4294967296 = (n : Int) % 4294967296 := Int.tmod_eq_emod_of_nonneg (by omega)
  have e2 : Int.tdiv (n : Int) 4294967296 = (n : Int) / 4294967296 := Int.tdiv_eq_ediv_of_nonneg (by omega)
  rw [e1, e2, u64w (x := (n : Int) / 4294967296) (by clear e1 e2; omega) (by clear e1 e2; omega)]
  have hl : Lm [(n : Int) % 4294967296 % 4294967296, ((n : Int) / 4294967296) % 4294967296] := by
    rw [lm_cons, lm_cons]
    clear e1 e2
    exact ⟨by omega, by omega, lm_nil⟩
  refine Ev.bind (rtrim_ev hl (by simp)) ?_
  refine Ev.cast (Ev.some _) ?_
  congr 1
  simp only [lv_cons, lv_nil]
  clear e1 e2
  omega
theorem limb_eq {l : List Int} (hl : Lm l) (i : Nat) : r1_limb.f l (i : Int) = some (rd l (i : Int)) := by
  unfold r1_limb.f
  have r := rd_lm hl (i : Int)
  by_cases h : i < l.length
  · rw [if_pos (by omega), if_pos (by omega), u64w r.1 (by omega)]
  · rw [if_neg (by omega), rd_ge (by omega)]
theorem lv_take_any (l : List Int) (i : Nat) : lv (l.take (i + 1)) = lv (l.take i) + (bp i : Int) * rd l (i : Int) := by
  by_cases h : i < l.length
  · exact lv_take_succ h
  · rw [rd_ge (by omega), List.take_of_length_le (by omega), List.take_of_length_le (by omega)]; simp
theorem radd_sum {a b c : Int} (ha0 : 0 ≤ a) (ha1 : a < 4294967296) (hb0 : 0 ≤ b) (hb1 : b < 4294967296) (hc0 : 0 ≤ c) (hc1 : c ≤ 1) :
    IntKind.u64.wrap (IntKind.u64.wrap (a + b) + c) = a + b + c := by
  rw [u64w (x := a + b) (by omega) (by omega), u64w (by omega) (by omega)]
theorem tmod_nn {a : Int} (b : Int) (h : 0 ≤ a) : Int.tmod a b = a % b := Int.tmod_eq_emod_of_nonneg h
theorem tdiv_nn {a : Int} (b : Int) (h : 0 ≤ a) : Int.tdiv a b = a / b := Int.tdiv_eq_ediv_of_nonneg h
theorem radd_loop {a b : List Int} (ha : Lm a) (hb : Lm b) (hla : a.length < 549755813888) (hlb : b.length < 549755813888) : ∀ (d i : Nat) (o : List Int) (c : Int), i + d = max a.length b.length + 1 → o.length = i → Lm o → 0 ≤ c → c ≤ 1 → (d = 0 → c = 0) →
    Aside0 (lv o + (bp i : Int) * c = lv (a.take i) + lv (b.take i)) → Ev (fun k => r1_Add.l0 k a b o c (i : Int)) (dg (lv a + lv b).toNat) := by
  intro d
  induction d with
  | zero =>
    intro i o c hi ho hol hc0 hc1 hz hv
    have hc := hz rfl
    subst hc
    refine Ev.succ ?_
    simp only [r1_Add.l0, if_neg (show ¬ (i : Int) < (a.length : Int) by omega), if_neg (show ¬ (i : Int) < (b.length : Int) by omega), decide_eq_false (show ¬ (0 : Int) > 0 by omega)]
    refine Ev.succ ?_
    simp only [r1_Add.j1, Bool.false_eq_true, if_false]
    refine Ev.bind (rtrim_ev hol (by omega)) ?_
    refine Ev.cast (Ev.some _) ?_
    have hv := hv.out
    rw [List.take_of_length_le (by omega), List.take_of_length_le (by omega), Int.mul_zero, Int.add_zero] at hv
    rw [hv]
  | succ d ih =>
    intro i o c hi ho hol hc0 hc1 hz hv
    have ra := rd_lm ha (i : Int)
    have rb := rd_lm hb (i : Int)
    have body : Ev (fun k => r1_Add.j1 k a b o c (i : Int) true) (dg (lv a + lv b).toNat) := by
      refine Ev.succ ?_
      simp only [r1_Add.j1, if_true, limb_eq ha, limb_eq hb, Option.bind_some, if_pos (show o.length < 35184372088832 by omega), radd_sum ra.1 ra.2 rb.1 rb.2 hc0 hc1, tmod_nn 4294967296 (show 0 ≤ rd a (i : Int) + rd b (i : Int) + c by omega), tdiv_nn 4294967296 (show 0 ≤ rd a (i : Int) + rd b (i : Int) + c by omega), wn (show (i : Int) + 1 = ((i + 1 : Nat) : Int) by omega) (by omega), u64w (x := (rd a (i : Int) + rd b (i : Int) + c) / 4294967296) (by omega) (by omega), show (rd a (i : Int) + rd b (i : Int) + c) % 4294967296 % 4294967296 = (rd a (i : Int) + rd b (i : Int) + c) % 4294967296 by omega]
      have hs : ∃ s, s = rd a (i : Int) + rd b (i : Int) + c := ⟨_, rfl⟩
      obtain ⟨s, hs⟩ := hs
      rw [← hs]
      have hs0 : 0 ≤ s := by omega
      have hs1 : s ≤ 8589934591 := by omega
      refine ih (i + 1) _ _ (by omega) (by rw [List.length_append]; simp [ho]) (lm_append hol (lm_cons.mpr ⟨by omega, lm_nil⟩)) (by omega) (by omega) (fun hd => ?_) ⟨?_⟩
      · have h1 : rd a (i : Int) = 0 := rd_ge (by omega)
        have h2 : rd b (i : Int) = 0 := rd_ge (by omega)
        omega
      · rw [lv_append, lv_cons, lv_nil, ho, lv_take_any, lv_take_any, bp_succ, Int.natCast_mul]
        have hv := hv.out
        have hdiv : s % 4294967296 + 4294967296 * (s / 4294967296) = rd a (i : Int) + rd b (i : Int) + c := by rw [split_div]; exact hs
        clear ih hz hs hs0 hs1 ra rb hc0 hc1
        generalize s % 4294967296 = y at *
        generalize s / 4294967296 = u at *
        generalize (bp i : Int) = p at *
        generalize rd a (i : Int) = x at *
        generalize rd b (i : Int) = z at *
        generalize lv (a.take i) = la at *
        generalize lv (b.take i) = lb at *
        generalize lv o = lo at *
        show lo + p * (y + 4294967296 * 0) + 4294967296 * p * u = la + p * x + (lb + p * z)
        have h3 : p * (y + 4294967296 * u) = p * (x + z + c) := by rw [hdiv]
        have h4 : lo + p * c = la + lb := hv
        grind
    refine Ev.succ ?_
    simp only [r1_Add.l0]
    by_cases h1 : (i : Int) < (a.length : Int)
    · simp only [if_pos h1]; exact body
    · simp only [if_neg h1]
      by_cases h2 : (i : Int) < (b.length : Int)
      · simp only [if_pos h2]; exact body
      · simp only [if_neg h2]
        by_cases h3 : c > 0
        · simp only [decide_eq_true h3]; exact body
        · simp only [decide_eq_false h3]
          have hc : c = 0 := by omega
          subst hc
          refine Ev.succ ?_
          simp only [r1_Add.j1, Bool.false_eq_true, if_false]
          refine Ev.bind (rtrim_ev hol (by omega)) ?_
          refine Ev.cast (Ev.some _) ?_
          have hv := hv.out
          rw [List.take_of_length_le (by omega), List.take_of_length_le (by omega), Int.mul_zero, Int.add_zero] at hv
          rw [hv]
theorem radd_ev {a b : List Int} (ha : Lm a) (hb : Lm b) (hla : a.length < 549755813888) (hlb : b.length < 549755813888) : Ev (fun k => r1_Add.f k a b) (dg (lv a + lv b).toNat) := by
  simp only [r1_Add.f]
  exact radd_loop ha hb hla hlb _ 0 [] 0 (by rw [Nat.zero_add]) rfl lm_nil (by omega) (by omega) (fun h => by omega) ⟨by simp [lv_nil]⟩
theorem radd2_ev {a b : Nat} (ha : (dg a).length < 268435456) (hb : (dg b).length < 268435456) : Ev (fun k => r1_Add.f k (dg a) (dg b)) (dg (a + b)) := by
  refine Ev.cast (radd_ev (lm_dg a) (lm_dg b) (by omega) (by omega)) ?_
  rw [lv_dg, lv_dg, ← Int.natCast_add, Int.toNat_natCast]
theorem same_loop (a b : List Int) (hab : a.length = b.length) (hlen : a.length < 549755813888) : ∀ (d i : Nat), i + d = a.length → a.take i = b.take i → Ev (fun k => r1_Same.l0 k a b (i : Int)) (decide (a = b)) := by
  intro d
  induction d with
  | zero =>
    intro i hi he
    refine Ev.succ ?_
    simp only [r1_Same.l0, if_neg (show ¬ (i : Int) < (a.length : Int) by omega)]
    rw [List.take_of_length_le (by omega), List.take_of_length_le (by omega)] at he
    refine Ev.cast (Ev.some _) (decide_eq_true he).symm
  | succ d ih =>
    intro i hi he
    refine Ev.succ ?_
    simp only [r1_Same.l0, if_pos (show (i : Int) < (a.length : Int) by omega), if_pos (show (0 : Int) ≤ (i : Int) by omega), if_pos (show (i : Int) < (b.length : Int) by omega), wn (show (i : Int) + 1 = ((i + 1 : Nat) : Int) by omega) (by omega)]
    by_cases h : rd a (i : Int) = rd b (i : Int)
    · simp only [if_pos h]
      exact ih (i + 1) (by omega) (by rw [take_succ_rd (by omega), take_succ_rd (by omega), he, h])
    · simp only [if_neg h]
      exact Ev.cast (Ev.some _) (decide_eq_false (fun e => h (by rw [e]))).symm
theorem same_ev (a b : List Int) (hlen : a.length < 549755813888) : Ev (fun k => r1_Same.f k a b) (decide (a = b)) := by
  simp only [r1_Same.f]
  by_cases h : a.length = b.length
  · simp only [if_pos (show (a.length : Int) = (b.length : Int) by omega)]
    exact same_loop a b h hlen a.length 0 (by omega) rfl
  · simp only [if_neg (show ¬ (a.length : Int) = (b.length : Int) by omega)]
    exact Ev.cast (Ev.some _) (decide_eq_false (fun e => h (by rw [e]))).symm
theorem rmul_inner {b l : List Int} (hl : Lm l) (hb : Lm b) (hbl : b.length < 268435456) (hll : l.length < 268435456) (i : Nat) (hi : i < l.length) (V : Int) (R : List Int)
    (next : ∀ o : List Int, o.length = l.length + b.length → Lm o → (∀ j : Nat, i + 1 + b.length ≤ j → rd o (j : Int) = 0) → Aside0 (lv o = V + (bp i : Int) * (rd l (i : Int) * lv b)) → Ev (fun k => r1_Mul.l0 k l b o ((i + 1 : Nat) : Int)) R) :
    ∀ (d j : Nat) (o : List Int) (c : Int), j + d = b.length → o.length = l.length + b.length → Lm o → 0 ≤ c → c < 4294967296 → (∀ m : Nat, i + b.length ≤ m → rd o (m : Int) = 0) →
      Aside0 (lv o + (bp (i + j) : Int) * c = V + (bp i : Int) * (rd l (i : Int) * lv (b.take j))) →
      Ev (fun k => r1_Mul.l1 k l b o (i : Int) c (j : Int)) R := by
  intro d
  induction d with
  | zero =>
    intro j o c hj ho hol hc0 hc1 hz hv
    have hj : j = b.length := by omega
    subst hj
    refine Ev.succ ?_
    simp only [r1_Mul.l1, wn (show (i : Int) + (b.length : Int) = ((i + b.length : Nat) : Int) by omega) (by omega), wn (show (i : Int) + 1 = ((i + 1 : Nat) : Int) by omega) (by omega), if_neg (show ¬ ((b.length : Nat) : Int) < (b.length : Int) by omega), if_pos (show (0 : Int) ≤ ((i + b.length : Nat) : Int) by omega), if_pos (show ((i + b.length : Nat) : Int) < (o.length : Int) by omega)]
    rw [Int.toNat_natCast, show c % 4294967296 = c by omega]
    refine next _ (by rw [List.length_set]; omega) (lm_set hol hc0 hc1) (fun m hm => ?_) ⟨?_⟩
    · rw [rd_set_ne _ (by omega)]; exact hz m (by omega)
    · rw [lv_set _ (by omega), hz _ (Nat.le_refl _), Int.sub_zero, hv.out, List.take_of_length_le (Nat.le_refl _)]
  | succ d ih =>
    intro j o c hj ho hol hc0 hc1 hz hv
    have hjb : j < b.length := by omega
    have rl := rd_lm hl (i : Int)
    refine Ev.succ ?_
    have rb := rd_lm hb (j : Int)
    have ro := rd_lm hol ((i + j : Nat) : Int)
    have hb2 := mac_bound rl.1 rl.2 rb.1 rb.2 ro.1 ro.2 hc0 hc1
    have hs00 : 0 ≤ rd l (i : Int) * rd b (j : Int) + rd o ((i + j : Nat) : Int) + c := Int.add_nonneg (Int.add_nonneg hb2.1 ro.1) hc0
    simp only [r1_Mul.l1, wn (show (i : Int) + (j : Int) = ((i + j : Nat) : Int) by omega) (by omega), wn (show (j : Int) + 1 = ((j + 1 : Nat) : Int) by omega) (by omega), if_pos (show (j : Int) < (b.length : Int) by omega), if_pos (show (0 : Int) ≤ (i : Int) by omega), if_pos (show (i : Int) < (l.length : Int) by omega), if_pos (show (0 : Int) ≤ (j : Int) by omega), if_pos (show (0 : Int) ≤ ((i + j : Nat) : Int) by omega), if_pos (show ((i + j : Nat) : Int) < (o.length : Int) by omega), mac_wrap rl.1 rl.2 rb.1 rb.2 ro.1 ro.2 hc0 hc1, tmod_nn 4294967296 hs00, tdiv_nn 4294967296 hs00]
    have hdef : ∃ s, s = rd l (i : Int) * rd b (j : Int) + rd o ((i + j : Nat) : Int) + c := ⟨_, rfl⟩
    obtain ⟨s, hs⟩ := hdef
    have hs0 : 0 ≤ s := by rw [hs]; exact hs00
    have hs1 : s < 18446744073709551616 := by rw [hs]; exact hb2.2
    have hd := div_bound hs0 hs1
    clear hb2
    rw [← hs]
    rw [Int.toNat_natCast]
    have hs := Aside0.mk hs
    have hq : IntKind.u64.wrap (s / 4294967296) = s / 4294967296 := u64w hd.2.2.1 (by omega)
    rw [hq]
    clear hq
    rw [show s % 4294967296 % 4294967296 = s % 4294967296 by omega]
    refine ih (j + 1) _ _ (by omega) (by rw [List.length_set]; omega) (lm_set hol hd.1 hd.2.1) hd.2.2.1 hd.2.2.2 (fun m hm => ?_) ⟨?_⟩
    · rw [rd_set_ne _ (by omega)]; exact hz m hm
    · rw [lv_set _ (by omega), lv_take_succ hjb, ← Nat.add_assoc, bp_succ, Int.natCast_mul]
      have hdiv : s % 4294967296 + 4294967296 * (s / 4294967296) = rd l (i : Int) * rd b (j : Int) + rd o ((i + j : Nat) : Int) + c := by rw [split_div]; exact hs.out
      have hv := hv.out
      have hbp : ((bp (i + j) : Nat) : Int) = (bp i : Int) * (bp j : Int) := by rw [bp_add, Int.natCast_mul]
      clear ih hz next hs hs0 hs1 hd rb ro hc0 hc1 hs00 rl
      generalize s % 4294967296 = y at *
      generalize s / 4294967296 = u at *
      generalize (bp (i + j) : Int) = p at *
      generalize (bp i : Int) = pi at *
      generalize (bp j : Int) = pj at *
      generalize rd b (j : Int) = rb at *
      generalize rd l (i : Int) = x at *
      generalize rd o ((i + j : Nat) : Int) = ro at *
      generalize lv o = lo at *
      generalize lv (b.take j) = lt at *
      subst hbp
      have h1 : lo + pi * pj * c = V + pi * (x * lt) := hv
      have h2 : y + 4294967296 * u = x * rb + ro + c := hdiv
      show lo + pi * pj * (y - ro) + 4294967296 * (pi * pj) * u = V + pi * (x * (lt + pj * rb))
      have h3 : pi * pj * (y + 4294967296 * u) = pi * pj * (x * rb + ro + c) := by rw [h2]
      grind
theorem rmul_outer {b l : List Int} (hb : Lm b) (hl : Lm l) (hbl : b.length < 268435456) (hll : l.length < 268435456) : ∀ (d i : Nat) (o : List Int), i + d = l.length → o.length = l.length + b.length → Lm o → (∀ m : Nat, i + b.length ≤ m → rd o (m : Int) = 0) →
    Aside0 (lv o = lv (l.take i) * lv b) → Ev (fun k => r1_Mul.l0 k l b o (i : Int)) (dg (lv l * lv b).toNat) := by
  intro d
  induction d with
  | zero =>
    intro i o hi ho hol hz hv
    have hi : i = l.length := by omega
    subst hi
    refine Ev.succ ?_
    simp only [r1_Mul.l0, if_neg (show ¬ ((l.length : Nat) : Int) < (l.length : Int) by omega)]
    refine Ev.bind (rtrim_ev hol (by omega)) ?_
    refine Ev.cast (Ev.some _) ?_
    rw [hv.out, List.take_of_length_le (Nat.le_refl _)]
  | succ d ih =>
    intro i o hi ho hol hz hv
    have hil : i < l.length := by omega
    refine Ev.succ ?_
    simp only [r1_Mul.l0, if_pos (show (i : Int) < (l.length : Int) by omega)]
    refine rmul_inner hl hb hbl hll i hil (lv (l.take i) * lv b) _ (fun o2 h1 h2 h3 h4 => ?_) b.length 0 o 0 (by omega) ho hol (by omega) (by omega) hz ⟨?_⟩
    · refine ih (i + 1) o2 (by omega) h1 h2 (fun m hm => h3 m hm) ⟨?_⟩
      rw [h4.out, lv_take_succ hil, Int.add_mul, Int.mul_assoc]
    · rw [hv.out]; simp [lv_nil]
theorem rmul_ev {a b : List Int} (ha : Lm a) (hb : Lm b) (h1 : a.length < 268435456) (h2 : b.length < 268435456) : Ev (fun k => r1_Mul.f k a b) (dg (lv a * lv b).toNat) := by
  simp only [r1_Mul.f]
  simp only [wn (show (a.length : Int) + (b.length : Int) = ((a.length + b.length : Nat) : Int) by omega) (by omega), Int.toNat_natCast, if_pos (show (0 : Int) ≤ ((a.length + b.length : Nat) : Int) by omega), if_pos (show a.length + b.length ≤ 70368744177664 by omega)]
  exact rmul_outer hb ha h2 h1 a.length 0 _ (by omega) (by simp) (lm_rep _) (fun m _ => rd_rep _ m) ⟨by rw [lv_rep]; simp [lv_nil]⟩
theorem rmul2_ev {a b : Nat} (h1 : (dg a).length < 268435456) (h2 : (dg b).length < 268435456) : Ev (fun k => r1_Mul.f k (dg a) (dg b)) (dg (a * b)) := by
  refine Ev.cast (rmul_ev (lm_dg a) (lm_dg b) h1 h2) ?_
  rw [lv_dg, lv_dg, ← Int.natCast_mul, Int.toNat_natCast]
theorem rbits_loop : ∀ (b x n : Nat), x < 4294967296 → Lib.bitLen x = b → n + b < 9223372036854775000 → Ev (fun k => r1_Bits.l0 k (n : Int) (x : Int)) ((n + b : Nat) : Int) := by
  intro b
  induction b with
  | zero =>
    intro x n hx hb hn
    have h0 : x = 0 := by
      by_cases h : x = 0
      · exact h
      · have := bitLen_pos h hx; omega
    subst h0
    refine Ev.succ ?_
    simp only [r1_Bits.l0, if_neg (show ¬ ((0 : Nat) : Int) > 0 by omega)]
    exact Ev.some _
  | succ b ih =>
    intro x n hx hb hn
    have h0 : x ≠ 0 := by intro h; subst h; rw [bitLen_zero] at hb; omega
    have hb2 : b + 1 ≤ 32 := by rw [← hb]; exact bits_half x hx
    rw [Lib.bitLen_half x h0 (by omega)] at hb
    refine Ev.succ ?_
    simp only [r1_Bits.l0, if_pos (show (x : Int) > 0 by omega), tdiv_nn 2 (show (0 : Int) ≤ (x : Int) by omega), show (x : Int) / 2 % 4294967296 = ((x / 2 : Nat) : Int) by omega, wn (show (n : Int) + 1 = ((n + 1 : Nat) : Int) by omega) (by omega)]
    refine Ev.cast (ih (x / 2) (n + 1) (by omega) (by omega) (by omega)) (by omega)
theorem rbits_ev {n : Nat} (hn : (dg n).length < 33554432) : Ev (fun k => r1_Bits.f k (dg n)) ((bl n : Nat) : Int) := by
  simp only [r1_Bits.f]
  refine Ev.bind (rtrim2_ev (by omega)) ?_
  by_cases h : n = 0
  · subst h
    rw [dg_zero]
    simp only [List.length_nil, if_pos (show ((0 : Nat) : Int) = 0 from rfl)]
    exact Ev.cast (Ev.some _) (by simp [bl])
  · have hp : (dg n).length ≠ 0 := by rw [Ne, dg_len_zero]; exact h
    obtain ⟨m, hm⟩ : ∃ m, (dg n).length = m + 1 := ⟨(dg n).length - 1, by omega⟩
    have hb : bl n = 32 * m + Lib.bitLen (rd (dg n) (m : Int)).toNat := by unfold bl; rw [if_neg h, hm]; rfl
    have hr := rd_lm (lm_dg n) (m : Int)
    have hbl := bits_half (rd (dg n) (m : Int)).toNat (by omega)
    rw [hb, hm]
    simp only [if_neg (show ¬ ((m + 1 : Nat) : Int) = 0 by omega), wn (show ((m + 1 : Nat) : Int) - 1 = (m : Int) by omega) (by omega), if_pos (show (0 : Int) ≤ (m : Int) by omega), if_pos (show (m : Int) < ((m + 1 : Nat) : Int) by omega)]
    rw [wn (show (32 : Int) * (m : Int) = ((32 * m : Nat) : Int) by omega) (by omega)]
    obtain ⟨x, hx⟩ : ∃ x : Nat, rd (dg n) (m : Int) = (x : Int) := ⟨(rd (dg n) (m : Int)).toNat, by omega⟩
    rw [hx] at hr hbl ⊢
    exact rbits_loop _ x (32 * m) (by omega) rfl (by omega)
theorem bl_le_one {n : Nat} : bl n ≤ 1 ↔ n ≤ 1 := by
  constructor
  · intro h
    by_cases h1 : bl n = 1
    · rw [bl_one.mp h1]; exact Nat.le_refl _
    · have h2 : n = 0 := bl_zero.mp (by omega)
      omega
  · intro h
    by_cases h1 : n = 1
    · rw [bl_one.mpr h1]; exact Nat.le_refl _
    · have h2 : bl n = 0 := bl_zero.mpr (by omega)
      omega
theorem half_twice (n p : Nat) : n / p / 2 = n / (2 * p) := by rw [Nat.div_div_eq_div_mul, Nat.mul_comm]
theorem rpow_step (a n p : Nat) : a ^ (n / (2 * p)) * a ^ (n / (2 * p)) * (if n / p % 2 = 1 then a else 1) = a ^ (n / p) := by
  rw [← half_twice]
  generalize n / p = m
  rw [← Nat.pow_add]
  by_cases h : m % 2 = 1
  · rw [if_pos h, ← Nat.pow_succ]; congr 1; omega
  · rw [if_neg h, Nat.mul_one]; congr 1; omega
theorem rpow_loop {a n : Nat} (ha : (dg a).length ≤ 1) (hn : n < 4096) : ∀ (s : Nat), s ≤ 19 → ∀ d p : Nat, d = 2 ^ s / 2 → p = 2 ^ s → Ev (fun k => r1_Pow.l0 k (dg a) (n : Int) (dg (a ^ (n / p))) (d : Int)) (dg (a ^ n), 0) := by
  intro s
  induction s with
  | zero =>
    intro _ d p hd hp
    subst hd
    subst hp
    refine Ev.succ ?_
    rw [Nat.pow_zero, Nat.div_one]
    simp only [r1_Pow.l0, if_neg (show ¬ ((1 / 2 : Nat) : Int) > 0 by omega)]
    exact Ev.some _
  | succ s ih =>
    intro hs d p hd hp
    have hd2 : d = 2 ^ s := by rw [hd, Nat.pow_succ, Nat.mul_div_cancel _ (by decide)]
    have hp2 : p = 2 * d := by rw [hp, hd2, Nat.pow_succ, Nat.mul_comm]
    have hpos : 0 < d := by rw [hd2]; exact Nat.two_pow_pos s
    have hbig : d ≤ 524288 := by rw [hd2]; exact Nat.pow_le_pow_right (n := 2) (by decide) (show s ≤ 19 by omega)
    have hle : ∀ m, m ≤ n → (dg (a ^ m)).length ≤ 4096 := by
      intro m hm
      have := pow_len a m 1 ha
      omega
    have hm1 : n / p ≤ n := Nat.div_le_self _ _
    have hm2 : n / d ≤ n := Nat.div_le_self _ _
    have hl1 := hle _ hm1
    have hl2 := hle _ hm2
    have hst := rpow_step a n d
    rw [← hp2] at hst
    have hsq := mul_len (a ^ (n / p)) (a ^ (n / p))
    refine Ev.succ ?_
    have hw : wrap64 ((n / d : Nat) : Int) = ((n / d : Nat) : Int) := wn rfl (by omega)
    have hq : Int.tdiv (n : Int) (d : Int) = ((n / d : Nat) : Int) := by rw [Int.tdiv_eq_ediv_of_nonneg (by omega), ← Int.natCast_ediv]
    have hm : Int.tmod ((n / d : Nat) : Int) 2 = ((n / d % 2 : Nat) : Int) := by rw [Int.tmod_eq_emod_of_nonneg (Int.natCast_nonneg _)]; rfl
    have hh : wrap64 (Int.tdiv (d : Int) 2) = ((d / 2 : Nat) : Int) := by
      clear hw hq hm
      rw [Int.tdiv_eq_ediv_of_nonneg (by omega)]; exact wn (by omega) (by omega)
    simp only [r1_Pow.l0, if_pos (show (d : Int) > 0 by omega), if_neg (show ¬ (d : Int) = 0 by omega), hq, hw, hm, hh]
    clear hq hw hm hh
    refine Ev.bind (rmul2_ev (by omega) (by omega)) ?_
    have nx := ih (by omega) (d / 2) d (by rw [hd2]) hd2
    by_cases g : n / d % 2 = 1
    · rw [if_pos g] at hst
      simp only [if_pos (show ((n / d % 2 : Nat) : Int) = 1 by omega)]
      refine Ev.bind (rmul2_ev (by omega) (by omega)) ?_
      rw [hst]
      simp only [if_neg (show ¬ (((dg (a ^ (n / d))).length : Nat) : Int) > 4096 by omega)]
      exact nx
    · rw [if_neg g, Nat.mul_one] at hst
      simp only [if_neg (show ¬ ((n / d % 2 : Nat) : Int) = 1 by omega)]
      rw [hst]
      simp only [if_neg (show ¬ (((dg (a ^ (n / d))).length : Nat) : Int) > 4096 by omega)]
      exact nx
theorem rpow_ev {x n : Nat} (hx : x < 4294967296) (hn : n < 4096) : Ev (fun k => r1_Pow.f k (dg x) (n : Int)) (dg (x ^ n), 0) := by
  have hxl : (dg x).length ≤ 1 := dg_len_le (by rw [show (1 : Nat) = 0 + 1 from rfl, bp_succ, bp_zero]; omega)
  simp only [r1_Pow.f, if_neg (show ¬ (n : Int) < 0 by omega)]
  refine Ev.bind (rtrim2_ev (by omega)) ?_
  have one : ([1] : List Int) = dg 1 := dg_one.symm
  by_cases h0 : n = 0
  · subst h0
    simp only [if_pos (show ((0 : Nat) : Int) = 0 from rfl), Nat.pow_zero, one]
    exact Ev.some _
  · simp only [if_neg (show ¬ (n : Int) = 0 by omega)]
    refine Ev.bind (rbits_ev (by omega)) ?_
    by_cases h1 : x ≤ 1
    · have := bl_le_one.mpr h1
      simp only [if_pos (show ((bl x : Nat) : Int) ≤ 1 by omega)]
      have hx1 : x ^ n = x := by
        have : x = 0 ∨ x = 1 := by omega
        rcases this with e | e
        · subst e; exact Nat.zero_pow (by omega)
        · subst e; exact Nat.one_pow _
      rw [hx1]
      exact Ev.some _
    · have hb : ¬ bl x ≤ 1 := fun e => h1 (bl_le_one.mp e)
      simp only [if_neg (show ¬ ((bl x : Nat) : Int) ≤ 1 by omega), if_neg (show ¬ (n : Int) > 131072 by omega)]
      have := rpow_loop hxl hn 19 (Nat.le_refl _) 262144 524288 (by decide) (by decide)
      rw [Nat.div_eq_of_lt (show n < 524288 by omega), Nat.pow_zero, dg_one] at this
      exact this
def cmpZ (x y : Int) : Int := if x < y then -1 else if y < x then 1 else 0
theorem take_bound {a : List Int} (ha : Lm a) (n : Nat) : 0 ≤ lv (a.take n) ∧ lv (a.take n) < bp n := by
  have h1 := lv_nonneg (lm_take ha n)
  have h2 := lv_le_of_len (lm_take ha n) (m := n) (by rw [List.length_take]; omega)
  omega
theorem cmp_lt {a b : List Int} (ha : Lm a) (hb : Lm b) (n : Nat) (h : rd a (n : Int) < rd b (n : Int)) : lv (a.take (n + 1)) < lv (b.take (n + 1)) := by
  have h1 := take_bound ha n
  have h2 := take_bound hb n
  have h3 : (bp n : Int) * (rd a (n : Int) + 1) ≤ (bp n : Int) * rd b (n : Int) := Int.mul_le_mul_of_nonneg_left (by omega) (by omega)
  rw [lv_take_any, lv_take_any]
  rw [Int.mul_add, Int.mul_one] at h3
  generalize (bp n : Int) * rd a (n : Int) = x at *
  generalize (bp n : Int) * rd b (n : Int) = y at *
  omega
theorem cmp_step {a b : List Int} (ha : Lm a) (hb : Lm b) (n : Nat) : cmpZ (lv (a.take (n + 1))) (lv (b.take (n + 1))) = if rd a (n : Int) < rd b (n : Int) then -1 else if rd b (n : Int) < rd a (n : Int) then 1 else cmpZ (lv (a.take n)) (lv (b.take n)) := by
  by_cases h : rd a (n : Int) < rd b (n : Int)
  · rw [if_pos h]
    unfold cmpZ
    rw [if_pos (cmp_lt ha hb n h)]
  · rw [if_neg h]
    by_cases g : rd b (n : Int) < rd a (n : Int)
    · rw [if_pos g]
      have := cmp_lt hb ha n g
      unfold cmpZ
      rw [if_neg (by omega), if_pos this]
    · rw [if_neg g]
      have e : rd a (n : Int) = rd b (n : Int) := by omega
      rw [lv_take_any, lv_take_any, e]
      unfold cmpZ
      generalize (bp n : Int) * rd b (n : Int) = y at *
      by_cases h1 : lv (a.take n) < lv (b.take n)
      · rw [if_pos h1, if_pos (by omega)]
      · rw [if_neg h1, if_neg (by omega)]
        by_cases h2 : lv (b.take n) < lv (a.take n)
        · rw [if_pos h2, if_pos (by omega)]
        · rw [if_neg h2, if_neg (by omega)]
theorem ncmp_loop {a b : List Int} (ha : Lm a) (hb : Lm b) (hlen : a.length < 1073741824) (hab : a.length = b.length) : ∀ n : Nat, n ≤ a.length → Ev (fun k => nat_Cmp.l0 k a b ((n : Int) - 1)) (cmpZ (lv (a.take n)) (lv (b.take n))) := by
  intro n
  induction n with
  | zero =>
    intro _
    refine Ev.succ ?_
    simp only [nat_Cmp.l0, if_neg (show ¬ ((0 : Nat) : Int) - 1 ≥ 0 by omega)]
    exact Ev.cast (Ev.some _) (by simp [cmpZ])
  | succ n ih =>
    intro hn
    refine Ev.succ ?_
    rw [cmp_step ha hb n]
    simp only [nat_Cmp.l0, show ((n + 1 : Nat) : Int) - 1 = (n : Int) from by omega, if_pos (show (n : Int) ≥ 0 by omega), if_pos (show (0 : Int) ≤ (n : Int) by omega), if_pos (show (n : Int) < (a.length : Int) by omega), if_pos (show (n : Int) < (b.length : Int) by omega), w64 (x := (n : Int) - 1) (by omega) (by omega)]
    by_cases h : rd a (n : Int) < rd b (n : Int)
    · simp only [if_pos h]; exact Ev.some _
    · simp only [if_neg h]
      by_cases g : rd b (n : Int) < rd a (n : Int)
      · simp only [if_pos g, if_pos (show rd a (n : Int) > rd b (n : Int) from g)]; exact Ev.some _
      · simp only [if_neg g, if_neg (show ¬ rd a (n : Int) > rd b (n : Int) from g)]; exact ih (by omega)
theorem ncmp_ev {a b : Nat} (h1 : (dg a).length < 268435456) (h2 : (dg b).length < 268435456) : Ev (fun k => nat_Cmp.f k (dg a) (dg b)) (cmpZ (a : Int) (b : Int)) := by
  simp only [nat_Cmp.f]
  refine Ev.bind (short_ev (lm_dg a) (by omega)) ?_
  refine Ev.bind (short_ev (lm_dg b) (by omega)) ?_
  rw [lv_dg, lv_dg, Int.toNat_natCast, Int.toNat_natCast]
  by_cases h : (dg a).length = (dg b).length
  · simp only [if_pos (show ((dg a).length : Int) = ((dg b).length : Int) by omega), w64 (x := ((dg a).length : Int) - 1) (by omega) (by omega)]
    have := ncmp_loop (lm_dg a) (lm_dg b) (by omega) h _ (Nat.le_refl _)
    rw [List.take_of_length_le (Nat.le_refl _), List.take_of_length_le (by omega), lv_dg, lv_dg] at this
    exact this
  · simp only [if_neg (show ¬ ((dg a).length : Int) = ((dg b).length : Int) by omega)]
    by_cases g : (dg a).length < (dg b).length
    · simp only [if_pos (show ((dg a).length : Int) < ((dg b).length : Int) by omega)]
      have hlt : a < b := by
        by_cases e : b ≤ a
        · have := dg_len_mono e; omega
        · omega
      exact Ev.cast (Ev.some _) (by unfold cmpZ; rw [if_pos (by omega)])
    · simp only [if_neg (show ¬ ((dg a).length : Int) < ((dg b).length : Int) by omega)]
      have hlt : b < a := by
        by_cases e : a ≤ b
        · have := dg_len_mono e; omega
        · omega
      exact Ev.cast (Ev.some _) (by unfold cmpZ; rw [if_neg (by omega), if_pos (by omega)])
theorem rcmp_loop {a b : List Int} (ha : Lm a) (hb : Lm b) : ∀ n : Nat, n < 1073741824 → Ev (fun k => r1_Cmp.l0 k a b ((n : Int) - 1)) (cmpZ (lv (a.take n)) (lv (b.take n))) := by
  intro n
  induction n with
  | zero =>
    intro _
    refine Ev.succ ?_
    simp only [r1_Cmp.l0, if_neg (show ¬ ((0 : Nat) : Int) - 1 ≥ 0 by omega)]
    exact Ev.cast (Ev.some _) (by simp [cmpZ])
  | succ n ih =>
    intro hn
    refine Ev.succ ?_
    rw [cmp_step ha hb n]
    simp only [r1_Cmp.l0, show ((n + 1 : Nat) : Int) - 1 = (n : Int) from by omega, if_pos (show (n : Int) ≥ 0 by omega), limb_eq ha, limb_eq hb, Option.bind_some, w64 (x := (n : Int) - 1) (by omega) (by omega)]
    by_cases h : rd a (n : Int) < rd b (n : Int)
    · simp only [if_pos h]; exact Ev.some _
    · simp only [if_neg h]
      by_cases g : rd b (n : Int) < rd a (n : Int)
      · simp only [if_pos g, if_pos (show rd a (n : Int) > rd b (n : Int) from g)]; exact Ev.some _
      · simp only [if_neg g, if_neg (show ¬ rd a (n : Int) > rd b (n : Int) from g)]; exact ih (by omega)
theorem rcmp_ev {a b : Nat} (h1 : (dg a).length < 268435456) (h2 : (dg b).length < 268435456) : Ev (fun k => r1_Cmp.f k (dg a) (dg b)) (cmpZ (a : Int) (b : Int)) := by
  simp only [r1_Cmp.f]
  have hm : mx ((dg a).length : Int) ((dg b).length : Int) = ((max (dg a).length (dg b).length : Nat) : Int) := by unfold mx; split <;> omega
  rw [hm, w64 (x := ((max (dg a).length (dg b).length : Nat) : Int) - 1) (by clear hm; omega) (by clear hm; omega)]
  have := rcmp_loop (lm_dg a) (lm_dg b) (max (dg a).length (dg b).length) (by clear hm; omega)
  rw [List.take_of_length_le (by clear hm; omega), List.take_of_length_le (by clear hm; omega), lv_dg, lv_dg] at this
  exact this
theorem sub_low {a b c : Int} (ha0 : 0 ≤ a) (ha1 : a < 4294967296) (hb0 : 0 ≤ b) (hb1 : b < 4294967296) (hc0 : 0 ≤ c) (hc1 : c ≤ 1) :
    IntKind.u64.wrap (IntKind.u64.wrap (IntKind.u64.wrap a - c) - IntKind.u64.wrap b) % 4294967296 = (a - c - b) % 4294967296 := by
  simp only [u64m]; omega
theorem sub_high {a b c : Int} (ha0 : 0 ≤ a) (ha1 : a < 4294967296) (hb0 : 0 ≤ b) (hb1 : b < 4294967296) (hc0 : 0 ≤ c) (hc1 : c ≤ 1) :
    IntKind.u64.wrap (IntKind.u64.wrap (IntKind.u64.wrap a - c) - IntKind.u64.wrap b) / 9223372036854775808 = -((a - c - b) / 4294967296) := by
  simp only [u64m]; omega
theorem sub_low0 {a c : Int} (ha0 : 0 ≤ a) (ha1 : a < 4294967296) (hc0 : 0 ≤ c) (hc1 : c ≤ 1) : IntKind.u64.wrap (IntKind.u64.wrap a - c) % 4294967296 = (a - c - 0) % 4294967296 := by
  simp only [u64m]; omega
theorem sub_high0 {a c : Int} (ha0 : 0 ≤ a) (ha1 : a < 4294967296) (hc0 : 0 ≤ c) (hc1 : c ≤ 1) : IntKind.u64.wrap (IntKind.u64.wrap a - c) / 9223372036854775808 = -((a - c - 0) / 4294967296) := by
  simp only [u64m]; omega
theorem sub_bounds {a b c : Int} (ha0 : 0 ≤ a) (ha1 : a < 4294967296) (hb0 : 0 ≤ b) (hb1 : b < 4294967296) (hc0 : 0 ≤ c) (hc1 : c ≤ 1) :
    0 ≤ (a - c - b) % 4294967296 ∧ (a - c - b) % 4294967296 < 4294967296 ∧ 0 ≤ -((a - c - b) / 4294967296) ∧ -((a - c - b) / 4294967296) ≤ 1 ∧ (a - c - b) % 4294967296 = a - c - b + 4294967296 * -((a - c - b) / 4294967296) := by omega
theorem nsub_loop {a b : List Int} (ha : Lm a) (hb : Lm b) (hlen : a.length < 1073741824) (hba : b.length ≤ a.length) (hle : lv b ≤ lv a) : ∀ (d i : Nat) (o : List Int) (c : Int), i + d = a.length → o.length = a.length → Lm o → 0 ≤ c → c ≤ 1 → (∀ j : Nat, i ≤ j → rd o (j : Int) = rd a (j : Int)) →
    Aside0 (lv o = lv a - lv (b.take i) + (bp i : Int) * c) → Ev (fun k => nat_Sub.l0 k b o c (a.length : Int) (i : Int)) (dg (lv a - lv b).toNat, 0) := by
  intro d
  induction d with
  | zero =>
    intro i o c hi ho hol hc0 hc1 hr hv
    have hi : i = a.length := by omega
    subst hi
    refine Ev.succ ?_
    simp only [nat_Sub.l0, if_neg (show ¬ ((a.length : Nat) : Int) < (a.length : Int) by omega)]
    refine Ev.bind (short_ev hol (by omega)) ?_
    refine Ev.cast (Ev.some _) ?_
    have hv := hv.out
    rw [List.take_of_length_le hba] at hv
    have h1 := lv_le_of_len hol (m := a.length) (by omega)
    have h2 := lv_nonneg hol
    have hc : c = 0 := by
      by_cases e : c = 1
      · subst e; rw [Int.mul_one] at hv; omega
      · omega
    subst hc
    rw [hv, Int.mul_zero, Int.add_zero]
  | succ d ih =>
    intro i o c hi ho hol hc0 hc1 hr hv
    have hia : i < a.length := by omega
    have ra := rd_lm ha (i : Int)
    have rb := rd_lm hb (i : Int)
    have hri := hr i (Nat.le_refl _)
    have step : Ev (fun k => nat_Sub.l0 k b (o.set ((i : Int)).toNat ((rd a (i : Int) - c - rd b (i : Int)) % 4294967296)) (-((rd a (i : Int) - c - rd b (i : Int)) / 4294967296)) (a.length : Int) ((i + 1 : Nat) : Int)) (dg (lv a - lv b).toNat, 0) := by
      have sb := sub_bounds ra.1 ra.2 rb.1 rb.2 hc0 hc1
      rw [Int.toNat_natCast]
      refine ih (i + 1) _ _ (by omega) (by rw [List.length_set]; exact ho) (lm_set hol sb.1 sb.2.1) sb.2.2.1 sb.2.2.2.1 (fun j hj => ?_) ⟨?_⟩
      · rw [rd_set_ne _ (by omega)]; exact hr j (by omega)
      · rw [lv_set _ (by omega), lv_take_any, bp_succ, Int.natCast_mul, sb.2.2.2.2, hri, hv.out]
        generalize -((rd a (i : Int) - c - rd b (i : Int)) / 4294967296) = u at *
        generalize (bp i : Int) = p at *
        generalize rd a (i : Int) = x at *
        generalize rd b (i : Int) = y at *
        show lv a - lv (b.take i) + p * c + p * (x - c - y + 4294967296 * u - x) = lv a - (lv (b.take i) + p * y) + 4294967296 * p * u
        grind
    refine Ev.succ ?_
    by_cases hib : i < b.length
    · simp only [nat_Sub.l0, wn (show (i : Int) + 1 = ((i + 1 : Nat) : Int) by omega) (by omega), if_pos (show (i : Int) < (a.length : Int) by omega), if_pos (show (0 : Int) ≤ (i : Int) by omega), if_pos (show (i : Int) < (o.length : Int) by omega), if_pos (show (i : Int) < (b.length : Int) by omega), hri, sub_low ra.1 ra.2 rb.1 rb.2 hc0 hc1, sub_high ra.1 ra.2 rb.1 rb.2 hc0 hc1]
      exact step
    · have hb0 : rd b (i : Int) = 0 := rd_ge (by omega)
      rw [hb0] at step
      simp only [nat_Sub.l0, wn (show (i : Int) + 1 = ((i + 1 : Nat) : Int) by omega) (by omega), if_pos (show (i : Int) < (a.length : Int) by omega), if_pos (show (0 : Int) ≤ (i : Int) by omega), if_pos (show (i : Int) < (o.length : Int) by omega), if_neg (show ¬ (i : Int) < (b.length : Int) by omega), hri, sub_low0 ra.1 ra.2 hc0 hc1, sub_high0 ra.1 ra.2 hc0 hc1]
      exact step
theorem nsub_ev {a b : Nat} (h1 : (dg a).length < 268435456) (hab : b ≤ a) : Ev (fun k => nat_Sub.f k (dg a) (dg b)) (dg (a - b), 0) := by
  have hl := dg_len_mono hab
  simp only [nat_Sub.f]
  refine Ev.bind (ncmp_ev (by omega) (by omega)) ?_
  have hc : ¬ cmpZ (a : Int) (b : Int) < 0 := by unfold cmpZ; rw [if_neg (by omega)]; split <;> omega
  simp only [if_neg hc]
  refine Ev.bind (trim2_ev (by omega)) ?_
  refine Ev.cast (nsub_loop (lm_dg a) (lm_dg b) (by omega) hl (by rw [lv_dg, lv_dg]; omega) (dg a).length 0 _ 0 (by omega) rfl (lm_dg a) (by omega) (by omega) (fun j _ => rfl) ⟨by simp [lv_nil]⟩) ?_
  rw [lv_dg, lv_dg]
  congr 2
  omega
theorem rsub_sum {a b c : Int} (ha0 : 0 ≤ a) (ha1 : a < 4294967296) (hb0 : 0 ≤ b) (hb1 : b < 4294967296) (hc0 : 0 ≤ c) (hc1 : c ≤ 1) :
    IntKind.u64.wrap (IntKind.u64.wrap (IntKind.u64.wrap (a + 4294967296) - b) - c) = a + 4294967296 - b - c := by
  rw [u64w (x := a + 4294967296) (by omega) (by omega), u64w (x := a + 4294967296 - b) (by omega) (by omega), u64w (by omega) (by omega)]
theorem rsub_loop {a b : List Int} (ha : Lm a) (hb : Lm b) (hlen : a.length < 1073741824) (hba : b.length ≤ a.length) (hle : lv b ≤ lv a) : ∀ (d i : Nat) (o : List Int) (c : Int), i + d = a.length → o.length = i → Lm o → 0 ≤ c → c ≤ 1 →
    Aside0 (lv o = lv (a.take i) - lv (b.take i) + (bp i : Int) * c) → Ev (fun k => r1_Sub.l0 k a b o c (i : Int)) (dg (lv a - lv b).toNat) := by
  intro d
  induction d with
  | zero =>
    intro i o c hi ho hol hc0 hc1 hv
    have hi : i = a.length := by omega
    subst hi
    refine Ev.succ ?_
    simp only [r1_Sub.l0, if_neg (show ¬ ((a.length : Nat) : Int) < (a.length : Int) by omega)]
    refine Ev.bind (rtrim_ev hol (by omega)) ?_
    refine Ev.cast (Ev.some _) ?_
    have hv := hv.out
    rw [List.take_of_length_le (Nat.le_refl _), List.take_of_length_le hba] at hv
    have h1 := lv_le_of_len hol (m := a.length) (by omega)
    have h2 := lv_nonneg hol
    have hc : c = 0 := by
      by_cases e : c = 1
      · subst e; rw [Int.mul_one] at hv; omega
      · omega
    subst hc
    rw [hv, Int.mul_zero, Int.add_zero]
  | succ d ih =>
    intro i o c hi ho hol hc0 hc1 hv
    have hia : i < a.length := by omega
    have ra := rd_lm ha (i : Int)
    have rb := rd_lm hb (i : Int)
    have hsd : ∃ s, s = rd a (i : Int) + 4294967296 - rd b (i : Int) - c := ⟨_, rfl⟩
    obtain ⟨s, hs⟩ := hsd
    have hs0 : 0 ≤ s := by omega
    have hs1 : s < 8589934592 := by omega
    refine Ev.succ ?_
    simp only [r1_Sub.l0, limb_eq ha, limb_eq hb, Option.bind_some, if_pos (show (i : Int) < (a.length : Int) by omega), if_pos (show o.length < 35184372088832 by omega), rsub_sum ra.1 ra.2 rb.1 rb.2 hc0 hc1, ← hs, tmod_nn 4294967296 hs0, tdiv_nn 4294967296 hs0, wn (show (i : Int) + 1 = ((i + 1 : Nat) : Int) by omega) (by omega), u64w (x := s / 4294967296) (by omega) (by omega), u64w (x := 1 - s / 4294967296) (by omega) (by omega), show s % 4294967296 % 4294967296 = s % 4294967296 by omega]
    refine ih (i + 1) _ _ (by omega) (by rw [List.length_append]; simp [ho]) (lm_append hol (lm_cons.mpr ⟨by omega, lm_nil⟩)) (by omega) (by omega) ⟨?_⟩
    rw [lv_append, lv_cons, lv_nil, ho, lv_take_any, lv_take_any, bp_succ, Int.natCast_mul, hv.out]
    have hdiv : s % 4294967296 + 4294967296 * (s / 4294967296) = rd a (i : Int) + 4294967296 - rd b (i : Int) - c := by rw [split_div]; exact hs
    clear ih hs hs0 hs1 ra rb hc0 hc1 hv
    generalize s % 4294967296 = y at *
    generalize s / 4294967296 = u at *
    generalize (bp i : Int) = p at *
    generalize rd a (i : Int) = x at *
    generalize rd b (i : Int) = z at *
    generalize lv (a.take i) = la at *
    generalize lv (b.take i) = lb at *
    show la - lb + p * c + p * (y + 4294967296 * 0) = la + p * x - (lb + p * z) + 4294967296 * p * (1 - u)
    have h3 : p * (y + 4294967296 * u) = p * (x + 4294967296 - z - c) := by rw [hdiv]
    grind
theorem rsub_ev {a b : Nat} (h1 : (dg a).length < 268435456) (hab : b ≤ a) : Ev (fun k => r1_Sub.f k (dg a) (dg b)) (dg (a - b)) := by
  have hl := dg_len_mono hab
  simp only [r1_Sub.f]
  refine Ev.cast (rsub_loop (lm_dg a) (lm_dg b) (by omega) hl (by rw [lv_dg, lv_dg]; omega) (dg a).length 0 [] 0 (by omega) rfl lm_nil (by omega) (by omega) ⟨by simp [lv_nil]⟩) ?_
  rw [lv_dg, lv_dg]
  congr 1
  omega
theorem bitLen_ge : ∀ (b x : Nat), x < 4294967296 → x ≠ 0 → Lib.bitLen x = b + 1 → 2 ^ b ≤ x := by
  intro b
  induction b with
  | zero => intro x _ h0 _; rw [Nat.pow_zero]; omega
  | succ b ih =>
    intro x hx h0 hb
    rw [Lib.bitLen_half x h0 (by omega)] at hb
    have h2 : x / 2 ≠ 0 := by intro e; rw [e, bitLen_zero] at hb; omega
    have := ih (x / 2) (by omega) h2 (by omega)
    rw [Nat.pow_succ]
    omega
theorem bl_bounds {n : Nat} (h : n ≠ 0) : 2 ^ (bl n - 1) ≤ n ∧ n < 2 ^ bl n ∧ 1 ≤ bl n := by
  have hp : (dg n).length ≠ 0 := by rw [Ne, dg_len_zero]; exact h
  obtain ⟨m, hm⟩ : ∃ m, (dg n).length = m + 1 := ⟨(dg n).length - 1, by omega⟩
  have hb : bl n = 32 * m + Lib.bitLen (rd (dg n) (m : Int)).toNat := by unfold bl; rw [if_neg h, hm]; rfl
  have hr := rd_lm (lm_dg n) (m : Int)
  have ht := dg_head hm.symm
  obtain ⟨x, hx⟩ : ∃ x : Nat, rd (dg n) (m : Int) = (x : Int) := ⟨(rd (dg n) (m : Int)).toNat, by omega⟩
  have hv : lv (dg n) = lv ((dg n).take m) + (bp m : Int) * (x : Int) := by
    have := lv_take_succ (l := dg n) (i := m) (by omega)
    rw [← hm, List.take_of_length_le (Nat.le_refl _), hx] at this
    exact this
  have hlow := take_bound (lm_dg n) m
  rw [lv_dg] at hv
  rw [hx] at hr ht hb
  rw [Int.toNat_natCast] at hb
  have hx0 : x ≠ 0 := by omega
  have hx1 : x < 4294967296 := by omega
  obtain ⟨c, hc⟩ : ∃ c, Lib.bitLen x = c + 1 := ⟨Lib.bitLen x - 1, by have := bitLen_pos hx0 hx1; omega⟩
  have h1 := bitLen_ge c x hx1 hx0 hc
  have h2 := bitLen_lt (c + 1) x hx1 (by omega)
  obtain ⟨y, hy⟩ : ∃ y : Nat, lv ((dg n).take m) = (y : Int) := ⟨(lv ((dg n).take m)).toNat, by omega⟩
  rw [hy] at hlow hv
  have hn : n = y + bp m * x := by
    have : ((n : Nat) : Int) = ((y + bp m * x : Nat) : Int) := by rw [hv, Int.natCast_add, Int.natCast_mul]
    omega
  have hy2 : y < bp m := by omega
  rw [hb, hc]
  refine ⟨?_, ?_, by omega⟩
  · rw [show 32 * m + (c + 1) - 1 = 32 * m + c by omega, Nat.pow_add, pow2_bp]
    have := Nat.mul_le_mul_left (bp m) h1
    omega
  · rw [Nat.pow_add, pow2_bp]
    have h3 : bp m * (x + 1) ≤ bp m * 2 ^ (c + 1) := Nat.mul_le_mul_left _ (by omega)
    rw [Nat.mul_add, Nat.mul_one] at h3
    omega
theorem shl_limb {x c : Int} {m : Nat} (hx0 : 0 ≤ x) (hx1 : x < 4294967296) (hm : m < 32) (hc0 : 0 ≤ c) (hc1 : c < 4294967296) :
    IntKind.u64.wrap (shl .u64 (IntKind.u64.wrap x) (m : Int) + c) = x * ((2 ^ m : Nat) : Int) + c ∧ 0 ≤ x * ((2 ^ m : Nat) : Int) + c ∧ x * ((2 ^ m : Nat) : Int) + c < 18446744073709551616 := by
  have hp : 2 ^ m ≤ 2147483648 := Nat.pow_le_pow_right (n := 2) (by decide) (show m ≤ 31 by omega)
  have hb : x * ((2 ^ m : Nat) : Int) ≤ 4294967295 * 2147483648 := Int.mul_le_mul (by omega) (Int.ofNat_le.mpr hp) (Int.natCast_nonneg _) (by decide)
  have h0 : 0 ≤ x * ((2 ^ m : Nat) : Int) := Int.mul_nonneg hx0 (Int.natCast_nonneg _)
  have e : shl .u64 (IntKind.u64.wrap x) (m : Int) = x * ((2 ^ m : Nat) : Int) := by
    unfold shl
    rw [u64w (x := x) hx0 (by omega), Int.toNat_natCast, Nat.min_eq_left (show m ≤ IntKind.u64.bits by simp [IntKind.bits]; omega)]
    rw [show (2 : Int) ^ m = ((2 ^ m : Nat) : Int) by rw [Int.natCast_pow]; rfl]
    exact u64w h0 (by omega)
  rw [e]
  generalize x * ((2 ^ m : Nat) : Int) = y at *
  exact ⟨u64w (by omega) (by omega), by omega, by omega⟩
theorem rshift_loop {a : List Int} {n m z : Nat} (ha : Lm a) (hla : a.length < 268435456) (hz : z < 268435456) (hnm : Int.tmod (n : Int) 32 = (m : Int)) (hm : m < 32) : ∀ (d i : Nat) (o : List Int) (c : Int), i + d = a.length → o.length = z + i → Lm o → 0 ≤ c → c < 4294967296 →
    Aside0 (lv o + (bp (z + i) : Int) * c = (bp z : Int) * (lv (a.take i) * ((2 ^ m : Nat) : Int))) → Ev (fun k => r1_shift.l0 k a (n : Int) o c (i : Int)) (dg ((bp z : Int) * (lv a * ((2 ^ m : Nat) : Int))).toNat) := by
  intro d
  induction d with
  | zero =>
    intro i o c hi ho hol hc0 hc1 hv
    have hi : i = a.length := by omega
    subst hi
    refine Ev.succ ?_
    simp only [r1_shift.l0, if_neg (show ¬ ((a.length : Nat) : Int) < (a.length : Int) by omega), if_pos (show o.length < 35184372088832 by omega)]
    have hl : Lm (o ++ [c % 4294967296]) := lm_append hol (lm_cons.mpr ⟨by omega, lm_nil⟩)
    refine Ev.bind (rtrim_ev hl (by rw [List.length_append]; simp; omega)) ?_
    refine Ev.cast (Ev.some _) ?_
    have hv := hv.out
    rw [List.take_of_length_le (Nat.le_refl _)] at hv
    rw [lv_append, lv_cons, lv_nil, ho, show c % 4294967296 = c by omega, Int.mul_zero, Int.add_zero, hv]
  | succ d ih =>
    intro i o c hi ho hol hc0 hc1 hv
    have hia : i < a.length := by omega
    have ra := rd_lm ha (i : Int)
    have sl := shl_limb ra.1 ra.2 hm hc0 hc1
    refine Ev.succ ?_
    simp only [r1_shift.l0, hnm, sl.1, if_pos (show (i : Int) < (a.length : Int) by omega), if_pos (show (0 : Int) ≤ (i : Int) by omega), if_pos (show (0 : Int) ≤ (m : Int) by omega), if_pos (show o.length < 35184372088832 by omega), wn (show (i : Int) + 1 = ((i + 1 : Nat) : Int) by omega) (by omega), tmod_nn 4294967296 sl.2.1, tdiv_nn 4294967296 sl.2.1]
    have hsd : ∃ s, s = rd a (i : Int) * ((2 ^ m : Nat) : Int) + c := ⟨_, rfl⟩
    obtain ⟨s, hs⟩ := hsd
    have hs0 : 0 ≤ s := by rw [hs]; exact sl.2.1
    have hs1 : s < 18446744073709551616 := by rw [hs]; exact sl.2.2
    clear sl
    rw [← hs]
    have hd := div_bound hs0 hs1
    have hs := Aside0.mk hs
    rw [show s % 4294967296 % 4294967296 = s % 4294967296 by omega]
    rw [u64w (x := s / 4294967296) hd.2.2.1 (by omega)]
    refine ih (i + 1) _ _ (by omega) (by rw [List.length_append]; simp [ho]; omega) (lm_append hol (lm_cons.mpr ⟨⟨hd.1, hd.2.1⟩, lm_nil⟩)) hd.2.2.1 hd.2.2.2 ⟨?_⟩
    have hdiv : s % 4294967296 + 4294967296 * (s / 4294967296) = rd a (i : Int) * ((2 ^ m : Nat) : Int) + c := by rw [split_div]; exact hs.out
    rw [lv_append, lv_cons, lv_nil, ho, lv_take_any, ← Nat.add_assoc, bp_succ, Int.natCast_mul]
    have hv := hv.out
    have hbp : ((bp (z + i) : Nat) : Int) = (bp z : Int) * (bp i : Int) := by rw [bp_add, Int.natCast_mul]
    clear ih hs hs0 hs1 hd ra hc0 hc1 hnm hm
    generalize s % 4294967296 = y at *
    generalize s / 4294967296 = u at *
    generalize (bp (z + i) : Int) = p at *
    generalize (bp z : Int) = pz at *
    generalize (bp i : Int) = pi at *
    generalize rd a (i : Int) = x at *
    generalize ((2 ^ m : Nat) : Int) = P at *
    generalize lv (a.take i) = la at *
    generalize lv o = lo at *
    subst hbp
    show lo + pz * pi * (y + 4294967296 * 0) + 4294967296 * (pz * pi) * u = pz * ((la + pi * x) * P)
    have h3 : pz * pi * (y + 4294967296 * u) = pz * pi * (x * P + c) := by rw [hdiv]
    grind
theorem rshift_ev {a n : Nat} (ha : (dg a).length < 134217728) (hn : n < 4294967296) : Ev (fun k => r1_shift.f k (dg a) (n : Int)) (dg (a * 2 ^ n)) := by
  have h1 : Int.tdiv (n : Int) 32 = ((n / 32 : Nat) : Int) := by rw [Int.tdiv_eq_ediv_of_nonneg (by omega)]; rfl
  have h2 : Int.tmod (n : Int) 32 = ((n % 32 : Nat) : Int) := by rw [Int.tmod_eq_emod_of_nonneg (by omega)]; rfl
  have h3 : wrap64 ((n / 32 : Nat) : Int) = ((n / 32 : Nat) : Int) := wn rfl (by clear h1 h2; omega)
  simp only [r1_shift.f, h1, h3, if_pos (show (0 : Int) ≤ ((n / 32 : Nat) : Int) by omega), Int.toNat_natCast, if_pos (show n / 32 ≤ 70368744177664 by clear h1 h2 h3; omega)]
  clear h1 h3
  refine Ev.cast (rshift_loop (z := n / 32) (lm_dg a) (by clear h2; omega) (by clear h2; omega) h2 (by clear h2; omega) (dg a).length 0 _ 0 (by omega) (by simp) (lm_rep _) (by omega) (by omega) ⟨by rw [lv_rep]; simp [lv_nil]⟩) ?_
  clear h2
  rw [lv_dg, ← Int.natCast_mul, ← Int.natCast_mul, Int.toNat_natCast]
  congr 1
  rw [← pow2_bp, Nat.mul_left_comm, ← Nat.pow_add]
  congr 2
  omega
theorem pow2_len (i : Nat) : (dg (2 ^ i)).length ≤ i / 32 + 1 := by
  refine dg_len_le ?_
  rw [← pow2_bp]
  exact Nat.pow_lt_pow_right (by decide) (by omega)
theorem rdivmod_loop {a b : Nat} (hb : b ≠ 0) (hla : (dg a).length < 1048576) (hlb : (dg b).length < 1048576) : ∀ (n : Nat), n < 67108864 → ∀ (quo rem : Nat), quo * b + rem = a → rem < b * 2 ^ n →
    Ev (fun k => r1_DivMod.l0 k (dg b) (dg quo) (dg rem) ((n : Int) - 1)) (dg (a / b), dg (a % b)) := by
  intro n
  induction n with
  | zero =>
    intro _ quo rem h1 h2
    rw [Nat.pow_zero, Nat.mul_one] at h2
    have hq : a / b = quo := by
      rw [← h1, Nat.mul_comm, Nat.mul_add_div (by omega), Nat.div_eq_of_lt h2, Nat.add_zero]
    have hr : a % b = rem := by
      rw [← h1, Nat.mul_comm, Nat.mul_add_mod, Nat.mod_eq_of_lt h2]
    have hql : (dg quo).length ≤ (dg a).length := dg_len_mono (by
      rw [← hq]; exact Nat.div_le_self _ _)
    refine Ev.succ ?_
    simp only [r1_DivMod.l0, if_neg (show ¬ ((0 : Nat) : Int) - 1 ≥ 0 by omega)]
    refine Ev.bind (rtrim2_ev (by omega)) ?_
    rw [hq, hr]
    exact Ev.some _
  | succ n ih =>
    intro hn quo rem h1 h2
    have hql : (dg quo).length ≤ (dg a).length := dg_len_mono (by
      have : quo * 1 ≤ quo * b := Nat.mul_le_mul_left _ (by omega)
      omega)
    have hrl : (dg rem).length ≤ (dg a).length := dg_len_mono (by omega)
    have hp := pow2_len n
    have ht := mul_len b (2 ^ n)
    refine Ev.succ ?_
    simp only [r1_DivMod.l0, show ((n + 1 : Nat) : Int) - 1 = (n : Int) from by omega, if_pos (show (n : Int) ≥ 0 by omega), w64 (x := (n : Int) - 1) (by omega) (by omega)]
    refine Ev.bind (rshift_ev (by omega) (by omega)) ?_
    refine Ev.bind (rcmp_ev (by omega) (by omega)) ?_
    by_cases h : b * 2 ^ n ≤ rem
    · have hc : cmpZ (rem : Int) ((b * 2 ^ n : Nat) : Int) ≥ 0 := by
        unfold cmpZ
        rw [if_neg (by omega)]
        split <;> omega
      simp only [if_pos hc]
      refine Ev.bind (rsub_ev (by omega) h) ?_
      rw [show ([1] : List Int) = dg 1 from dg_one.symm]
      refine Ev.bind (rshift_ev (by rw [dg_one]; simp) (by omega)) ?_
      rw [Nat.one_mul]
      refine Ev.bind (radd2_ev (by omega) (by omega)) ?_
      refine ih (by omega) _ _ ?_ ?_
      · rw [Nat.add_mul, Nat.mul_comm (2 ^ n) b]
        generalize b * 2 ^ n = t at *
        omega
      · rw [Nat.pow_succ, ← Nat.mul_assoc] at h2
        generalize b * 2 ^ n = t at *
        omega
    · have hc : ¬ cmpZ (rem : Int) ((b * 2 ^ n : Nat) : Int) ≥ 0 := by
        unfold cmpZ
        rw [if_pos (by omega)]
        omega
      simp only [if_neg hc]
      exact ih (by omega) quo rem h1 (by omega)
theorem bl_le (n : Nat) : bl n ≤ 32 * (dg n).length := by
  by_cases h : n = 0
  · subst h; rw [bl_zero.mpr rfl]; omega
  · have hb := bl_bounds h
    have h1 := dg_lt_len n
    rw [← pow2_bp] at h1
    have h2 : bl n - 1 < 32 * (dg n).length := by
      refine (Nat.pow_lt_pow_iff_right (a := 2) (by decide)).mp (Nat.lt_of_le_of_lt hb.1 h1)
    omega
theorem rdivmod_ev {a b : Nat} (hb : b ≠ 0) (hla : (dg a).length < 1048576) (hlb : (dg b).length < 1048576) : Ev (fun k => r1_DivMod.f k (dg a) (dg b)) (dg (a / b), dg (a % b)) := by
  simp only [r1_DivMod.f]
  refine Ev.bind (rtrim2_ev (by omega)) ?_
  refine Ev.bind (rbits_ev (by omega)) ?_
  refine Ev.bind (rbits_ev (by omega)) ?_
  have ba := bl_le a
  have bb := bl_le b
  have hbb := bl_bounds hb
  rw [show ([] : List Int) = dg 0 from dg_zero.symm]
  by_cases h : bl b ≤ bl a
  · rw [show wrap64 (((bl a : Nat) : Int) - ((bl b : Nat) : Int)) = ((bl a - bl b + 1 : Nat) : Int) - 1 from by rw [w64 (by omega) (by omega)]; omega]
    refine rdivmod_loop hb hla hlb _ (by omega) 0 a (by omega) ?_
    by_cases ha : a = 0
    · subst ha; exact Nat.mul_pos (by omega) (Nat.two_pow_pos _)
    · have hba := bl_bounds ha
      refine Nat.lt_of_lt_of_le hba.2.1 ?_
      rw [show bl a = (bl b - 1) + (bl a - bl b + 1) by omega, Nat.pow_add]
      rw [show (bl b - 1) + (bl a - bl b + 1) - bl b + 1 = bl a - bl b + 1 by omega]
      exact Nat.mul_le_mul_right _ hbb.1
  · rw [show wrap64 (((bl a : Nat) : Int) - ((bl b : Nat) : Int)) = -((bl b - bl a : Nat) : Int) from by rw [w64 (by omega) (by omega)]; omega]
    have hlt : a < b := by
      by_cases ha : a = 0
      · omega
      · have hba := bl_bounds ha
        refine Nat.lt_of_lt_of_le hba.2.1 (Nat.le_trans ?_ hbb.1)
        exact Nat.pow_le_pow_right (by decide) (by omega)
    refine Ev.succ ?_
    simp only [r1_DivMod.l0, if_neg (show ¬ -((bl b - bl a : Nat) : Int) ≥ 0 by omega)]
    refine Ev.bind (rtrim2_ev (by rw [dg_zero]; simp)) ?_
    rw [Nat.div_eq_of_lt hlt, Nat.mod_eq_of_lt hlt]
    exact Ev.some _
theorem rzero_ev {a : Nat} (h : (dg a).length < 268435456) : Ev (fun k => r1_Zero.f k (dg a)) (decide (a = 0)) := by
  simp only [r1_Zero.f]
  refine Ev.bind (rtrim2_ev h) ?_
  refine Ev.cast (Ev.some _) ?_
  by_cases h0 : a = 0
  · subst h0; rw [dg_zero]; simp
  · rw [decide_eq_false h0]
    have : (dg a).length ≠ 0 := by rw [Ne, dg_len_zero]; exact h0
    simp only [beq_eq_false_iff_ne]
    omega
theorem rgcd_loop : ∀ (b a : Nat), (dg a).length < 1048576 → (dg b).length < 1048576 → Ev (fun k => r1_Gcd.l0 k (dg a) (dg b)) (dg (Nat.gcd a b)) := by
  intro b
  induction b using Nat.strongRecOn with
  | _ b ih =>
    intro a h1 h2
    refine Ev.succ ?_
    simp only [r1_Gcd.l0]
    refine Ev.bind (rzero_ev (by omega)) ?_
    by_cases h0 : b = 0
    · subst h0
      simp only [decide_true, if_true, Nat.gcd_zero_right]
      refine Ev.bind (rtrim2_ev (by omega)) ?_
      exact Ev.some _
    · simp only [decide_eq_false h0, Bool.false_eq_true, if_false]
      refine Ev.bind (rdivmod_ev h0 h1 h2) ?_
      rw [Nat.gcd_comm, Nat.gcd_rec, Nat.gcd_comm]
      have hlt := Nat.mod_lt a (show b > 0 by omega)
      refine ih (a % b) hlt b h2 ?_
      have := dg_len_mono (Nat.le_of_lt hlt)
      omega
theorem rgcd_ev {a b : Nat} (h1 : (dg a).length < 1048576) (h2 : (dg b).length < 1048576) : Ev (fun k => r1_Gcd.f k (dg a) (dg b)) (dg (Nat.gcd a b)) := by
  simp only [r1_Gcd.f]
  exact rgcd_loop b a h1 h2
theorem short2_ev {a : Nat} (h1 : (dg a).length < 268435456) : Ev (fun k => nat_short.f k (dg a)) (dg a) := by
  refine Ev.cast (short_ev (lm_dg a) (by omega)) ?_
  rw [lv_dg, Int.toNat_natCast]
theorem ndivmod1_ev {a b : Nat} (hb0 : b ≠ 0) (hb1 : b < 4294967296) (hla : (dg a).length < 268435456) : Ev (fun k => nat_DivMod.f k (dg a) (dg b)) (dg (a / b), dg (a % b), 0) := by
  have hb : dg b = [(b : Int)] := dg_small hb0 hb1
  have hbl : (dg b).length = 1 := by rw [hb]; rfl
  simp only [nat_DivMod.f]
  refine Ev.bind (short2_ev hla) ?_
  refine Ev.bind (short2_ev (by omega)) ?_
  rw [hbl]
  simp only [if_neg (show ¬ ((1 : Nat) : Int) = 0 by omega)]
  refine Ev.bind (ncmp_ev hla (by omega)) ?_
  by_cases h : a < b
  · have hc : cmpZ (a : Int) (b : Int) < 0 := by unfold cmpZ; rw [if_pos (by omega)]; omega
    simp only [if_pos hc]
    refine Ev.bind (trim2_ev hla) ?_
    rw [Nat.div_eq_of_lt h, Nat.mod_eq_of_lt h, dg_zero]
    exact Ev.some _
  · have hc : ¬ cmpZ (a : Int) (b : Int) < 0 := by unfold cmpZ; rw [if_neg (by omega)]; split <;> omega
    simp only [if_neg hc, if_pos (show ((1 : Nat) : Int) = 1 by omega), if_pos (show (0 : Int) < ((1 : Nat) : Int) by omega)]
    have hr : rd (dg b) 0 = (b : Int) := by rw [hb]; rfl
    rw [hr]
    refine Ev.bind (digit_ev (lm_dg a) (by omega) (by omega) (by omega)) ?_
    have hm : lv (dg a) % (b : Int) = ((a % b : Nat) : Int) := by rw [lv_dg, Int.natCast_emod]
    have hd : (lv (dg a) / (b : Int)).toNat = a / b := by rw [lv_dg, ← Int.natCast_ediv, Int.toNat_natCast]
    have hmb : a % b < b := Nat.mod_lt _ (by omega)
    rw [hm, hd]
    clear hm hd hr
    simp only [u64w (x := ((a % b : Nat) : Int)) (by omega) (by omega)]
    refine Ev.bind (of_ev (by omega)) ?_
    exact Ev.some _
def sg (neg : Bool) (n : Nat) : Int := if neg = true then -(n : Int) else (n : Int)
def rz (z : Int) : Bool × List Int × List Int := (decide (z < 0), dg z.natAbs, dg 1)
theorem sg_abs (neg : Bool) (n : Nat) : (sg neg n).natAbs = n := by unfold sg; cases neg <;> simp
theorem sg_neg {neg : Bool} {n : Nat} (h : n ≠ 0) : decide (sg neg n < 0) = neg := by
  unfold sg
  cases neg
  · simp
  · simp; omega
theorem rz_sg {neg : Bool} {n : Nat} (h : n ≠ 0) : rz (sg neg n) = (neg, dg n, dg 1) := by
  unfold rz
  rw [sg_neg h, sg_abs]
theorem rz_zero : rz 0 = (false, [], [1]) := by unfold rz; simp [dg_zero, dg_one]
theorem sg_zero (neg : Bool) : sg neg 0 = 0 := by unfold sg; cases neg <;> simp
theorem one_len : (dg 1).length = 1 := by rw [dg_one]; rfl
theorem rmake_ev {neg : Bool} {n : Nat} (h : (dg n).length < 1048576) : Ev (fun k => r2_Make.f k neg (dg n) (dg 1)) (rz (sg neg n)) := by
  simp only [r2_Make.f]
  refine Ev.bind (rzero_ev (by omega)) ?_
  by_cases h0 : n = 0
  · subst h0
    simp only [decide_true, if_true]
    refine Ev.succ ?_
    simp only [r2_Make.j0, if_true]
    rw [sg_zero, rz_zero]
    exact Ev.some _
  · simp only [decide_eq_false h0, Bool.false_eq_true, if_false]
    have := one_len
    refine Ev.bind (rzero_ev (by omega)) ?_
    refine Ev.succ ?_
    simp only [show decide ((1 : Nat) = 0) = false from rfl, r2_Make.j0, Bool.false_eq_true, if_false]
    refine Ev.bind (rgcd_ev h (by omega)) ?_
    rw [Nat.gcd_one_right]
    refine Ev.bind (rdivmod_ev (by decide) h (by omega)) ?_
    refine Ev.bind (rdivmod_ev (by decide) (by omega) (by omega)) ?_
    simp only [Nat.div_one]
    rw [rz_sg h0]
    exact Ev.some _
theorem rnatq_ev {n : Nat} (h : (dg n).length < 262144) : Ev (fun k => r2_Nat.f k (dg n)) (rz (n : Int)) := by
  simp only [r2_Nat.f, show ([1] : List Int) = dg 1 from dg_one.symm]
  refine Ev.bind (rmake_ev (neg := false) (n := n) (by omega)) ?_
  exact Ev.some _
theorem L1 {W V p v1 v2 Vl Wl u2 top q r : Int} (hp : 0 < p) (hV : V = Vl + p * v2 + 4294967296 * (p * v1)) (hW : W = Wl + p * u2 + 4294967296 * (p * top)) (hv2 : 0 ≤ v2) (hVl : 0 ≤ Vl) (hu2 : u2 < 4294967296) (hWl : Wl < p)
    (hq : q * v1 + r = top) (hr : r < v1) (hq0 : 0 ≤ q) : W < (q + 1) * V := by
  have h1 : p * (u2 + 1) ≤ p * 4294967296 := Int.mul_le_mul_of_nonneg_left (by omega) (by omega)
  have h2 : p * (top + 1) ≤ p * ((q + 1) * v1) := Int.mul_le_mul_of_nonneg_left (by grind) (by omega)
  have h3 : 0 ≤ (q + 1) * Vl := Int.mul_nonneg (by omega) hVl
  have h4 : 0 ≤ (q + 1) * (p * v2) := Int.mul_nonneg (by omega) (Int.mul_nonneg (by omega) hv2)
  subst hV hW
  grind
theorem L3 {W V p v1 v2 Vl Wl u2 top q r : Int} (hp : 0 < p) (hV : V = Vl + p * v2 + 4294967296 * (p * v1)) (hW : W = Wl + p * u2 + 4294967296 * (p * top)) (hVl : 0 ≤ Vl) (hWl : Wl < p)
    (hq : q * v1 + r = top) (ht : r * 4294967296 + u2 < q * v2) (hq0 : 0 ≤ q) : W < q * V := by
  have h1 : p * (r * 4294967296 + u2 + 1) ≤ p * (q * v2) := Int.mul_le_mul_of_nonneg_left (by omega) (by omega)
  have h3 : 0 ≤ q * Vl := Int.mul_nonneg (by omega) hVl
  subst hV hW hq
  grind
theorem L4 {W V p v1 v2 Vl Wl u2 top q r : Int} (hp : 0 < p) (hV : V = Vl + p * v2 + 4294967296 * (p * v1)) (hW : W = Wl + p * u2 + 4294967296 * (p * top)) (hVl : 0 ≤ Vl) (hVl1 : Vl < p) (hv2 : 0 ≤ v2) (hv1 : 1 ≤ v1) (hWl : 0 ≤ Wl)
    (hq : q * v1 + r = top) (ht : q * v2 ≤ r * 4294967296 + u2) (hq0 : 0 ≤ q) (hq1 : q < 4294967296) : (q - 1) * V ≤ W := by
  have h1 : p * (q * v2) ≤ p * (r * 4294967296 + u2) := Int.mul_le_mul_of_nonneg_left (by omega) (by omega)
  have h2 : q * Vl ≤ 4294967296 * p := by
    have a : q * Vl ≤ q * p := Int.mul_le_mul_of_nonneg_left (by omega) hq0
    have b : q * p ≤ 4294967296 * p := Int.mul_le_mul_of_nonneg_right (by omega) (by omega)
    omega
  have h3 : p * 1 ≤ p * v1 := Int.mul_le_mul_of_nonneg_left hv1 (by omega)
  have h4 : 0 ≤ p * v2 := Int.mul_nonneg (by omega) hv2
  subst hV hW hq
  grind
theorem L5a {W V p v1 v2 Vl Wl u2 u1 u0 : Int} (hp : 0 < p) (hV : V = Vl + p * v2 + 4294967296 * (p * v1)) (hW : W = Wl + p * u2 + 4294967296 * (p * (u0 * 4294967296 + u1))) (hVl1 : Vl < p) (hv2 : v2 < 4294967296) (hWl : 0 ≤ Wl) (hu2 : 0 ≤ u2) (hu1 : 0 ≤ u1)
    (hWV : W < 4294967296 * V) : u0 ≤ v1 := by
  have h1 : p * (v2 + 1) ≤ p * 4294967296 := Int.mul_le_mul_of_nonneg_left (by omega) (by omega)
  have h2 : 0 ≤ p * u2 := Int.mul_nonneg (by omega) hu2
  have h3 : 0 ≤ p * u1 := Int.mul_nonneg (by omega) hu1
  have h5 : p * u0 < p * (v1 + 1) := by subst hV hW; grind
  have := Int.lt_of_mul_lt_mul_left h5 (by omega)
  omega
theorem L5 {W V p v1 v2 Vl Wl u2 u1 u0 q r : Int} (hp : 0 < p) (hV : V = Vl + p * v2 + 4294967296 * (p * v1)) (hW : W = Wl + p * u2 + 4294967296 * (p * (u0 * 4294967296 + u1))) (hVl1 : Vl < p) (hv2 : v2 < 4294967296) (hWl : 0 ≤ Wl) (hu2 : 0 ≤ u2) (hu1 : 0 ≤ u1) (hu1' : u1 < 4294967296)
    (hWV : W < 4294967296 * V) (hv1 : 1 ≤ v1) (hq : q * v1 + r = u0 * 4294967296 + u1) (hr : 4294967296 ≤ r) (hq0 : 0 ≤ q) : q < 4294967296 ∧ q * V ≤ W := by
  have h0 := L5a hp hV hW hVl1 hv2 hWl hu2 hu1 hWV
  have hqv : q * v1 < 4294967296 * v1 := by omega
  have hq1 : q < 4294967296 := Int.lt_of_mul_lt_mul_right hqv (by omega)
  refine ⟨hq1, ?_⟩
  have h1 : p * (v2 + 1) ≤ p * 4294967296 := Int.mul_le_mul_of_nonneg_left (by omega) (by omega)
  have h2 : 0 ≤ p * u2 := Int.mul_nonneg (by omega) hu2
  have h4 : V ≤ p * (4294967296 * (v1 + 1)) := by subst hV; grind
  have h5 : q * V ≤ q * (p * (4294967296 * (v1 + 1))) := Int.mul_le_mul_of_nonneg_left h4 hq0
  have h6 : p * (q * v1 + q) ≤ p * (u0 * 4294967296 + u1) := Int.mul_le_mul_of_nonneg_left (by omega) (by omega)
  subst hW
  grind
def Rz {α : Type} (P : α → Prop) (g : Nat → Option α) : Prop := ∃ r, Ev g r ∧ P r
theorem Rz.succ {α : Type} {P : α → Prop} {g : Nat → Option α} (h : Rz P (fun k => g (k + 1))) : Rz P g := by
  obtain ⟨r, h1, h2⟩ := h
  exact ⟨r, Ev.succ h1, h2⟩
theorem Rz.bind {α β : Type} {P : β → Prop} {g : Nat → Option α} {f : Nat → α → Option β} {a : α} (hg : Ev g a) (hf : Rz P (fun k => f k a)) : Rz P (fun k => (g k).bind (f k)) := by
  obtain ⟨r, h1, h2⟩ := hf
  exact ⟨r, Ev.bind hg h1, h2⟩
theorem Rz.some {α : Type} {P : α → Prop} {r : α} (h : P r) : Rz P (fun _ => Option.some r) := ⟨r, Ev.some r, h⟩
theorem mulc {q v c : Int} (hq0 : 0 ≤ q) (hq1 : q < 4294967296) (hv0 : 0 ≤ v) (hv1 : v < 4294967296) (hc0 : 0 ≤ c) (hc1 : c < 4294967296) :
    IntKind.u64.wrap (IntKind.u64.wrap (q * IntKind.u64.wrap v) + c) = q * v + c ∧ 0 ≤ q * v + c ∧ q * v + c < 18446744073709551616 := by
  have h1 : q * v ≤ 4294967295 * 4294967295 := Int.mul_le_mul (by omega) (by omega) hv0 (by omega)
  have h0 : 0 ≤ q * v := Int.mul_nonneg hq0 hv0
  rw [u64w (x := v) hv0 (by omega)]
  generalize q * v = s at *
  rw [u64w (x := s) h0 (by omega), u64w (by omega) (by omega)]
  omega
theorem subl {u s b : Int} (hu0 : 0 ≤ u) (hu1 : u < 4294967296) (hb0 : 0 ≤ b) (hb1 : b ≤ 1) :
    ∃ y b' : Int, IntKind.u64.wrap (IntKind.u64.wrap (IntKind.u64.wrap u - s % 4294967296) - b) % 4294967296 = y ∧ IntKind.u64.wrap (IntKind.u64.wrap (IntKind.u64.wrap u - s % 4294967296) - b) / 9223372036854775808 = b' ∧
      0 ≤ y ∧ y < 4294967296 ∧ 0 ≤ b' ∧ b' ≤ 1 ∧ y = u - s % 4294967296 - b + 4294967296 * b' := by
  refine ⟨_, _, rfl, rfl, ?_⟩
  rw [u64m, u64m, u64m]
  omega
theorem topl {u c b : Int} (hu0 : 0 ≤ u) (hu1 : u < 4294967296) (hc0 : 0 ≤ c) (hc1 : c < 4294967296) (hb0 : 0 ≤ b) (hb1 : b ≤ 1) :
    ∃ y b' : Int, IntKind.u64.wrap (IntKind.u64.wrap (IntKind.u64.wrap u - c) - b) % 4294967296 = y ∧ IntKind.u64.wrap (IntKind.u64.wrap (IntKind.u64.wrap u - c) - b) / 9223372036854775808 = b' ∧
      0 ≤ y ∧ y < 4294967296 ∧ (b' = 0 ∨ b' = 1) ∧ y = u - c - b + 4294967296 * b' := by
  refine ⟨_, _, rfl, rfl, ?_⟩
  rw [u64m, u64m, u64m]
  omega
theorem step_sub {P : Int × List Int → Prop} {q u0 W : Int} {v : List Int} (hq0 : 0 ≤ q) (hq1 : q < 4294967296) (hv : Lm v) (hvl : v.length < 536870912)
    (hfin : ∀ (o : List Int) (bo ca : Int), o.length = v.length + 1 → Lm o → 0 ≤ bo → bo ≤ 1 → 0 ≤ ca → ca < 4294967296 → rd o (v.length : Int) = u0 → Aside0 (lv o - (bp v.length : Int) * (ca + bo) = W - q * lv v) → Rz P (fun k => nat_step.l1 k o v (v.length : Int) q bo ca (v.length : Int) (v.length : Int))) :
    ∀ (d i : Nat) (o : List Int) (bo ca : Int), i + d = v.length → o.length = v.length + 1 → Lm o → 0 ≤ bo → bo ≤ 1 → 0 ≤ ca → ca < 4294967296 → rd o (v.length : Int) = u0 → Aside0 (lv o - (bp i : Int) * (ca + bo) = W - q * lv (v.take i)) → Rz P (fun k => nat_step.l1 k o v (v.length : Int) q bo ca (v.length : Int) (i : Int)) := by
  intro d
  induction d with
  | zero =>
    intro i o bo ca hi hol ho hb0 hb1 hc0 hc1 hu he
    have hi : i = v.length := by omega
    subst hi
    refine hfin o bo ca hol ho hb0 hb1 hc0 hc1 hu ⟨?_⟩
    rw [he.out, List.take_of_length_le (Nat.le_refl _)]
  | succ d ih =>
    intro i o bo ca hi hol ho hb0 hb1 hc0 hc1 hu he
    have hiv : i < v.length := by omega
    have rv := rd_lm hv (i : Int)
    have ro := rd_lm ho (i : Int)
    obtain ⟨e1, s0, s1⟩ := mulc hq0 hq1 rv.1 rv.2 hc0 hc1
    obtain ⟨y, b', e2, e3, y0, y1, b0, b1, ey⟩ := subl (s := q * rd v (i : Int) + ca) ro.1 ro.2 hb0 hb1
    have hd := div_bound s0 s1
    have hs := split_div (q * rd v (i : Int) + ca)
    refine Rz.succ ?_
    simp only [nat_step.l1, if_pos (show (i : Int) < (v.length : Int) by omega), if_pos (show (0 : Int) ≤ (i : Int) by omega), if_pos (show (i : Int) < (o.length : Int) by omega), e1, e2, e3, Int.toNat_natCast, wn (show (i : Int) + 1 = ((i + 1 : Nat) : Int) by omega) (by omega)]
    refine ih (i + 1) _ _ _ (by omega) (by rw [List.length_set]; exact hol) (lm_set ho y0 y1) b0 b1 hd.2.2.1 hd.2.2.2 (by rw [rd_set_ne _ (by omega)]; exact hu) ⟨?_⟩
    rw [lv_set _ (by omega), lv_take_succ hiv, bp_succ, Int.natCast_mul]
    have he := he.out
    clear ih hfin e1 e2 e3 hd s0 s1
    generalize (q * rd v (i : Int) + ca) / 4294967296 = c2 at *
    generalize hsm : (q * rd v (i : Int) + ca) % 4294967296 = sm at *
    generalize (bp i : Int) = p at *
    generalize rd v (i : Int) = vi at *
    generalize rd o (i : Int) = ui at *
    generalize lv o = lo at *
    generalize lv (v.take i) = lt at *
    subst ey
    show lo + p * (ui - sm - bo + 4294967296 * b' - ui) - 4294967296 * p * (c2 + b') = W - q * (lt + p * vi)
    have h2 : p * (sm + 4294967296 * c2) = p * (q * vi + ca) := by rw [hs]
    grind
theorem addl {u v c : Int} (hu0 : 0 ≤ u) (hu1 : u < 4294967296) (hv0 : 0 ≤ v) (hv1 : v < 4294967296) (hc0 : 0 ≤ c) (hc1 : c ≤ 1) :
    IntKind.u64.wrap (IntKind.u64.wrap (IntKind.u64.wrap u + IntKind.u64.wrap v) + c) = u + v + c := by
  rw [u64m, u64m, u64m, u64m]
  omega
theorem step_add {P : Int × List Int → Prop} {q u0 W : Int} {v : List Int} (hv : Lm v) (hvl : v.length < 536870912)
    (hfin : ∀ (o : List Int) (ca : Int), o.length = v.length + 1 → Lm o → 0 ≤ ca → ca ≤ 1 → rd o (v.length : Int) = u0 → Aside0 (lv o + (bp v.length : Int) * ca = W + lv v) → Rz P (fun k => nat_step.l2 k o v (v.length : Int) q ca (v.length : Int) (v.length : Int))) :
    ∀ (d i : Nat) (o : List Int) (ca : Int), i + d = v.length → o.length = v.length + 1 → Lm o → 0 ≤ ca → ca ≤ 1 → rd o (v.length : Int) = u0 → Aside0 (lv o + (bp i : Int) * ca = W + lv (v.take i)) → Rz P (fun k => nat_step.l2 k o v (v.length : Int) q ca (v.length : Int) (i : Int)) := by
  intro d
  induction d with
  | zero =>
    intro i o ca hi hol ho hc0 hc1 hu he
    have hi : i = v.length := by omega
    subst hi
    refine hfin o ca hol ho hc0 hc1 hu ⟨?_⟩
    rw [he.out, List.take_of_length_le (Nat.le_refl _)]
  | succ d ih =>
    intro i o ca hi hol ho hc0 hc1 hu he
    have hiv : i < v.length := by omega
    have rv := rd_lm hv (i : Int)
    have ro := rd_lm ho (i : Int)
    have e1 := addl ro.1 ro.2 rv.1 rv.2 hc0 hc1
    have hs := split_div (rd o (i : Int) + rd v (i : Int) + ca)
    have hd : 0 ≤ (rd o (i : Int) + rd v (i : Int) + ca) % 4294967296 ∧ (rd o (i : Int) + rd v (i : Int) + ca) % 4294967296 < 4294967296 ∧ 0 ≤ (rd o (i : Int) + rd v (i : Int) + ca) / 4294967296 ∧ (rd o (i : Int) + rd v (i : Int) + ca) / 4294967296 ≤ 1 := by clear e1; omega
    refine Rz.succ ?_
    simp only [nat_step.l2, if_pos (show (i : Int) < (v.length : Int) by clear e1; omega), if_pos (show (0 : Int) ≤ (i : Int) by clear e1; omega), if_pos (show (i : Int) < (o.length : Int) by clear e1; omega), e1, Int.toNat_natCast, wn (show (i : Int) + 1 = ((i + 1 : Nat) : Int) by clear e1; omega) (by clear e1; omega)]
    clear e1
    refine ih (i + 1) _ _ (by omega) (by rw [List.length_set]; exact hol) (lm_set ho hd.1 hd.2.1) hd.2.2.1 hd.2.2.2 (by rw [rd_set_ne _ (by omega)]; exact hu) ⟨?_⟩
    rw [lv_set _ (by omega), lv_take_succ hiv, bp_succ, Int.natCast_mul]
    have he := he.out
    clear ih hfin hd
    generalize (rd o (i : Int) + rd v (i : Int) + ca) / 4294967296 = c2 at *
    generalize (rd o (i : Int) + rd v (i : Int) + ca) % 4294967296 = sm at *
    generalize (bp i : Int) = p at *
    generalize rd v (i : Int) = vi at *
    generalize rd o (i : Int) = ui at *
    generalize lv o = lo at *
    generalize lv (v.take i) = lt at *
    show lo + p * (sm - ui) + 4294967296 * p * c2 = W + (lt + p * vi)
    have h2 : p * (sm + 4294967296 * c2) = p * (ui + vi + ca) := by rw [hs]
    grind
def Stp (n : Nat) (W V : Int) (a : Int × List Int) : Prop := a.1 = W / V ∧ a.2.length = n + 1 ∧ Lm a.2 ∧ lv a.2 = W % V
theorem quo_of {W V q : Int} (h0 : q * V ≤ W) (h1 : W < (q + 1) * V) : W / V = q ∧ W % V = W - q * V := by
  have hV : 0 < V := by
    have e : (q + 1) * V = q * V + V := by grind
    omega
  have e : (q + 1) * V = q * V + V := by grind
  have := Int.ediv_emod_unique (a := W) (b := V) (r := W - q * V) (q := q) hV
  have h := this.mpr ⟨by grind, by omega, by omega⟩
  exact h
theorem step_j1 {x v : List Int} {q : Int} (hx : Lm x) (hv : Lm v) (hxl : x.length = v.length + 1) (hvl : v.length < 536870912) (hq0 : 0 ≤ q) (hq1 : q < 4294967296) (hW : lv x < 4294967296 * lv v) (hhi : lv x < (q + 1) * lv v) (hlo : (q - 1) * lv v ≤ lv x) :
    Rz (Stp v.length (lv x) (lv v)) (fun k => nat_step.j1 k x v (v.length : Int) q) := by
  have hV0 := lv_nonneg hv
  have hV1 := lv_lt hv
  have hx0 := lv_nonneg hx
  refine Rz.succ ?_
  simp only [nat_step.j1]
  refine step_sub (u0 := rd x (v.length : Int)) (W := lv x) hq0 hq1 hv hvl (fun o bo ca hol ho hb0 hb1 hc0 hc1 hu he => ?_) v.length 0 x 0 0 (by omega) hxl hx (by omega) (by omega) (by omega) (by omega) rfl ⟨by simp [lv_nil]⟩
  have ro := rd_lm ho (v.length : Int)
  obtain ⟨y, s, e2, e3, y0, y1, hs, ey⟩ := topl ro.1 ro.2 hc0 hc1 hb0 hb1
  have hlen : (v.length : Int) < (o.length : Int) := by clear e2 e3; omega
  refine Rz.succ ?_
  simp only [nat_step.l1, if_neg (show ¬ (v.length : Int) < (v.length : Int) from Int.lt_irrefl _), if_pos (show (0 : Int) ≤ (v.length : Int) from Int.natCast_nonneg _), if_pos hlen, e2, e3, Int.toNat_natCast, Option.bind_some]
  clear e2 e3
  have hval : lv (o.set v.length y) = lv x - q * lv v + (4294967296 * bp v.length : Nat) * s := by
    rw [lv_set _ (by omega)]
    have he := he.out
    rw [Int.natCast_mul]
    generalize (bp v.length : Int) = p at *
    generalize lv o = lo at *
    generalize rd o (v.length : Int) = ui at *
    subst ey
    show lo + p * (ui - ca - bo + 4294967296 * s - ui) = lv x - q * lv v + 4294967296 * p * s
    grind
  have hlm : Lm (o.set v.length y) := lm_set ho y0 y1
  have hln : (o.set v.length y).length = v.length + 1 := by rw [List.length_set]; exact hol
  have h0 := lv_nonneg hlm
  have h1 := lv_lt hlm
  rw [hln, bp_succ] at h1
  rcases hs with e | e
  · subst e
    simp only [if_true]
    refine Rz.some ⟨?_, hln, hlm, ?_⟩
    · show q % 4294967296 = _
      rw [(quo_of (W := lv x) (V := lv v) (q := q) (by rw [hval] at h0; omega) hhi).1]
      exact Int.emod_eq_of_lt hq0 hq1
    · show lv (o.set v.length y) = _
      rw [(quo_of (W := lv x) (V := lv v) (q := q) (by rw [hval] at h0; omega) hhi).2, hval]
      omega
  · subst e
    simp only [if_neg (show ¬ (1 : Int) = 0 by decide)]
    have hlt : lv x < q * lv v := by rw [hval] at h1; omega
    have e1 : (q - 1 + 1) * lv v = q * lv v := by rw [show q - 1 + 1 = q by omega]
    obtain ⟨hq, hr⟩ := quo_of (W := lv x) (V := lv v) (q := q - 1) hlo (by rw [e1]; exact hlt)
    refine step_add (u0 := rd (o.set v.length y) (v.length : Int)) (W := lv (o.set v.length y)) hv hvl (fun o2 ca2 hol2 ho2 hc20 hc21 hu2 he2 => ?_) v.length 0 _ 0 (by omega) hln hlm (by omega) (by omega) rfl ⟨by simp [lv_nil]⟩
    have ro2 := rd_lm ho2 (v.length : Int)
    have hlen2 : (v.length : Int) < (o2.length : Int) := by omega
    have hq1' : 0 ≤ q - 1 := by
      have h2 : 0 < q * lv v := by omega
      by_cases g : 0 < q
      · omega
      · have : q = 0 := by omega
        rw [this, Int.zero_mul] at h2
        omega
    refine Rz.succ ?_
    simp only [nat_step.l2, if_neg (show ¬ (v.length : Int) < (v.length : Int) from Int.lt_irrefl _), if_pos (show (0 : Int) ≤ (v.length : Int) from Int.natCast_nonneg _), if_pos hlen2, Int.toNat_natCast, u64w (x := q - 1) hq1' (by omega)]
    have y2 : 0 ≤ (rd o2 (v.length : Int) + ca2 % 4294967296) % 4294967296 ∧ (rd o2 (v.length : Int) + ca2 % 4294967296) % 4294967296 < 4294967296 := by omega
    have hlm2 : Lm (o2.set v.length ((rd o2 (v.length : Int) + ca2 % 4294967296) % 4294967296)) := lm_set ho2 y2.1 y2.2
    obtain ⟨t, ht, ht2⟩ : ∃ t : Int, (t = 0 ∨ t = 1) ∧ (rd o2 (v.length : Int) + ca2 % 4294967296) % 4294967296 = rd o2 (v.length : Int) + ca2 - 4294967296 * t := by
      by_cases g : rd o2 (v.length : Int) + ca2 < 4294967296
      · exact ⟨0, .inl rfl, by omega⟩
      · exact ⟨1, .inr rfl, by omega⟩
    have hval2 : lv (o2.set v.length ((rd o2 (v.length : Int) + ca2 % 4294967296) % 4294967296)) = lv x - (q - 1) * lv v + (4294967296 * bp v.length : Nat) * (1 - t) := by
      rw [lv_set _ (by omega), ht2]
      have he2 := he2.out
      rw [hval] at he2
      rw [Int.natCast_mul] at he2 ⊢
      generalize (bp v.length : Int) = p at *
      generalize lv o2 = lo at *
      generalize rd o2 (v.length : Int) = ui at *
      show lo + p * (ui + ca2 - 4294967296 * t - ui) = lv x - (q - 1) * lv v + 4294967296 * p * (1 - t)
      have : lo + p * ca2 = lv x - q * lv v + 4294967296 * p * 1 + lv v := he2
      grind
    have h2 := lv_lt hlm2
    rw [show (o2.set v.length ((rd o2 (v.length : Int) + ca2 % 4294967296) % 4294967296)).length = v.length + 1 by rw [List.length_set]; exact hol2, bp_succ] at h2
    have ht1 : t = 1 := by
      rcases ht with g | g
      · exfalso
        rw [hval2, g] at h2
        omega
      · exact g
    rw [ht1] at hval2
    refine Rz.some ⟨?_, by rw [List.length_set]; exact hol2, hlm2, ?_⟩
    · show (q - 1) % 4294967296 = _
      rw [hq]
      exact Int.emod_eq_of_lt hq1' (by omega)
    · show lv (o2.set v.length ((rd o2 (v.length : Int) + ca2 % 4294967296) % 4294967296)) = _
      rw [hr, hval2]
      omega
theorem step_est {x v : List Int} {Wl u2 u1 u0 Vl v2 v1 p : Int} {n : Nat} (hx : Lm x) (hv : Lm v) (hxl : x.length = v.length + 1) (hvl : v.length < 536870912) (hn : v.length = n + 2)
    (hp : 0 < p) (hV : lv v = Vl + p * v2 + 4294967296 * (p * v1)) (hWe : lv x = Wl + p * u2 + 4294967296 * (p * (u0 * 4294967296 + u1))) (hVl : 0 ≤ Vl) (hVl1 : Vl < p) (hWl : 0 ≤ Wl) (hWl1 : Wl < p)
    (r1 : rd v ((n + 1 : Nat) : Int) = v1) (r2 : rd v (n : Int) = v2) (ru2 : rd x (n : Int) = u2) (hv1 : 2147483648 ≤ v1) (hv1' : v1 < 4294967296) (hv2 : 0 ≤ v2) (hv2' : v2 < 4294967296) (hu2 : 0 ≤ u2) (hu2' : u2 < 4294967296) (hu1 : 0 ≤ u1) (hu1' : u1 < 4294967296)
    (hW : lv x < 4294967296 * lv v) :
    ∀ (d : Nat) (q r : Int), 4294967296 ≤ r + d * 2147483648 → q * v1 + r = u0 * 4294967296 + u1 → 0 ≤ r → r < 8589934592 → 0 ≤ q → q < 18446744073709551616 → lv x < (q + 1) * lv v →
    Rz (Stp v.length (lv x) (lv v)) (fun k => nat_step.l0 k x v (v.length : Int) q r) := by
  have hV0 : 0 ≤ lv v := lv_nonneg hv
  have done : ∀ (q r : Int), 4294967296 ≤ r → q * v1 + r = u0 * 4294967296 + u1 → 0 ≤ q → lv x < (q + 1) * lv v → Rz (Stp v.length (lv x) (lv v)) (fun k => nat_step.l0 k x v (v.length : Int) q r) := by
    intro q r hr hq hq0 hhi
    obtain ⟨h1, h2⟩ := L5 hp hV hWe hVl1 hv2' hWl hu2 hu1 hu1' hW (by omega) hq hr hq0
    refine Rz.succ ?_
    simp only [nat_step.l0, if_neg (show ¬ r < 4294967296 by omega)]
    refine step_j1 hx hv hxl hvl hq0 h1 hW hhi ?_
    have : (q - 1) * lv v = q * lv v - lv v := by grind
    omega
  intro d
  induction d with
  | zero =>
    intro q r hd hq hr0 hr1 hq0 hqb hhi
    exact done q r (by omega) hq hq0 hhi
  | succ d ih =>
    intro q r hd hq hr0 hr1 hq0 hqb hhi
    by_cases hr : 4294967296 ≤ r
    · exact done q r hr hq hq0 hhi
    have nxt : ∀ g : lv x < q * lv v, Rz (Stp v.length (lv x) (lv v)) (fun k => nat_step.l0 k x v (v.length : Int) (q - 1) (r + v1)) := by
      intro g
      have hq1 : 0 ≤ q - 1 := by
        by_cases g2 : 0 < q
        · omega
        · have e : q = 0 := by omega
          rw [e, Int.zero_mul] at g
          have := lv_nonneg hx
          omega
      refine ih (q - 1) (r + v1) (by omega) ?_ (by omega) (by omega) hq1 (by omega) (by rw [show q - 1 + 1 = q by omega]; exact g)
      have : (q - 1) * v1 = q * v1 - v1 := by grind
      omega
    refine Rz.succ ?_
    have i1 : wrap64 ((v.length : Int) - 1) = ((n + 1 : Nat) : Int) := wn (by omega) (by omega)
    have i2 : wrap64 ((v.length : Int) - 2) = (n : Int) := wn (by omega) (by omega)
    have c1 : (0 : Int) ≤ ((n + 1 : Nat) : Int) := by clear i1 i2; omega
    have c2 : ((n + 1 : Nat) : Int) < (v.length : Int) := by clear i1 i2; omega
    have c3 : (0 : Int) ≤ (n : Int) := by clear i1 i2; omega
    have c4 : (n : Int) < (v.length : Int) := by clear i1 i2; omega
    have c5 : (n : Int) < (x.length : Int) := by clear i1 i2; omega
    have c6 : r < 4294967296 := by clear i1 i2; omega
    by_cases hqB : q ≥ 4294967296
    · have g : lv x < q * lv v := by
        have := Int.mul_le_mul_of_nonneg_right (a := 4294967296) (b := q) (c := lv v) hqB hV0
        clear i1 i2
        omega
      simp only [nat_step.l0, if_pos c6, if_pos hqB, i1, if_pos c1, if_pos c2, r1, u64w (x := v1) (by clear i1 i2; omega) (by clear i1 i2; omega), u64w (x := q - 1) (by clear i1 i2; omega) (by clear i1 i2; omega), u64w (x := r + v1) (by clear i1 i2; omega) (by clear i1 i2; omega)]
      exact nxt g
    · have hqs : q < 4294967296 := by clear i1 i2; omega
      have hm0 : 0 ≤ q * v2 := Int.mul_nonneg hq0 hv2
      have hm1 : q * v2 ≤ 4294967295 * 4294967295 := Int.mul_le_mul (by clear i1 i2; omega) (by clear i1 i2; omega) hv2 (by decide)
      have ej := join32 (x := r) (y := u2) hr0 c6 hu2 hu2'
      by_cases ht : q * v2 > r * 4294967296 + u2
      · have g : lv x < q * lv v := L3 hp hV hWe hVl hWl1 hq (by clear i1 i2 ej; omega) hq0
        have hq1 : 0 ≤ q - 1 := by
          by_cases g2 : 0 < q
          · clear i1 i2 ej; omega
          · have e : q = 0 := by clear i1 i2 ej; omega
            rw [e, Int.zero_mul] at g
            have := lv_nonneg hx
            clear i1 i2 ej
            omega
        have z1 := u64w (x := v2) hv2 (by clear i1 i2 ej; omega)
        have z2 := u64w (x := q * v2) hm0 (by clear i1 i2 ej z1; omega)
        simp only [nat_step.l0, if_pos c6, if_neg hqB, i1, i2, if_pos c1, if_pos c2, if_pos c3, if_pos c4, if_pos c5, r1, r2, ru2, z1, z2, ej, if_pos ht, u64w (x := v1) (by clear i1 i2 ej z1 z2; omega) (by clear i1 i2 ej z1 z2; omega), u64w (x := q - 1) hq1 (by clear i1 i2 ej z1 z2; omega), u64w (x := r + v1) (by clear i1 i2 ej z1 z2; omega) (by clear i1 i2 ej z1 z2; omega)]
        exact nxt g
      · have z1 := u64w (x := v2) hv2 (by clear i1 i2 ej; omega)
        have z2 := u64w (x := q * v2) hm0 (by clear i1 i2 ej z1; omega)
        simp only [nat_step.l0, if_pos c6, if_neg hqB, i2, if_pos c3, if_pos c4, if_pos c5, r2, ru2, z1, z2, ej, if_neg ht]
        clear z1 z2 i1 i2 ej
        exact step_j1 hx hv hxl hvl hq0 hqs hW hhi (L4 hp hV hWe hVl hVl1 hv2 (by omega) hWl hq (by omega) hq0 hqs)
theorem lv_two {l : List Int} {n : Nat} (h : n + 2 ≤ l.length) : lv (l.take (n + 2)) = lv (l.take n) + (bp n : Int) * rd l (n : Int) + 4294967296 * ((bp n : Int) * rd l ((n + 1 : Nat) : Int)) := by
  rw [lv_take_succ (i := n + 1) (by omega), lv_take_succ (i := n) (by omega), bp_succ, Int.natCast_mul]
  show _ + 4294967296 * (bp n : Int) * _ = _
  rw [Int.mul_assoc]
theorem step_ev {x v : List Int} (hx : Lm x) (hv : Lm v) (hxl : x.length = v.length + 1) (hvl : v.length < 536870912) (hk : 2 ≤ v.length) (ht : 2147483648 ≤ rd v ((v.length - 1 : Nat) : Int)) (hW : lv x < 4294967296 * lv v) :
    Rz (Stp v.length (lv x) (lv v)) (fun k => nat_step.f k x v) := by
  obtain ⟨n, hn⟩ : ∃ n, v.length = n + 2 := ⟨v.length - 2, by omega⟩
  have hb := bp_pos n
  have eV := lv_two (l := v) (n := n) (by omega)
  rw [show n + 2 = v.length from hn.symm, List.take_of_length_le (Nat.le_refl _)] at eV
  have eX := lv_take_succ (l := x) (i := n + 2) (by omega)
  rw [show n + 2 + 1 = x.length by omega, List.take_of_length_le (Nat.le_refl _), lv_two (l := x) (n := n) (by omega), bp_succ, bp_succ, Int.natCast_mul, Int.natCast_mul] at eX
  have tv := take_bound hv n
  have tx := take_bound hx n
  have b1 := rd_lm hv ((n + 1 : Nat) : Int)
  have b2 := rd_lm hv (n : Int)
  have bu0 := rd_lm hx ((n + 2 : Nat) : Int)
  have bu1 := rd_lm hx ((n + 1 : Nat) : Int)
  have bu2 := rd_lm hx (n : Int)
  rw [show v.length - 1 = n + 1 by omega] at ht
  have eX' : lv x = lv (x.take n) + (bp n : Int) * rd x (n : Int) + 4294967296 * ((bp n : Int) * (rd x ((n + 2 : Nat) : Int) * 4294967296 + rd x ((n + 1 : Nat) : Int))) := by
    rw [eX]
    generalize (bp n : Int) = p
    show _ + 4294967296 * (4294967296 * p) * _ = _
    grind
  have top0 : 0 ≤ rd x ((n + 2 : Nat) : Int) * 4294967296 + rd x ((n + 1 : Nat) : Int) := by omega
  have top1 : rd x ((n + 2 : Nat) : Int) * 4294967296 + rd x ((n + 1 : Nat) : Int) < 18446744073709551616 := by omega
  have hmod := Int.emod_lt_of_pos (rd x ((n + 2 : Nat) : Int) * 4294967296 + rd x ((n + 1 : Nat) : Int)) (show 0 < rd v ((n + 1 : Nat) : Int) by omega)
  have hmod0 := Int.emod_nonneg (rd x ((n + 2 : Nat) : Int) * 4294967296 + rd x ((n + 1 : Nat) : Int)) (show rd v ((n + 1 : Nat) : Int) ≠ 0 by omega)
  have hdm := Int.mul_ediv_add_emod (rd x ((n + 2 : Nat) : Int) * 4294967296 + rd x ((n + 1 : Nat) : Int)) (rd v ((n + 1 : Nat) : Int))
  have hdiv0 : 0 ≤ (rd x ((n + 2 : Nat) : Int) * 4294967296 + rd x ((n + 1 : Nat) : Int)) / rd v ((n + 1 : Nat) : Int) := Int.ediv_nonneg top0 (by omega)
  have hdiv1 : (rd x ((n + 2 : Nat) : Int) * 4294967296 + rd x ((n + 1 : Nat) : Int)) / rd v ((n + 1 : Nat) : Int) ≤ rd x ((n + 2 : Nat) : Int) * 4294967296 + rd x ((n + 1 : Nat) : Int) := Int.ediv_le_self _ top0
  have ej := join32 bu0.1 bu0.2 bu1.1 bu1.2
  have z0 := u64w (x := rd v ((n + 1 : Nat) : Int)) b1.1 (by clear ej; omega)
  have i1 : wrap64 ((v.length : Int) - 1) = ((n + 1 : Nat) : Int) := wn (by clear ej z0; omega) (by clear ej z0; omega)
  have c1 : (0 : Int) ≤ ((n + 1 : Nat) : Int) := by clear i1 ej z0; omega
  have c2 : ((n + 1 : Nat) : Int) < (v.length : Int) := by clear i1 ej z0; omega
  have c3 : (0 : Int) ≤ (v.length : Int) := by clear i1 ej z0; omega
  have c4 : ((n + 1 : Nat) : Int) < (x.length : Int) := by clear i1 ej z0; omega
  have c5 : (v.length : Int) < (x.length : Int) := by clear i1 ej z0; omega
  have c6 : ¬ rd v ((n + 1 : Nat) : Int) = 0 := by clear i1 ej z0; omega
  have e0 : (v.length : Int) = ((n + 2 : Nat) : Int) := by clear i1 ej z0; omega
  simp only [nat_step.f, if_pos c3, if_pos c5, i1, if_pos c1, if_pos c4, if_pos c2, z0, if_neg c6]
  rw [show rd x (v.length : Int) = rd x ((n + 2 : Nat) : Int) by rw [e0]]
  have z3 := u64w (x := rd x ((n + 2 : Nat) : Int)) bu0.1 (by clear i1 ej z0; omega)
  simp only [z3, ej, Int.tdiv_eq_ediv_of_nonneg top0, Int.tmod_eq_emod_of_nonneg top0, u64w hdiv0 (Int.lt_of_le_of_lt hdiv1 top1)]
  clear i1 ej z0 z3
  refine step_est hx hv hxl hvl hn (by omega) eV eX' tv.1 tv.2 tx.1 tx.2 rfl rfl rfl ht b1.2 b2.1 b2.2 bu2.1 bu2.2 bu1.1 bu1.2 hW 2 _ _ (by omega) ?_ hmod0 (by omega) hdiv0 (Int.lt_of_le_of_lt hdiv1 top1) ?_
  · rw [Int.mul_comm]; exact hdm
  · exact L1 (by omega) eV eX' b2.1 tv.1 bu2.2 tx.2 (by rw [Int.mul_comm]; exact hdm) hmod hdiv0
theorem pm_pos (m : Nat) : (0 : Int) < (2 : Int) ^ m := Int.pow_pos (by decide)
theorem pm_le {m : Nat} (hm : m < 32) : (2 : Int) ^ m ≤ 2147483648 := by
  have hp : 2 ^ m ≤ 2147483648 := Nat.pow_le_pow_right (n := 2) (by decide) (show m ≤ 31 by omega)
  have h2 : ((2 ^ m : Nat) : Int) ≤ 2147483648 := by omega
  rw [Int.natCast_pow] at h2
  exact h2
theorem shl_or {x c : Int} {m : Nat} (hx0 : 0 ≤ x) (hx1 : x < 4294967296) (hm : m < 32) (hc0 : 0 ≤ c) (hc1 : c < (2 : Int) ^ m) :
    Go.bits .or .u64 (shl .u64 (IntKind.u64.wrap x) (m : Int)) c = x * (2 : Int) ^ m + c ∧ 0 ≤ x * (2 : Int) ^ m + c ∧ x * (2 : Int) ^ m + c < 4294967296 * (2 : Int) ^ m ∧ x * (2 : Int) ^ m + c < 18446744073709551616 := by
  have hp := pm_le hm
  have hp0 := pm_pos m
  have hb : x * (2 : Int) ^ m ≤ 4294967295 * (2 : Int) ^ m := Int.mul_le_mul_of_nonneg_right (by omega) (by omega)
  have h0 : 0 ≤ x * (2 : Int) ^ m := Int.mul_nonneg hx0 (by omega)
  have hmod : x * (2 : Int) ^ m % (2 : Int) ^ m = 0 := Int.mul_emod_left _ _
  have e : shl .u64 (IntKind.u64.wrap x) (m : Int) = x * (2 : Int) ^ m := by
    unfold shl
    rw [u64w (x := x) hx0 (by omega), Int.toNat_natCast, Nat.min_eq_left (show m ≤ IntKind.u64.bits by simp [IntKind.bits]; omega)]
    exact u64w h0 (by omega)
  rw [e]
  refine ⟨bits_join .u64 64 (by decide) wraps_u64 m _ _ h0 hmod ?_ hc0 hc1 ?_, by omega, by omega, by omega⟩
  · have : x * (2 : Int) ^ m < 18446744073709551616 := by omega
    exact this
  · have : c < 18446744073709551616 := by omega
    exact this
def Shf (a : List Int) (m : Nat) (r : List Int) : Prop := r.length = a.length + 1 ∧ Lm r ∧ lv r = lv a * (2 : Int) ^ m
theorem nshift_loop {a : List Int} {m : Nat} (ha : Lm a) (hla : a.length < 268435456) (hm : m < 32) : ∀ (d i : Nat) (o : List Int) (c : Int), i + d = a.length → o.length = a.length + 1 → Lm o → 0 ≤ c → c < (2 : Int) ^ m → (∀ j : Nat, i ≤ j → rd o (j : Int) = 0) →
    Aside0 (lv o + (bp i : Int) * c = lv (a.take i) * (2 : Int) ^ m) → Rz (Shf a m) (fun k => nat_shift.l0 k a (m : Int) o c a (a.length : Int) (i : Int)) := by
  intro d
  induction d with
  | zero =>
    intro i o c hi hol ho hc0 hc1 hz hv
    have hi : i = a.length := by omega
    subst hi
    have hp := pm_le hm
    have hc2 : c % 4294967296 = c := by omega
    have hlen : (a.length : Int) < (o.length : Int) := by omega
    refine Rz.succ ?_
    simp only [nat_shift.l0, if_neg (show ¬ (a.length : Int) < (a.length : Int) from Int.lt_irrefl _), if_pos (show (0 : Int) ≤ (a.length : Int) from Int.natCast_nonneg _), if_pos hlen, Int.toNat_natCast, hc2]
    refine Rz.some ⟨by rw [List.length_set]; exact hol, lm_set ho hc0 (by omega), ?_⟩
    have hv := hv.out
    rw [List.take_of_length_le (Nat.le_refl _)] at hv
    rw [lv_set _ (by omega), hz a.length (Nat.le_refl _), ← hv]
    rw [Int.sub_zero]
  | succ d ih =>
    intro i o c hi hol ho hc0 hc1 hz hv
    have hia : i < a.length := by omega
    have ra := rd_lm ha (i : Int)
    obtain ⟨e1, s0, sP, s1⟩ := shl_or ra.1 ra.2 hm hc0 hc1
    have hp0 := pm_pos m
    have hsP : (rd a (i : Int) * (2 : Int) ^ m + c) / 4294967296 < (2 : Int) ^ m := Int.ediv_lt_of_lt_mul (by decide) (by rw [Int.mul_comm ((2 : Int) ^ m) 4294967296]; exact sP)
    have hd := div_bound s0 s1
    have hs := split_div (rd a (i : Int) * (2 : Int) ^ m + c)
    have c1 : (i : Int) < (a.length : Int) := by clear e1; omega
    have c2 : (i : Int) < (o.length : Int) := by clear e1; omega
    refine Rz.succ ?_
    simp only [nat_shift.l0, if_pos c1, if_pos (show (0 : Int) ≤ (i : Int) from Int.natCast_nonneg _), if_pos (show (0 : Int) ≤ (m : Int) from Int.natCast_nonneg _), if_pos c2, e1, Int.toNat_natCast, wn (show (i : Int) + 1 = ((i + 1 : Nat) : Int) by clear e1; omega) (by clear e1; omega)]
    clear e1
    refine ih (i + 1) _ _ (by omega) (by rw [List.length_set]; exact hol) (lm_set ho hd.1 hd.2.1) hd.2.2.1 hsP (fun j hj => by rw [rd_set_ne _ (by omega)]; exact hz j (by omega)) ⟨?_⟩
    rw [lv_set _ (by omega), lv_take_succ hia, bp_succ, Int.natCast_mul, hz i (Nat.le_refl _)]
    have hv := hv.out
    clear ih hd hsP s0 s1 sP hz
    generalize (rd a (i : Int) * (2 : Int) ^ m + c) / 4294967296 = c2 at *
    generalize (rd a (i : Int) * (2 : Int) ^ m + c) % 4294967296 = sm at *
    generalize (2 : Int) ^ m = P at *
    generalize (bp i : Int) = p at *
    generalize rd a (i : Int) = ai at *
    generalize lv o = lo at *
    generalize lv (a.take i) = lt at *
    show lo + p * (sm - 0) + 4294967296 * p * c2 = (lt + p * ai) * P
    have h2 : p * (sm + 4294967296 * c2) = p * (ai * P + c) := by rw [hs]
    grind
theorem nshift_ev {a : List Int} {m : Nat} (ha : Lm a) (hla : a.length < 268435456) (hm : m < 32) : Rz (Shf a m) (fun k => nat_shift.f k a (m : Int)) := by
  simp only [nat_shift.f, wn (show (a.length : Int) + 1 = ((a.length + 1 : Nat) : Int) by omega) (by omega), Int.toNat_natCast, if_pos (show (0 : Int) ≤ ((a.length + 1 : Nat) : Int) by omega), if_pos (show a.length + 1 ≤ 70368744177664 by omega)]
  exact nshift_loop ha hla hm a.length 0 _ 0 (by omega) (by simp) (lm_rep _) (by omega) (pm_pos m) (fun j _ => rd_rep _ j) ⟨by rw [lv_rep]; simp [lv_nil]⟩
theorem join_low {y x : Int} (hy0 : 0 ≤ y) (hy1 : y < 4294967296) (hx0 : 0 ≤ x) (hx1 : x < 4294967296) : Go.bits .or .u64 (IntKind.u64.wrap y) (IntKind.u64.wrap (IntKind.u64.wrap x * 4294967296)) = y + x * 4294967296 := by
  rw [u64w (x := x) hx0 (by omega), u64w (x := x * 4294967296) (by omega) (by omega), u64w (x := y) hy0 (by omega)]
  have h := bits_join .u64 64 (by decide) wraps_u64 32 (x * 4294967296) y (by omega) (by omega) (by omega) hy0 (by omega) (by omega)
  obtain ⟨a, ha⟩ := Int.eq_ofNat_of_zero_le hy0
  obtain ⟨b, hb⟩ := Int.eq_ofNat_of_zero_le (show 0 ≤ x * 4294967296 by omega)
  rw [ha, hb] at h ⊢
  rw [(bits_nat .u64 64 (by decide) wraps_u64 b a (by omega) (by omega)).2] at h
  rw [(bits_nat .u64 64 (by decide) wraps_u64 a b (by omega) (by omega)).2, Nat.or_comm, h]
  omega
theorem shr_limb {u0 u1 : Int} {m : Nat} (h00 : 0 ≤ u0) (h01 : u0 < 4294967296) (h10 : 0 ≤ u1) (h11 : u1 < 4294967296) (hm : m < 32) :
    ∃ x, shr .u64 (Go.bits .or .u64 (IntKind.u64.wrap u0) (IntKind.u64.wrap (IntKind.u64.wrap u1 * 4294967296))) (m : Int) % 4294967296 = x ∧ 0 ≤ x ∧ x < 4294967296 ∧ x * (2 : Int) ^ m = u0 - u0 % (2 : Int) ^ m + (u1 % (2 : Int) ^ m) * 4294967296 := by
  refine ⟨_, rfl, by omega, by omega, ?_⟩
  rw [join_low h00 h01 h10 h11]
  unfold shr
  rw [Int.toNat_natCast, Nat.min_eq_left (show m ≤ IntKind.u64.bits by simp [IntKind.bits]; omega)]
  have hp0 := pm_pos m
  have hq0 := pm_pos (32 - m)
  have hPP : (2 : Int) ^ m * (2 : Int) ^ (32 - m) = 4294967296 := by
    rw [← Int.pow_add, show m + (32 - m) = 32 by omega]; rfl
  generalize (2 : Int) ^ m = P at *
  generalize (2 : Int) ^ (32 - m) = P' at *
  have e1 : (u0 + u1 * 4294967296) / P = u0 / P + u1 * P' := by
    rw [← hPP, show u1 * (P * P') = (u1 * P') * P by grind]
    exact Int.add_mul_ediv_right _ _ (by omega)
  have hm0 := Int.emod_nonneg u1 (show P ≠ 0 by omega)
  have hm1 := Int.emod_lt_of_pos u1 hp0
  have hd := Int.mul_ediv_add_emod u1 P
  have hd0 := Int.mul_ediv_add_emod u0 P
  have hu := Int.ediv_nonneg h00 (show 0 ≤ P by omega)
  have hu1 : u0 / P < P' := Int.ediv_lt_of_lt_mul hp0 (by rw [Int.mul_comm, hPP]; exact h01)
  have e2 : (u0 / P + u1 * P') % 4294967296 = u0 / P + (u1 % P) * P' := by
    have e3 : u0 / P + u1 * P' = (u0 / P + (u1 % P) * P') + (u1 / P) * 4294967296 := by
      rw [← hPP]
      have : u1 * P' = (P * (u1 / P) + u1 % P) * P' := by rw [hd]
      grind
    rw [e3, Int.add_mul_emod_self_right]
    have h1 : 0 ≤ (u1 % P) * P' := Int.mul_nonneg hm0 (by omega)
    have h2 : (u1 % P + 1) * P' ≤ P * P' := Int.mul_le_mul_of_nonneg_right (by omega) (by omega)
    have h3 : (u1 % P + 1) * P' = (u1 % P) * P' + P' := by grind
    exact Int.emod_eq_of_lt (by omega) (by omega)
  rw [e1, e2]
  have : (u0 / P) * P = u0 - u0 % P := by rw [Int.mul_comm]; omega
  have h4 : (u1 % P) * P' * P = (u1 % P) * 4294967296 := by rw [← hPP]; grind
  rw [Int.add_mul, this, h4]
theorem rem_loop {u quo : List Int} {m n : Nat} (hu : Lm u) (hn : n < u.length) (hnl : n < 268435456) (hm : m < 32) : ∀ (d i : Nat) (o : List Int), i + d = n → o.length = n → Lm o → (∀ j : Nat, i ≤ j → rd o (j : Int) = 0) →
    Aside0 (lv o * (2 : Int) ^ m = lv (u.take i) - rd u ((0 : Nat) : Int) % (2 : Int) ^ m + (bp i : Int) * (rd u (i : Int) % (2 : Int) ^ m)) →
    Rz (fun r => r.1 = quo ∧ Lm r.2 ∧ r.2.length = n ∧ lv r.2 * (2 : Int) ^ m = lv (u.take n) - rd u ((0 : Nat) : Int) % (2 : Int) ^ m + (bp n : Int) * (rd u (n : Int) % (2 : Int) ^ m)) (fun k => nat_long.l1 k quo o (m : Int) u (n : Int) (i : Int)) := by
  intro d
  induction d with
  | zero =>
    intro i o hi hol ho hz hv
    have hi : i = n := by omega
    subst hi
    refine Rz.succ ?_
    simp only [nat_long.l1, if_neg (show ¬ (i : Int) < (i : Int) from Int.lt_irrefl _)]
    exact Rz.some ⟨rfl, ho, hol, hv.out⟩
  | succ d ih =>
    intro i o hi hol ho hz hv
    have r0 := rd_lm hu (i : Int)
    have r1 := rd_lm hu ((i + 1 : Nat) : Int)
    obtain ⟨x, ex, x0, x1, hx⟩ := shr_limb r0.1 r0.2 r1.1 r1.2 hm
    have c1 : (i : Int) < (n : Int) := by clear ex; omega
    have c2 : (i : Int) < (u.length : Int) := by clear ex; omega
    have c3 : ((i + 1 : Nat) : Int) < (u.length : Int) := by clear ex; omega
    have c4 : (i : Int) < (o.length : Int) := by clear ex; omega
    have ew := wn (show (i : Int) + 1 = ((i + 1 : Nat) : Int) by clear ex; omega) (by clear ex; omega)
    refine Rz.succ ?_
    simp only [nat_long.l1, if_pos c1, if_pos (show (0 : Int) ≤ (i : Int) from Int.natCast_nonneg _), if_pos c2, ew, if_pos (show (0 : Int) ≤ ((i + 1 : Nat) : Int) from Int.natCast_nonneg _), if_pos c3, if_pos (show (0 : Int) ≤ (m : Int) from Int.natCast_nonneg _), if_pos c4, ex, Int.toNat_natCast]
    clear ex ew
    refine ih (i + 1) _ (by omega) (by rw [List.length_set]; exact hol) (lm_set ho x0 x1) (fun j hj => by rw [rd_set_ne _ (by omega)]; exact hz j (by omega)) ⟨?_⟩
    rw [lv_set _ (by omega), hz i (Nat.le_refl _), lv_take_succ (by omega), bp_succ, Int.natCast_mul]
    have hv := hv.out
    clear ih hz
    generalize (2 : Int) ^ m = P at *
    generalize rd u ((i + 1 : Nat) : Int) % P = k1 at *
    generalize hk0 : rd u (i : Int) % P = k0 at *
    generalize rd u ((0 : Nat) : Int) % P = kz at *
    generalize (bp i : Int) = p at *
    generalize rd u (i : Int) = ui at *
    generalize lv o = lo at *
    generalize lv (u.take i) = lt at *
    show (lo + p * (x - 0)) * P = lt + p * ui - kz + 4294967296 * p * k1
    have h2 : p * (x * P) = p * (ui - k0 + k1 * 4294967296) := by rw [hx]
    grind
theorem win_split {u : List Int} {lo hi : Nat} (h1 : lo ≤ hi) (h2 : hi ≤ u.length) : u.take lo ++ ((u.take hi).drop lo ++ u.drop hi) = u := by
  have h3 : (u.take hi).take lo = u.take lo := by rw [List.take_take, Nat.min_eq_left h1]
  rw [← List.append_assoc, ← h3, List.take_append_drop, List.take_append_drop]
theorem lm_drop {l : List Int} (h : Lm l) (n : Nat) : Lm (l.drop n) := fun x hx => h x (List.mem_of_mem_drop hx)
theorem quo_loop {P : List Int × List Int → Prop} {v : List Int} {m N : Nat} {A : Int} (hv : Lm v) (hk : 2 ≤ v.length) (ht : 2147483648 ≤ rd v ((v.length - 1 : Nat) : Int)) (hN : N < 268435456)
    (hfin : ∀ (u quo : List Int), u.length = N → Lm u → Lm quo → quo.length = N - v.length → lv u < lv v → Aside0 (A = lv quo * lv v + lv u) → Rz P (fun k => nat_long.l0 k quo (m : Int) v u (v.length : Int) (-1))) :
    ∀ (d : Nat) (u quo : List Int), d + v.length ≤ N → u.length = N → Lm u → Lm quo → quo.length = N - v.length → (∀ i : Nat, i < d → rd quo (i : Int) = 0) → lv u < (bp d : Int) * lv v → Aside0 (A = lv quo * lv v + lv u) → Rz P (fun k => nat_long.l0 k quo (m : Int) v u (v.length : Int) ((d : Int) - 1)) := by
  intro d
  induction d with
  | zero =>
    intro u quo hd hul hu hq hql hz hlt he
    rw [bp_zero] at hlt
    exact hfin u quo hul hu hq hql (by rw [show ((1 : Nat) : Int) = 1 from rfl, Int.one_mul] at hlt; exact hlt) he
  | succ d ih =>
    intro u quo hd hul hu hq hql hz hlt he
    have hV0 := lv_nonneg hv
    have hV1 := lv_lt hv
    obtain ⟨w, hw⟩ : ∃ w, w = (u.take (d + v.length + 1)).drop d := ⟨_, rfl⟩
    obtain ⟨dr, hdr⟩ : ∃ dr, dr = u.drop (d + v.length + 1) := ⟨_, rfl⟩
    have hsp := win_split (u := u) (lo := d) (hi := d + v.length + 1) (by omega) (by omega)
    rw [← hw, ← hdr] at hsp
    have hwl : w.length = v.length + 1 := by rw [hw, List.length_drop, List.length_take]; omega
    have hdl : dr.length = N - (d + v.length + 1) := by rw [hdr, List.length_drop]; omega
    have hwm : Lm w := by rw [hw]; exact lm_drop (lm_take hu _) _
    have hdm : Lm dr := by rw [hdr]; exact lm_drop hu _
    have htl : (u.take d).length = d := by rw [List.length_take]; omega
    have hval : lv u = lv (u.take d) + (bp d : Int) * (lv w + (bp (v.length + 1) : Int) * lv dr) := by
      rw [← hwl]
      conv => lhs; rw [← hsp, lv_append, lv_append, htl]
    have tb := take_bound hu d
    have w0 := lv_nonneg hwm
    have d0 := lv_nonneg hdm
    have hb := bp_pos d
    have hbk := bp_pos v.length
    rw [bp_succ, Int.natCast_mul] at hlt
    have hdr0 : lv dr = 0 := by
      by_cases g : lv dr = 0
      · exact g
      · exfalso
        have h1 : (bp v.length : Int) * 1 ≤ (bp v.length : Int) * lv dr := Int.mul_le_mul_of_nonneg_left (by omega) (by omega)
        rw [bp_succ, Int.natCast_mul] at hval
        have h2 : (bp d : Int) * (lv w + 4294967296 * (bp v.length : Int) * lv dr) < (bp d : Int) * (4294967296 * lv v) := by
          have : ((4294967296 : Nat) : Int) * (bp d : Int) * lv v = (bp d : Int) * (4294967296 * lv v) := by
            show 4294967296 * (bp d : Int) * lv v = _
            grind
          have e2 : (bp d : Int) * (lv w + ((4294967296 : Nat) : Int) * (bp v.length : Int) * lv dr) = (bp d : Int) * (lv w + 4294967296 * (bp v.length : Int) * lv dr) := rfl
          omega
        have h3 := Int.lt_of_mul_lt_mul_left h2 (by omega)
        have h4 : 4294967296 * (bp v.length : Int) * lv dr = 4294967296 * ((bp v.length : Int) * lv dr) := by grind
        omega
    rw [hdr0, Int.mul_zero, Int.add_zero] at hval
    have hW : lv w < 4294967296 * lv v := by
      have h2 : (bp d : Int) * lv w < (bp d : Int) * (4294967296 * lv v) := by
        have : ((4294967296 : Nat) : Int) * (bp d : Int) * lv v = (bp d : Int) * (4294967296 * lv v) := by
          show 4294967296 * (bp d : Int) * lv v = _
          grind
        omega
      exact Int.lt_of_mul_lt_mul_left h2 (by omega)
    obtain ⟨⟨q, rl⟩, hev, hq1, hrl, hrm, hrv⟩ := step_ev hwm hv hwl (by omega) hk ht hW
    simp only at hq1 hrl hrm hrv
    have hVp : 0 < lv v := by omega
    have hdm2 := Int.mul_ediv_add_emod (lv w) (lv v)
    have hr0 := Int.emod_nonneg (lv w) (show lv v ≠ 0 by omega)
    have hr1 := Int.emod_lt_of_pos (lv w) hVp
    have hq0 : 0 ≤ q := by rw [hq1]; exact Int.ediv_nonneg w0 (by omega)
    have hqB : q < 4294967296 := by rw [hq1]; exact Int.ediv_lt_of_lt_mul hVp hW
    rw [← hq1, ← hrv] at hdm2
    rw [← hrv] at hr0 hr1
    have i1 : wrap64 ((d : Int) + (v.length : Int)) = ((d + v.length : Nat) : Int) := wn (by omega) (by omega)
    have i2 : wrap64 (((d + v.length : Nat) : Int) + 1) = ((d + v.length + 1 : Nat) : Int) := wn (by clear i1; omega) (by clear i1; omega)
    have i3 : wrap64 ((d : Int) - 1) = (d : Int) - 1 := w64 (by clear i1 i2; omega) (by clear i1 i2; omega)
    have c1 : (d : Int) ≥ 0 := Int.natCast_nonneg _
    have c2 : (d : Int) ≤ ((d + v.length + 1 : Nat) : Int) := by clear i1 i2 i3; omega
    have c3 : ((d + v.length + 1 : Nat) : Int) ≤ (u.length : Int) := by clear i1 i2 i3; omega
    have c4 : (d : Int) < (quo.length : Int) := by clear i1 i2 i3; omega
    refine Rz.succ ?_
    rw [show ((d + 1 : Nat) : Int) - 1 = (d : Int) by clear i1 i2 i3; omega]
    simp only [nat_long.l0, if_pos c1, if_pos (show (0 : Int) ≤ (d : Int) from c1), i1, i2, if_pos c2, if_pos c3, Int.toNat_natCast, ← hw, ← hdr]
    refine Rz.bind hev ?_
    simp only [if_pos c4, i3]
    clear i1 i2 i3 hev
    have hul2 : (u.take d ++ (rl ++ dr)).length = N := by rw [List.length_append, List.length_append, htl, hrl, hdl]; omega
    have hval2 : lv (u.take d ++ (rl ++ dr)) = lv (u.take d) + (bp d : Int) * lv rl := by
      rw [lv_append, lv_append, htl, hdr0, Int.mul_zero, Int.add_zero]
    refine ih _ _ (by omega) hul2 (lm_append (lm_take hu _) (lm_append hrm hdm)) (lm_set hq hq0 hqB) (by rw [List.length_set]; exact hql) (fun i hi => by rw [rd_set_ne _ (by omega)]; exact hz i (by omega)) ?_ ⟨?_⟩
    · rw [hval2]
      have h1 : (bp d : Int) * (lv rl + 1) ≤ (bp d : Int) * lv v := Int.mul_le_mul_of_nonneg_left (by omega) (by omega)
      have h2 : (bp d : Int) * (lv rl + 1) = (bp d : Int) * lv rl + bp d := by grind
      omega
    · rw [lv_set _ (by omega), hz d (by omega), hval2]
      have he := he.out
      rw [hval] at he
      rw [he]
      have h1 : (bp d : Int) * (lv v * q + lv rl) = (bp d : Int) * lv w := by rw [hdm2]
      generalize (bp d : Int) = p at *
      grind
theorem len32 {x : Int} (h0 : 0 ≤ x) (h1 : x < 4294967296) : bits_Len32.f x = some ((Lib.bitLen x.toNat : Nat) : Int) := by
  unfold bits_Len32.f
  rw [if_pos h0, if_pos (by omega)]
theorem nlong_ev {a b : Nat} (hb : 2 ≤ (dg b).length) (hab : b ≤ a) (hal : (dg a).length < 67108864) :
    Rz (fun r => Lm r.1 ∧ Lm r.2 ∧ lv r.1 = ((a / b : Nat) : Int) ∧ lv r.2 = ((a % b : Nat) : Int) ∧ r.1.length ≤ (dg a).length + 1 ∧ r.2.length ≤ (dg a).length + 1) (fun k => nat_long.f k (dg a) (dg b)) := by
  have hlab := dg_len_mono hab
  obtain ⟨n, hn⟩ : ∃ n, (dg b).length = n + 1 := ⟨(dg b).length - 1, by omega⟩
  have hb0 : b ≠ 0 := by intro e; rw [e, dg_zero] at hb; simp at hb
  have hr := rd_lm (lm_dg b) (n : Int)
  have hd := dg_head (n := b) (i := n) (by omega)
  obtain ⟨x, hx⟩ : ∃ x : Nat, rd (dg b) (n : Int) = (x : Int) := ⟨(rd (dg b) (n : Int)).toNat, by omega⟩
  rw [hx] at hr hd
  have hx0 : x ≠ 0 := by omega
  have hx1 : x < 4294967296 := by omega
  have hbl1 := bitLen_pos hx0 hx1
  have hbl2 := bits_half x hx1
  obtain ⟨m, hm⟩ : ∃ m, m = 32 - Lib.bitLen x := ⟨_, rfl⟩
  have hm32 : m < 32 := by omega
  have hblb : bl b = 32 * n + Lib.bitLen x := by
    unfold bl
    rw [if_neg hb0, hn, show n + 1 - 1 = n from rfl, hx, Int.toNat_natCast]
  obtain ⟨lo, hi, _⟩ := bl_bounds hb0
  obtain ⟨V, hV⟩ : ∃ V, V = b * 2 ^ m := ⟨_, rfl⟩
  have hVlo : 2147483648 * bp n ≤ V := by
    rw [hV, ← pow2_bp]
    have h1 := Nat.mul_le_mul_right (2 ^ m) lo
    rw [← Nat.pow_add, hblb, show 32 * n + Lib.bitLen x - 1 + m = 31 + 32 * n by omega, Nat.pow_add] at h1
    exact h1
  have hVhi : V < bp (n + 1) := by
    rw [hV, ← pow2_bp]
    have h1 := Nat.mul_lt_mul_of_pos_right hi (Nat.two_pow_pos m)
    rw [← Nat.pow_add, hblb, show 32 * n + Lib.bitLen x + m = 32 * (n + 1) by omega] at h1
    exact h1
  have hVl : (dg V).length = n + 1 := by
    have h1 := dg_len_le hVhi
    by_cases g : (dg V).length ≤ n
    · exfalso
      have h2 := dg_lt_len V
      have h3 := bp_mono g
      have h4 := bp_pos n
      omega
    · omega
  have hVt : 2147483648 ≤ rd (dg V) (((dg V).length - 1 : Nat) : Int) := by
    rw [hVl, show n + 1 - 1 = n from rfl]
    have h1 := lv_take_succ (l := dg V) (i := n) (by omega)
    rw [← hVl, List.take_of_length_le (Nat.le_refl _), lv_dg] at h1
    have h2 := take_bound (lm_dg V) n
    have h4 := bp_pos n
    have h5 : (bp n : Int) * 2147483647 < (bp n : Int) * rd (dg V) (n : Int) := by omega
    have := Int.lt_of_mul_lt_mul_left h5 (by omega)
    omega
  have hVm : Lm (dg V) := lm_dg V
  have hVv : lv (dg V) = (V : Int) := lv_dg V
  have hp2 : ((2 ^ m : Nat) : Int) = (2 : Int) ^ m := by rw [Int.natCast_pow]; rfl
  have hpm := pm_pos m
  obtain ⟨s1, hs1, hs1l, hs1m, hs1v⟩ := nshift_ev (a := dg b) (m := m) (lm_dg b) (by omega) hm32
  obtain ⟨u, hu, hul, hum, huv⟩ := nshift_ev (a := dg a) (m := m) (lm_dg a) (by omega) hm32
  have hs1V : (lv s1).toNat = V := by
    rw [hs1v, lv_dg, ← hp2, ← Int.natCast_mul, Int.toNat_natCast, hV]
  have hsh := short_ev hs1m (by omega)
  rw [hs1V] at hsh
  rw [lv_dg] at huv
  have i1 : wrap64 (((n + 1 : Nat) : Int) - 1) = (n : Int) := wn (by omega) (by omega)
  have i2 : wrap64 (32 - ((Lib.bitLen x : Nat) : Int)) = (m : Int) := wn (by clear i1; omega) (by clear i1; omega)
  have f1 : bits_LeadingZeros32.f (rd (dg b) (n : Int)) = some (m : Int) := by
    unfold bits_LeadingZeros32.f
    rw [hx, len32 (by clear i1 i2; omega) (by clear i1 i2; omega), Int.toNat_natCast, Option.bind_some, i2]
  have i3 : wrap64 ((u.length : Int) - ((dg V).length : Int)) = ((u.length - (n + 1) : Nat) : Int) := wn (by clear i1 i2; omega) (by clear i1 i2; omega)
  have i4 : wrap64 (((u.length - (n + 1) : Nat) : Int) - 1) = ((u.length - (n + 1) : Nat) : Int) - 1 := w64 (by clear i1 i2 i3; omega) (by clear i1 i2 i3; omega)
  have c1 : (0 : Int) ≤ (n : Int) := Int.natCast_nonneg _
  have c2 : (n : Int) < ((n + 1 : Nat) : Int) := by clear i1 i2 i3 i4; omega
  have c3 : u.length - (n + 1) ≤ 70368744177664 := by clear i1 i2 i3 i4; omega
  simp only [nat_long.f, hn, i1, if_pos c1, if_pos c2]
  refine Rz.bind (Ev.of (fun k => f1)) ?_
  refine Rz.bind hs1 ?_
  refine Rz.bind hsh ?_
  refine Rz.bind hu ?_
  simp only [i3, i4, if_pos (show (0 : Int) ≤ ((u.length - (n + 1) : Nat) : Int) from Int.natCast_nonneg _), Int.toNat_natCast, if_pos c3]
  clear i1 i2 i3 i4 f1
  have hb1 : bp n ≤ b := by
    have h1 : bp n * 2 ^ (Lib.bitLen x - 1) ≤ b := by
      rw [← pow2_bp, ← Nat.pow_add, show 32 * n + (Lib.bitLen x - 1) = bl b - 1 by omega]; exact lo
    have h2 := Nat.two_pow_pos (Lib.bitLen x - 1)
    have h3 : bp n * 1 ≤ bp n * 2 ^ (Lib.bitLen x - 1) := Nat.mul_le_mul_left _ h2
    omega
  refine quo_loop (A := (a : Int) * (2 : Int) ^ m) (N := u.length) hVm (by omega) hVt (by omega) (fun u2 quo hu2l hu2m hqm hql hlt he => ?_) (u.length - (n + 1)) u _ (by omega) rfl hum (lm_rep _) (by rw [List.length_replicate, hVl]) (fun i _ => rd_rep _ i) ?_ ⟨by rw [lv_rep, huv]; omega⟩
  ·
    rw [hVv] at hlt he
    have he := he.out
    have hVi : (V : Int) = (b : Int) * (2 : Int) ^ m := by rw [hV, Int.natCast_mul, hp2]
    have hu20 := lv_nonneg hu2m
    obtain ⟨r, hr2⟩ : ∃ r, r = (a : Int) - lv quo * b := ⟨_, rfl⟩
    have hrP : lv u2 = r * (2 : Int) ^ m := by
      rw [hVi] at he
      rw [hr2]
      generalize (2 : Int) ^ m = P at *
      grind
    have hr0 : 0 ≤ r := by
      by_cases g : 0 ≤ r
      · exact g
      · exfalso
        have h1 : r * (2 : Int) ^ m ≤ -1 * (2 : Int) ^ m := Int.mul_le_mul_of_nonneg_right (by omega) (by omega)
        omega
    have hrb : r < (b : Int) := by
      rw [hrP, hVi] at hlt
      exact Int.lt_of_mul_lt_mul_right hlt (by omega)
    have hqr := (Int.ediv_emod_unique (a := (a : Int)) (b := (b : Int)) (r := r) (q := lv quo) (by omega)).mpr ⟨by rw [hr2, Int.mul_comm (b : Int)]; omega, hr0, hrb⟩
    have hz1 : rd u2 ((n + 1 : Nat) : Int) = 0 ∧ lv (u2.take (n + 1)) = lv u2 := by
      have h1 := take_bound hu2m (n + 1)
      have hsp : lv u2 = lv (u2.take (n + 1)) + (bp (n + 1) : Int) * lv (u2.drop (n + 1)) := by
        conv => lhs; rw [← List.take_append_drop (n + 1) u2, lv_append, List.length_take, Nat.min_eq_left (show n + 1 ≤ u2.length by omega)]
      have h2 := lv_nonneg (lm_drop hu2m (n + 1))
      have h3 := bp_pos (n + 1)
      have hz : lv (u2.drop (n + 1)) = 0 := by
        by_cases g : lv (u2.drop (n + 1)) = 0
        · exact g
        · exfalso
          have : (bp (n + 1) : Int) * 1 ≤ (bp (n + 1) : Int) * lv (u2.drop (n + 1)) := Int.mul_le_mul_of_nonneg_left (by omega) (by omega)
          omega
      rw [hz, Int.mul_zero, Int.add_zero] at hsp
      refine ⟨?_, hsp.symm⟩
      have h4 := lv_take_succ (l := u2) (i := n + 1) (by omega)
      have h5 := rd_lm hu2m ((n + 1 : Nat) : Int)
      have hsp2 : lv u2 = lv (u2.take (n + 2)) + (bp (n + 2) : Int) * lv (u2.drop (n + 2)) := by
        conv => lhs; rw [← List.take_append_drop (n + 2) u2, lv_append, List.length_take, Nat.min_eq_left (show n + 2 ≤ u2.length by omega)]
      have h6 : 0 ≤ (bp (n + 2) : Int) * lv (u2.drop (n + 2)) := Int.mul_nonneg (Int.natCast_nonneg _) (lv_nonneg (lm_drop hu2m (n + 2)))
      by_cases g : rd u2 ((n + 1 : Nat) : Int) = 0
      · exact g
      · exfalso
        have : (bp (n + 1) : Int) * 1 ≤ (bp (n + 1) : Int) * rd u2 ((n + 1 : Nat) : Int) := Int.mul_le_mul_of_nonneg_left (by omega) (by omega)
        have h4' : lv (u2.take (n + 2)) = lv (u2.take (n + 1)) + (bp (n + 1) : Int) * rd u2 ((n + 1 : Nat) : Int) := h4
        omega
    have hc0 : rd u2 ((0 : Nat) : Int) % (2 : Int) ^ m = 0 := by
      have h1 := lv_take_succ (l := u2) (i := 0) (by omega)
      have hsp : lv u2 = lv (u2.take 1) + (bp 1 : Int) * lv (u2.drop 1) := by
        conv => lhs; rw [← List.take_append_drop 1 u2, lv_append, List.length_take, Nat.min_eq_left (show 1 ≤ u2.length by omega)]
      rw [List.take_zero, lv_nil, bp_zero] at h1
      have h2 : lv (u2.take 1) = rd u2 ((0 : Nat) : Int) := by
        have : lv (u2.take (0 + 1)) = 0 + ((1 : Nat) : Int) * rd u2 ((0 : Nat) : Int) := h1
        rw [show u2.take 1 = u2.take (0 + 1) from rfl, this]; omega
      have hPP : (2 : Int) ^ m * (2 : Int) ^ (32 - m) = 4294967296 := by
        rw [← Int.pow_add, show m + (32 - m) = 32 by omega]; rfl
      rw [h2, show (bp 1 : Int) = 4294967296 by rw [show bp 1 = bp (0 + 1) from rfl, bp_succ, bp_zero]; rfl, ← hPP, hrP] at hsp
      have : rd u2 ((0 : Nat) : Int) = (r - (2 : Int) ^ (32 - m) * lv (u2.drop 1)) * (2 : Int) ^ m := by
        generalize (2 : Int) ^ m = P at *
        grind
      rw [this]
      exact Int.mul_emod_left _ _
    have c5 : ¬ ((-1 : Int) ≥ 0) := by omega
    have c6 : n + 1 ≤ 70368744177664 := by omega
    refine Rz.succ ?_
    rw [hVl]
    simp only [nat_long.l0, if_neg c5, if_pos (show (0 : Int) ≤ ((n + 1 : Nat) : Int) from Int.natCast_nonneg _), Int.toNat_natCast, if_pos c6, Option.bind_some, List.length_replicate]
    obtain ⟨⟨q3, r3⟩, h31, h32, h33, h34, h35⟩ := rem_loop (u := u2) (quo := quo) (m := m) (n := n + 1) hu2m (by omega) (by omega) hm32 (n + 1) 0 (List.replicate (n + 1) 0) (by omega) (List.length_replicate) (lm_rep _) (fun j _ => rd_rep _ j) ⟨by
      rw [lv_rep, List.take_zero, lv_nil, bp_zero]
      show 0 * _ = 0 - _ + 1 * _
      omega⟩
    refine ⟨(q3, r3), h31, ?_⟩
    simp only at h32 h33 h34 h35
    rw [hz1.1, hz1.2, hc0, hrP] at h35
    have hr3 : lv r3 = r := by
      have h36 : (2 : Int) ^ m * lv r3 = (2 : Int) ^ m * r := by
        rw [Int.zero_emod, Int.mul_zero] at h35
        rw [Int.mul_comm, h35, Int.mul_comm r]; omega
      exact Int.eq_of_mul_eq_mul_left (by omega) h36
    refine ⟨?_, h33, ?_, ?_, ?_, ?_⟩
    · show Lm q3
      rw [h32]; exact hqm
    · show lv q3 = _
      rw [h32, ← hqr.1, Int.natCast_ediv]
    · show lv r3 = _
      rw [hr3, ← hqr.2, Int.natCast_emod]
    · show q3.length ≤ _
      rw [h32, hql]; omega
    · show r3.length ≤ _
      rw [h34]; omega
  ·
    rw [huv, hVv, hV, Int.natCast_mul, hp2]
    have h1 : (a : Int) < (bp (u.length - (n + 1)) : Int) * (b : Int) := by
      have h2 := dg_lt_len a
      have h3 : bp (u.length - (n + 1)) * bp n ≤ bp (u.length - (n + 1)) * b := Nat.mul_le_mul_left _ hb1
      rw [← bp_add, show u.length - (n + 1) + n = (dg a).length by omega] at h3
      have h4 : a < bp (u.length - (n + 1)) * b := by omega
      have := Int.ofNat_lt.mpr h4
      rw [Int.natCast_mul] at this
      exact this
    have h5 := Int.mul_lt_mul_of_pos_right h1 hpm
    rw [Int.mul_assoc] at h5
    exact h5
theorem ndivmod_ev {a b : Nat} (hb0 : b ≠ 0) (hla : (dg a).length < 67108864) (hlb : (dg b).length < 67108864) : Ev (fun k => nat_DivMod.f k (dg a) (dg b)) (dg (a / b), dg (a % b), 0) := by
  by_cases hb1 : b < 4294967296
  · exact ndivmod1_ev hb0 hb1 (by omega)
  have hb2 : 2 ≤ (dg b).length := by
    by_cases g : (dg b).length ≤ 1
    · exfalso
      have h2 := dg_lt_len b
      have h3 := bp_mono g
      rw [show bp 1 = bp (0 + 1) from rfl, bp_succ, bp_zero] at h3
      omega
    · omega
  simp only [nat_DivMod.f]
  refine Ev.bind (short2_ev (by omega)) ?_
  refine Ev.bind (short2_ev (by omega)) ?_
  simp only [if_neg (show ¬ ((dg b).length : Int) = 0 by omega)]
  refine Ev.bind (ncmp_ev (by omega) (by omega)) ?_
  by_cases h : a < b
  · have hc : cmpZ (a : Int) (b : Int) < 0 := by unfold cmpZ; rw [if_pos (by omega)]; omega
    simp only [if_pos hc]
    refine Ev.bind (trim2_ev (by omega)) ?_
    rw [Nat.div_eq_of_lt h, Nat.mod_eq_of_lt h, dg_zero]
    exact Ev.some _
  · have hc : ¬ cmpZ (a : Int) (b : Int) < 0 := by unfold cmpZ; rw [if_neg (by omega)]; split <;> omega
    simp only [if_neg hc, if_neg (show ¬ ((dg b).length : Int) = 1 by omega)]
    obtain ⟨⟨q, r⟩, hev, hq, hr, hqv, hrv, hql, hrl⟩ := nlong_ev hb2 (by omega) hla
    simp only at hq hr hqv hrv hql hrl
    refine Ev.bind hev ?_
    refine Ev.bind (trim_ev hq (by simp only; omega)) ?_
    refine Ev.bind (trim_ev hr (by simp only; omega)) ?_
    simp only [hqv, hrv, Int.toNat_natCast]
    exact Ev.some _
theorem ngcdG_loop : ∀ (b a : Nat), (dg a).length < 1048576 → (dg b).length < 1048576 → Ev (fun k => nat_Gcd.l0 k (dg a) (dg b)) (dg (Nat.gcd a b)) := by
  intro b
  induction b using Nat.strongRecOn with
  | _ b ih =>
    intro a h1 h2
    refine Ev.succ ?_
    by_cases h0 : b = 0
    · subst h0
      rw [dg_zero]
      simp only [nat_Gcd.l0, List.length_nil, if_neg (show ¬ ((0 : Nat) : Int) > 0 by omega), Nat.gcd_zero_right]
      refine Ev.bind (trim2_ev (by omega)) ?_
      exact Ev.some _
    · have hbl : (dg b).length ≠ 0 := by rw [Ne, dg_len_zero]; exact h0
      simp only [nat_Gcd.l0, if_pos (show ((dg b).length : Int) > 0 by omega)]
      refine Ev.bind (ndivmod_ev h0 (by omega) (by omega)) ?_
      rw [Nat.gcd_comm, Nat.gcd_rec, Nat.gcd_comm]
      have hlt := Nat.mod_lt a (show b > 0 by omega)
      exact ih (a % b) hlt b (by omega) (Nat.lt_of_le_of_lt (dg_len_mono (Nat.le_of_lt hlt)) h2)
theorem ngcdG_ev {a b : Nat} (h1 : (dg a).length < 1048576) (h2 : (dg b).length < 1048576) : Ev (fun k => nat_Gcd.f k (dg a) (dg b)) (dg (Nat.gcd a b)) := by
  simp only [nat_Gcd.f]
  refine Ev.bind (short2_ev (by omega)) ?_
  refine Ev.bind (short2_ev (by omega)) ?_
  exact ngcdG_loop b a h1 h2
theorem sg_len {b : Bool} {n : Nat} {z : Int} (h : sg b n = z) : n = z.natAbs := by rw [← h, sg_abs]
theorem nplus_ev {b1 b2 : Bool} {n1 n2 : Nat} (h1 : (dg n1).length < 134217728) (h2 : (dg n2).length < 134217728) :
    ∃ b n, Ev (fun k => mw_plus.f k b1 (dg n1) b2 (dg n2)) (b, dg n) ∧ sg b n = sg b1 n1 + sg b2 n2 := by
  by_cases hs : (b1 == b2) = true
  · refine ⟨b1, n1 + n2, ?_, ?_⟩
    · simp only [mw_plus.f, hs, if_true]
      refine Ev.bind (add2_ev (by omega) (by omega)) ?_
      exact Ev.some _
    · have e : b1 = b2 := by simpa using hs
      subst e
      unfold sg
      cases b1 <;> simp <;> omega
  · have hne : b1 ≠ b2 := by intro e; exact hs (by simp [e])
    by_cases hlt : n1 < n2
    · refine ⟨b2, n2 - n1, ?_, ?_⟩
      · have hc : cmpZ (n1 : Int) (n2 : Int) < 0 := by unfold cmpZ; rw [if_pos (by omega)]; omega
        simp only [mw_plus.f, hs, Bool.false_eq_true, if_false]
        refine Ev.bind (ncmp_ev (by omega) (by omega)) ?_
        simp only [if_pos hc]
        refine Ev.bind (nsub_ev (by omega) (by omega)) ?_
        exact Ev.some _
      · unfold sg
        cases b1 <;> cases b2 <;> simp at hne ⊢ <;> omega
    · refine ⟨b1, n1 - n2, ?_, ?_⟩
      · have hc : ¬ cmpZ (n1 : Int) (n2 : Int) < 0 := by unfold cmpZ; rw [if_neg (by omega)]; split <;> omega
        simp only [mw_plus.f, hs, Bool.false_eq_true, if_false]
        refine Ev.bind (ncmp_ev (by omega) (by omega)) ?_
        simp only [if_neg hc]
        refine Ev.bind (nsub_ev (by omega) (by omega)) ?_
        exact Ev.some _
      · unfold sg
        cases b1 <;> cases b2 <;> simp at hne ⊢ <;> omega
theorem sg_not (b : Bool) (n : Nat) : sg (!b) n = - sg b n := by unfold sg; cases b <;> simp
theorem nminus_ev {b1 b2 : Bool} {n1 n2 : Nat} (h1 : (dg n1).length < 134217728) (h2 : (dg n2).length < 134217728) :
    ∃ b n, Ev (fun k => mw_minus.f k b1 (dg n1) b2 (dg n2)) (b, dg n) ∧ sg b n = sg b1 n1 - sg b2 n2 := by
  obtain ⟨b, n, h, e⟩ := nplus_ev (b1 := b1) (b2 := !b2) h1 h2
  refine ⟨b, n, ?_, ?_⟩
  · simp only [mw_minus.f]
    refine Ev.bind h ?_
    exact Ev.some _
  · rw [e, sg_not]; omega
theorem ntimes_ev {b1 b2 : Bool} {n1 n2 : Nat} (h1 : (dg n1).length < 134217728) (h2 : (dg n2).length < 134217728) :
    ∃ b n, Ev (fun k => mw_times.f k b1 (dg n1) b2 (dg n2)) (b, dg n) ∧ sg b n = sg b1 n1 * sg b2 n2 := by
  refine ⟨b1 != b2, n1 * n2, ?_, ?_⟩
  · simp only [mw_times.f]
    refine Ev.bind (mul2_ev h1 h2) ?_
    exact Ev.some _
  · unfold sg
    cases b1 <;> cases b2 <;> simp [Int.neg_mul, Int.mul_neg]
theorem sm_abs {M : Nat} {f : Nat → Int} : ∀ n : Nat, (∀ i, i < n → (f i).natAbs ≤ M) → (sm n f).natAbs ≤ n * M := by
  intro n
  induction n with
  | zero => intro _; simp [sm]
  | succ n ih =>
    intro h
    have h1 := ih (fun i hi => h i (by omega))
    have h2 := h n (by omega)
    rw [sm, Nat.succ_mul]
    have := Int.natAbs_add_le (sm n f) (f n)
    omega
theorem kr_len {g a b k : Nat} (hg : g < 4294967296) (ha : a ≤ 64) (hb : b ≤ 64) (hk : k ≤ 64) : (dg (kr (g : Int) a b k).natAbs).length ≤ 324 := by
  rw [kr_formula]
  have hgl : (dg g).length ≤ 1 := dg_len_le (by rw [show (1 : Nat) = 0 + 1 from rfl, bp_succ, bp_zero]; omega)
  have hterm : ∀ j, j < k + 1 → ((-1 : Int) ^ j * ((g : Int) ^ (k - j) * ((bin b j : Int) * (bin a (k - j) : Int)))).natAbs ≤ bp 323 := by
    intro j hj
    have h1 : (dg (g ^ (k - j))).length ≤ 65 := by have := pow_len g (k - j) 1 hgl; omega
    have h2 := bin_len (n := b) (by omega) j
    have h3 := bin_len (n := a) (by omega) (k - j)
    have e : ((-1 : Int) ^ j * ((g : Int) ^ (k - j) * ((bin b j : Int) * (bin a (k - j) : Int)))).natAbs = g ^ (k - j) * (bin b j * bin a (k - j)) := by
      rw [Int.natAbs_mul, Int.natAbs_pow, Int.natAbs_mul, Int.natAbs_pow, Int.natAbs_mul]
      simp
    rw [e]
    have h4 := mul_len (bin b j) (bin a (k - j))
    have h5 := mul_len (g ^ (k - j)) (bin b j * bin a (k - j))
    exact Nat.le_of_lt (Nat.lt_of_lt_of_le (dg_lt_len _) (bp_mono (by omega)))
  have h := sm_abs (k + 1) hterm
  unfold krF
  refine dg_len_le ?_
  refine Nat.lt_of_le_of_lt h ?_
  rw [show 324 = 323 + 1 from rfl, bp_succ 323]
  have hp := bp_pos 323
  have : (k + 1) * bp 323 ≤ 65 * bp 323 := Nat.mul_le_mul_right _ (by omega)
  generalize bp 323 = p at *
  omega
def Num (e : S113) (z : Int) : Prop := ∃ b n, e = ⟨b, dg n⟩ ∧ sg b n = z
structure PRow (g n x m : Nat) (row : List S113) : Prop where
  len : row.length = m
  at' : ∀ k, k < m → Num (rd_T113 row (k : Int)) (kr (g : Int) (n - x) x k)
theorem rdT_app_lt {l m : List S113} {k : Nat} (h : k < l.length) : rd_T113 (l ++ m) (k : Int) = rd_T113 l (k : Int) := by
  unfold rd_T113
  simp [List.getD_eq_getElem?_getD, List.getElem?_append_left h]
theorem rdT_app_eq {l : List S113} {e : S113} {k : Nat} (h : k = l.length) : rd_T113 (l ++ [e]) (k : Int) = e := by
  subst h
  unfold rd_T113
  simp [List.getD_eq_getElem?_getD]
theorem rdL_app_lt {l m : List (List S113)} {k : Nat} (h : k < l.length) : rd_L6 (l ++ m) (k : Int) = rd_L6 l (k : Int) := by
  unfold rd_L6
  simp [List.getD_eq_getElem?_getD, List.getElem?_append_left h]
theorem rdL_app_eq {l : List (List S113)} {e : List S113} {k : Nat} (h : k = l.length) : rd_L6 (l ++ [e]) (k : Int) = e := by
  subst h
  unfold rd_L6
  simp [List.getD_eq_getElem?_getD]
theorem rdT_set_eq {l : List S113} {e : S113} {i : Nat} (h : i < l.length) : rd_T113 (l.set i e) (i : Int) = e := by
  unfold rd_T113
  simp [List.getD_eq_getElem?_getD, h]
theorem rdT_set_ne {l : List S113} {e : S113} {i j : Nat} (h : i ≠ j) : rd_T113 (l.set i e) (j : Int) = rd_T113 l (j : Int) := by
  unfold rd_T113
  simp [List.getD_eq_getElem?_getD, h]
theorem row_loop {g n x : Nat} (hg : g < 256) (hn : n ≤ 64) (hx : x < n) {rows : List (List S113)} {old : List S113} {T : List (List S113) → Prop} (hrl : rows.length ≤ 65) (hold : PRow g n x (n + 1) old)
    (next : ∀ row, PRow g n (x + 1) (n + 1) row → ∃ t, Ev (fun k => mw_table.l1 k (n : Int) (rows ++ [row]) (n : Int) ((x + 1 : Nat) : Int) false (dg g)) t ∧ T t) :
    ∀ (d k : Nat) (row : List S113), k + 1 + d = n + 1 → PRow g n (x + 1) (k + 1) row →
      ∃ t, Ev (fun kk => mw_table.l2 kk (n : Int) rows old row ((k + 1 : Nat) : Int) (n : Int) (x : Int) false (dg g)) t ∧ T t := by
  intro d
  induction d with
  | zero =>
    intro k row hk hrow
    have hk : k = n := by omega
    subst hk
    obtain ⟨t, ht, hT⟩ := next row hrow
    refine ⟨t, Ev.succ ?_, hT⟩
    simp only [mw_table.l2, if_neg (show ¬ ((k + 1 : Nat) : Int) ≤ (k : Int) by omega), if_pos (show rows.length < 5864062014805 by omega), wn (show (x : Int) + 1 = ((x + 1 : Nat) : Int) by omega) (by omega)]
    exact ht
  | succ d ih =>
    intro k row hk hrow
    have hol := hold.len
    have hrl2 := hrow.len
    obtain ⟨b1, n1, e1, s1⟩ := hold.at' (k + 1) (by omega)
    obtain ⟨b2, n2, e2, s2⟩ := hold.at' k (by omega)
    obtain ⟨b3, n3, e3, s3⟩ := hrow.at' k (by omega)
    have l1 : (dg n1).length ≤ 324 := by rw [sg_len s1]; exact kr_len (by omega) (by omega) (by omega) (by omega)
    have l2 : (dg n2).length ≤ 324 := by rw [sg_len s2]; exact kr_len (by omega) (by omega) (by omega) (by omega)
    have l3 : (dg n3).length ≤ 324 := by rw [sg_len s3]; exact kr_len (by omega) (by omega) (by omega) (by omega)
    have lg : (dg g).length ≤ 1 := dg_len_le (by rw [show (1 : Nat) = 0 + 1 from rfl, bp_succ, bp_zero]; omega)
    obtain ⟨b4, n4, v4, s4⟩ := nminus_ev (b1 := b1) (b2 := b2) (n1 := n1) (n2 := n2) (by omega) (by omega)
    have l4 : (dg n4).length ≤ 326 := by
      refine dg_len_le ?_
      rw [sg_len s4]
      have t := Int.natAbs_sub_le (sg b1 n1) (sg b2 n2)
      rw [sg_abs, sg_abs] at t
      have q1 := Nat.lt_of_lt_of_le (dg_lt_len n1) (bp_mono l1)
      have q2 := Nat.lt_of_lt_of_le (dg_lt_len n2) (bp_mono l2)
      rw [show 326 = 324 + 1 + 1 from rfl, bp_succ, bp_succ]
      generalize bp 324 = p at *
      omega
    obtain ⟨b5, n5, v5, s5⟩ := ntimes_ev (b1 := false) (b2 := b3) (n1 := g) (n2 := n3) (by omega) (by omega)
    have l5 : (dg n5).length ≤ 326 := by
      have t : n5 = g * n3 := by rw [sg_len s5, Int.natAbs_mul, sg_abs, sg_abs]
      have := mul_len g n3
      rw [t]
      omega
    obtain ⟨b6, n6, v6, s6⟩ := nminus_ev (b1 := b4) (b2 := b5) (n1 := n4) (n2 := n5) (by omega) (by omega)
    have hval : sg b6 n6 = kr (g : Int) (n - (x + 1)) (x + 1) (k + 1) := by
      rw [s6, s4, s5, s1, s2, s3]
      have hr := kr_row (g : Int) (n - (x + 1)) x k
      rw [show n - (x + 1) + 1 = n - x by omega] at hr
      rw [hr]
      rfl
    have hnew : PRow g n (x + 1) (k + 1 + 1) (row ++ [⟨b6, dg n6⟩]) := by
      refine ⟨by rw [List.length_append, hrl2]; rfl, fun j hj => ?_⟩
      by_cases hjk : j < k + 1
      · rw [rdT_app_lt (by omega)]; exact hrow.at' j hjk
      · have hj2 : j = k + 1 := by omega
        subst hj2
        rw [rdT_app_eq hrl2.symm]
        exact ⟨b6, n6, rfl, hval⟩
    obtain ⟨t, ht, hT⟩ := ih (k + 1) _ (by omega) hnew
    refine ⟨t, Ev.succ ?_, hT⟩
    simp only [mw_table.l2, wn (show ((k + 1 : Nat) : Int) - 1 = (k : Int) by omega) (by omega), wn (show ((k + 1 : Nat) : Int) + 1 = ((k + 1 + 1 : Nat) : Int) by omega) (by omega), if_pos (show ((k + 1 : Nat) : Int) ≤ (n : Int) by omega), if_pos (show (0 : Int) ≤ ((k + 1 : Nat) : Int) by omega), if_pos (show ((k + 1 : Nat) : Int) < (old.length : Int) by omega), if_pos (show (0 : Int) ≤ (k : Int) by omega), if_pos (show (k : Int) < (old.length : Int) by omega), if_pos (show (k : Int) < (row.length : Int) by omega), if_pos (show row.length < 4398046511104 by omega), e1, e2, e3]
    refine Ev.bind v4 ?_
    refine Ev.bind v5 ?_
    refine Ev.bind v6 ?_
    exact ht
structure Tab (g n m : Nat) (t : List (List S113)) : Prop where
  len : t.length = m
  at' : ∀ x, x < m → PRow g n x (n + 1) (rd_L6 t (x : Int))
theorem rows_loop {g n : Nat} (hg : g < 256) (hn : n ≤ 64) : ∀ (d x : Nat) (rows : List (List S113)), x + d = n → Tab g n (x + 1) rows →
    ∃ t, Ev (fun k => mw_table.l1 k (n : Int) rows (n : Int) (x : Int) false (dg g)) t ∧ Tab g n (n + 1) t := by
  intro d
  induction d with
  | zero =>
    intro x rows hx ht
    have hx : x = n := by omega
    subst hx
    refine ⟨rows, Ev.succ ?_, ht⟩
    simp only [mw_table.l1, if_neg (show ¬ (x : Int) < (x : Int) by omega)]
    exact Ev.some _
  | succ d ih =>
    intro x rows hx ht
    have hl := ht.len
    have hold := ht.at' x (by omega)
    obtain ⟨b0, n0, e0, s0⟩ := hold.at' 0 (by omega)
    have hol := hold.len
    have hfirst : PRow g n (x + 1) (0 + 1) [⟨b0, dg n0⟩] := by
      refine ⟨rfl, fun k hk => ?_⟩
      have hk : k = 0 := by omega
      subst hk
      refine ⟨b0, n0, rfl, ?_⟩
      rw [s0, kr_zero, kr_zero]
    obtain ⟨t, hev, hT⟩ := row_loop hg hn (show x < n by omega) (rows := rows) (T := Tab g n (n + 1)) (by omega) hold (fun row hrow => ih (x + 1) (rows ++ [row]) (by omega) ⟨by rw [List.length_append, hl]; rfl, fun y hy => by
      by_cases hyx : y < x + 1
      · rw [rdL_app_lt (by omega)]; exact ht.at' y hyx
      · have : y = x + 1 := by omega
        subst this
        rw [rdL_app_eq hl.symm]; exact hrow⟩) n 0 _ (by omega) hfirst
    refine ⟨t, Ev.succ ?_, hT⟩
    have e0' : rd_T113 (rd_L6 rows (x : Int)) 0 = ⟨b0, dg n0⟩ := e0
    simp only [mw_table.l1, if_pos (show (x : Int) < (n : Int) by omega), wn (show (rows.length : Int) - 1 = (x : Int) by omega) (by omega), if_pos (show (0 : Int) ≤ (x : Int) by omega), if_pos (show (x : Int) < (rows.length : Int) by omega), if_pos (show (0 : Int) < ((rd_L6 rows (x : Int)).length : Int) by omega), e0']
    exact hev
theorem first_loop {q n : Nat} (hq : 2 ≤ q) (hq2 : q ≤ 256) (hn : n ≤ 64) : ∀ (d i : Nat) (row : List S113), i + d = n + 1 → row.length = n + 1 → (∀ k, k < i → Num (rd_T113 row (k : Int)) (kr ((q - 1 : Nat) : Int) n 0 k)) →
    ∃ t, Ev (fun k => mw_table.l0 k (q : Int) (n : Int) row ((n + 1 : Nat) : Int) (i : Int)) t ∧ Tab (q - 1) n (n + 1) t := by
  intro d
  have hw : wrap64 ((q : Int) - 1) = ((q - 1 : Nat) : Int) := wn (by omega) (by omega)
  have hu : IntKind.u64.wrap ((q - 1 : Nat) : Int) = ((q - 1 : Nat) : Int) := u64w (by clear hw; omega) (by clear hw; omega)
  have hw := Aside0.mk hw
  have hu := Aside0.mk hu
  induction d with
  | zero =>
    intro i row hi hrl hrow
    have hi : i = n + 1 := by omega
    subst hi
    obtain ⟨t, ht, hT⟩ := rows_loop (g := q - 1) (n := n) (by omega) hn n 0 [row] (by omega) ⟨rfl, fun x hx => by
      have : x = 0 := by omega
      subst this
      exact ⟨hrl, fun k hk => hrow k hk⟩⟩
    refine ⟨t, Ev.succ ?_, hT⟩
    simp only [mw_table.l0, if_neg (show ¬ ((n + 1 : Nat) : Int) < ((n + 1 : Nat) : Int) by omega), mw_small.f, hw.out, hu.out]
    refine Ev.bind (Ev.bind (of_ev (by omega)) (Ev.some _)) ?_
    exact ht
  | succ d ih =>
    intro i row hi hrl hrow
    have hlb := bin_len (n := n) (by omega) i
    have hgl : (dg (q - 1)).length ≤ 1 := dg_len_le (by rw [show (1 : Nat) = 0 + 1 from rfl, bp_succ, bp_zero]; omega)
    have hlp := pow_len (q - 1) i 1 hgl
    obtain ⟨t, ht, hT⟩ := ih (i + 1) (row.set i ⟨false, dg (bin n i * (q - 1) ^ i)⟩) (by omega) (by rw [List.length_set]; exact hrl) (fun k hk => by
      by_cases e : k = i
      · subst e
        rw [rdT_set_eq (by omega)]
        refine ⟨false, _, rfl, ?_⟩
        rw [kr_first]
        unfold sg
        simp [Int.natCast_mul, Int.natCast_pow]
      · rw [rdT_set_ne (by omega)]; exact hrow k (by omega))
    refine ⟨t, Ev.succ ?_, hT⟩
    simp only [mw_table.l0, if_pos (show (i : Int) < ((n + 1 : Nat) : Int) by omega), hw.out, hu.out, if_pos (show (0 : Int) ≤ (i : Int) by omega), if_pos (show (i : Int) < (row.length : Int) by omega), wn (show (i : Int) + 1 = ((i + 1 : Nat) : Int) by omega) (by omega), Int.toNat_natCast]
    refine Ev.bind (binomial_ev (by omega) (by omega)) ?_
    refine Ev.bind (of_ev (by omega)) ?_
    refine Ev.bind (pow_ev (by omega) (by omega)) ?_
    refine Ev.bind (mul2_ev (by omega) (by omega)) ?_
    exact ht
theorem table_ev {q n : Nat} (hq : 2 ≤ q) (hq2 : q ≤ 256) (hn : n ≤ 64) : ∃ t, Ev (fun k => mw_table.f k (q : Int) (n : Int)) t ∧ Tab (q - 1) n (n + 1) t := by
  obtain ⟨t, ht, hT⟩ := first_loop hq hq2 hn (n + 1) 0 (List.replicate (n + 1) z113) (by omega) (by simp) (fun k hk => by omega)
  refine ⟨t, ?_, hT⟩
  simp only [mw_table.f, wn (show (n : Int) + 1 = ((n + 1 : Nat) : Int) by omega) (by omega), Int.toNat_natCast, if_pos (show (0 : Int) ≤ ((n + 1 : Nat) : Int) by omega), if_pos (show n + 1 ≤ 8796093022208 by omega), Option.bind_some, List.length_replicate]
  exact ht
theorem mulq_len {x y : Int} {m n : Nat} (hx : (dg x.natAbs).length ≤ m) (hy : (dg y.natAbs).length ≤ n) : (dg (x * y).natAbs).length ≤ m + n := by
  rw [Int.natAbs_mul]
  have := mul_len x.natAbs y.natAbs
  omega
theorem gpow_len {g i : Nat} (hg : g < 4294967296) (hi : i ≤ 64) : (dg (g ^ i)).length ≤ 65 := by
  have hgl : (dg g).length ≤ 1 := dg_len_le (by rw [show (1 : Nat) = 0 + 1 from rfl, bp_succ, bp_zero]; omega)
  have := pow_len g i 1 hgl
  omega
theorem law_pow_ev {g i : Nat} (hg : g < 4294967296) (hi : i ≤ 64) : Ev (fun k => w24_pow.f k (g : Int) (i : Int)) (rz ((g ^ i : Nat) : Int)) := by
  have hl := gpow_len hg hi
  simp only [w24_pow.f, u64w (x := (g : Int)) (by omega) (by omega)]
  refine Ev.bind (rof_ev (by omega)) ?_
  refine Ev.bind (rpow_ev hg (by omega)) ?_
  refine Ev.bind (rnatq_ev (by omega)) ?_
  exact Ev.some _
theorem sm_len {M m : Nat} {f : Nat → Int} (hm : m ≤ 4096) (h : ∀ i, i < m → (dg (f i).natAbs).length ≤ M) : (dg (sm m f).natAbs).length ≤ M + 1 := by
  have h1 : (sm m f).natAbs ≤ m * bp M := sm_abs m (fun i hi => Nat.le_of_lt (Nat.lt_of_lt_of_le (dg_lt_len _) (bp_mono (h i hi))))
  refine dg_len_le ?_
  rw [bp_succ M]
  have hp := bp_pos M
  have : m * bp M ≤ 4096 * bp M := Nat.mul_le_mul_right _ hm
  generalize bp M = p at *
  omega
theorem Ev.unbind {α β : Type} {g : Nat → Option α} {f : Nat → α → Option β} {a : α} {r : β} (hg : Ev g a) (h : Ev (fun k => (g k).bind (f k)) r) : Ev (fun k => f k a) r := by
  obtain ⟨K1, h1⟩ := hg
  obtain ⟨K2, h2⟩ := h
  refine ⟨max K1 K2, fun k hk => ?_⟩
  have a1 := h1 k (by omega)
  have a2 := h2 k (by omega)
  simp only [a1, Option.bind_some] at a2
  exact a2
theorem rzeroR_ev {l : List Int} (hl : Lm l) (hlen : l.length < 268435456) : Ev (fun k => r1_Zero.f k l) (decide ((lv l).toNat = 0)) := by
  have hd : (dg (lv l).toNat).length ≤ l.length := dg_len_le (lv_le_of_len hl (Nat.le_refl _))
  have h := rzero_ev (a := (lv l).toNat) (by omega)
  simp only [r1_Zero.f] at h ⊢
  have h := Ev.unbind (rtrim2_ev (a := (lv l).toNat) (by omega)) h
  exact Ev.bind (rtrim_ev hl (by omega)) h
theorem rbitsR_ev {l : List Int} (hl : Lm l) (hlen : l.length < 33554432) : Ev (fun k => r1_Bits.f k l) ((bl (lv l).toNat : Nat) : Int) := by
  have hd : (dg (lv l).toNat).length ≤ l.length := dg_len_le (lv_le_of_len hl (Nat.le_refl _))
  have h := rbits_ev (n := (lv l).toNat) (by omega)
  simp only [r1_Bits.f] at h ⊢
  have h := Ev.unbind (rtrim2_ev (a := (lv l).toNat) (by omega)) h
  exact Ev.bind (rtrim_ev hl (by omega)) h
theorem rdivmodR_ev {l : List Int} {b : Nat} (hl : Lm l) (hlen : l.length < 1048576) (hb : b ≠ 0) (hlb : (dg b).length < 1048576) : Ev (fun k => r1_DivMod.f k l (dg b)) (dg ((lv l).toNat / b), dg ((lv l).toNat % b)) := by
  have hd : (dg (lv l).toNat).length ≤ l.length := dg_len_le (lv_le_of_len hl (Nat.le_refl _))
  have h := rdivmod_ev (a := (lv l).toNat) hb (by omega) hlb
  simp only [r1_DivMod.f] at h ⊢
  refine Ev.bind (rtrim_ev hl (by omega)) ?_
  have h := Ev.unbind (rtrim2_ev (a := (lv l).toNat) (by omega)) h
  have h := Ev.unbind (rbits_ev (n := (lv l).toNat) (by omega)) h
  refine Ev.bind (rbitsR_ev hl (by omega)) ?_
  exact h
theorem rgcdR_ev {l : List Int} {b : Nat} (hl : Lm l) (hlen : l.length < 1048576) (hb : b ≠ 0) (hlb : (dg b).length < 1048576) : Ev (fun k => r1_Gcd.f k l (dg b)) (dg (Nat.gcd (lv l).toNat b)) := by
  have hlt := Nat.mod_lt (lv l).toNat (show b > 0 by omega)
  have hml := dg_len_mono (Nat.le_of_lt hlt)
  simp only [r1_Gcd.f]
  refine Ev.succ ?_
  simp only [r1_Gcd.l0]
  refine Ev.bind (rzero_ev (by omega)) ?_
  simp only [decide_eq_false hb, Bool.false_eq_true, if_false]
  refine Ev.bind (rdivmodR_ev hl hlen hb hlb) ?_
  rw [Nat.gcd_comm, Nat.gcd_rec, Nat.gcd_comm]
  exact rgcd_loop _ _ hlb (by omega)
def rq (n : Int) (d : Nat) : Bool × List Int × List Int := (decide (n < 0), dg (n.natAbs / Nat.gcd n.natAbs d), dg (d / Nat.gcd n.natAbs d))
theorem rq_scale {n : Int} {d c : Nat} (hc : c ≠ 0) : rq (n * (c : Int)) (d * c) = rq n d := by
  have h1 : (n * (c : Int)).natAbs = n.natAbs * c := by rw [Int.natAbs_mul, Int.natAbs_natCast]
  have h2 : decide (n * (c : Int) < 0) = decide (n < 0) := by
    have hc' : (0 : Int) < (c : Int) := by omega
    by_cases g : n < 0
    · rw [decide_eq_true g, decide_eq_true (Int.mul_neg_of_neg_of_pos g hc')]
    · rw [decide_eq_false g, decide_eq_false]
      have := Int.mul_nonneg (show 0 ≤ n by omega) (show (0 : Int) ≤ (c : Int) by omega)
      omega
  unfold rq
  rw [h1, h2, Nat.gcd_mul_right, Nat.mul_div_mul_right _ _ (by omega), Nat.mul_div_mul_right _ _ (by omega)]
theorem rq_one (z : Int) : rq z 1 = rz z := by
  unfold rq rz
  rw [Nat.gcd_one_right, Nat.div_one, Nat.div_one]
theorem rq_zero {d : Nat} (hd : d ≠ 0) : rq 0 d = (false, [], [1]) := by
  unfold rq
  simp only [Int.natAbs_zero, Nat.gcd_zero_left, Nat.zero_div, Nat.div_self (show 0 < d by omega), dg_zero, dg_one]
  rfl
theorem rq_sg {neg : Bool} {n d : Nat} (h : n ≠ 0) : rq (sg neg n) d = (neg, dg (n / Nat.gcd n d), dg (d / Nat.gcd n d)) := by
  unfold rq
  rw [sg_abs, sg_neg h]
theorem rmakeR_ev {neg : Bool} {l : List Int} {d : Nat} (hl : Lm l) (hlen : l.length < 1048576) (hd : d ≠ 0) (hld : (dg d).length < 1048576) : Ev (fun k => r2_Make.f k neg l (dg d)) (rq (sg neg (lv l).toNat) d) := by
  simp only [r2_Make.f]
  refine Ev.bind (rzeroR_ev hl (by omega)) ?_
  by_cases h0 : (lv l).toNat = 0
  · simp only [decide_eq_true h0, if_true]
    refine Ev.succ ?_
    simp only [r2_Make.j0, if_true]
    rw [h0, sg_zero, rq_zero hd]
    exact Ev.some _
  · simp only [decide_eq_false h0, Bool.false_eq_true, if_false]
    refine Ev.bind (rzero_ev (by omega)) ?_
    refine Ev.succ ?_
    simp only [decide_eq_false hd, r2_Make.j0, Bool.false_eq_true, if_false]
    have hg : Nat.gcd (lv l).toNat d ≠ 0 := fun e => hd (Nat.gcd_eq_zero_iff.mp e).2
    have hgl := dg_len_mono (Nat.gcd_le_right (lv l).toNat (show 0 < d by omega))
    refine Ev.bind (rgcdR_ev hl hlen hd hld) ?_
    refine Ev.bind (rdivmodR_ev hl hlen hg (by omega)) ?_
    refine Ev.bind (rdivmod_ev hg (by omega) (by omega)) ?_
    rw [rq_sg h0]
    exact Ev.some _
theorem rmakeG_ev {neg : Bool} {n d : Nat} (hn : (dg n).length < 1048576) (hd : d ≠ 0) (hld : (dg d).length < 1048576) : Ev (fun k => r2_Make.f k neg (dg n) (dg d)) (rq (sg neg n) d) := by
  have := rmakeR_ev (neg := neg) (lm_dg n) hn hd hld
  rw [lv_dg, Int.toNat_natCast] at this
  exact this
def FewQ (n : Int) (d : Nat) : Prop := d ≠ 0 ∧ (dg n.natAbs).length < 131072 ∧ (dg d).length < 131072
theorem rq_parts {n : Int} {d : Nat} (hd : d ≠ 0) : ∃ (m e g : Nat), g ≠ 0 ∧ e ≠ 0 ∧ rq n d = (decide (n < 0), dg m, dg e) ∧ n = sg (decide (n < 0)) m * (g : Int) ∧ d = e * g ∧ m ≤ n.natAbs ∧ e ≤ d := by
  have hg : Nat.gcd n.natAbs d ≠ 0 := fun e => hd (Nat.gcd_eq_zero_iff.mp e).2
  have h1 := Nat.div_mul_cancel (Nat.gcd_dvd_left n.natAbs d)
  have h2 := Nat.div_mul_cancel (Nat.gcd_dvd_right n.natAbs d)
  refine ⟨_, _, _, hg, ?_, rfl, ?_, h2.symm, Nat.div_le_self _ _, Nat.div_le_self _ _⟩
  · intro e; rw [e, Nat.zero_mul] at h2; exact hd h2.symm
  · generalize Nat.gcd n.natAbs d = g at *
    generalize n.natAbs / g = m at *
    unfold sg
    have h3 : ((m * g : Nat) : Int) = ((n.natAbs : Nat) : Int) := by rw [h1]
    rw [Int.natCast_mul] at h3
    by_cases g1 : n < 0
    · simp only [decide_eq_true g1, if_true, Int.neg_mul]
      omega
    · simp only [decide_eq_false g1, Bool.false_eq_true, if_false]
      omega
theorem rtrimG_ev {n : Int} {d : Nat} (h : FewQ n d) : Ev (fun k => r2_Trim.f k (rq n d).1 (rq n d).2.1 (rq n d).2.2) (rq n d) := by
  obtain ⟨h0, h1, h2⟩ := h
  obtain ⟨m, e, g, hg, he, hr, hn, hde, hm, hee⟩ := rq_parts (n := n) h0
  have l1 := dg_len_mono hm
  have l2 := dg_len_mono hee
  simp only [r2_Trim.f, hr]
  refine Ev.bind (rmakeG_ev (by omega) he (by omega)) ?_
  refine Ev.cast (Ev.some _) ?_
  have : rq (sg (decide (n < 0)) m) e = rq n d := by
    conv => rhs; rw [hn, hde]
    rw [rq_scale hg]
  rw [this, hr]
theorem rmulG_ev {a c : Int} {b d : Nat} (h1 : FewQ a b) (h2 : FewQ c d) : Ev (fun k => r2_Mul.f k (rq a b).1 (rq a b).2.1 (rq a b).2.2 (rq c d).1 (rq c d).2.1 (rq c d).2.2) (rq (a * c) (b * d)) := by
  simp only [r2_Mul.f]
  refine Ev.bind (rtrimG_ev h1) ?_
  refine Ev.bind (rtrimG_ev h2) ?_
  obtain ⟨h10, h11, h12⟩ := h1
  obtain ⟨h20, h21, h22⟩ := h2
  obtain ⟨m1, e1, g1, hg1, he1, hr1, hn1, hd1, hm1, hee1⟩ := rq_parts (n := a) h10
  obtain ⟨m2, e2, g2, hg2, he2, hr2, hn2, hd2, hm2, hee2⟩ := rq_parts (n := c) h20
  have l1 := dg_len_mono hm1
  have l2 := dg_len_mono hee1
  have l3 := dg_len_mono hm2
  have l4 := dg_len_mono hee2
  have p1 := mul_len m1 m2
  have p2 := mul_len e1 e2
  simp only [hr1, hr2]
  refine Ev.bind (rmul2_ev (by omega) (by omega)) ?_
  refine Ev.bind (rmul2_ev (by omega) (by omega)) ?_
  refine Ev.bind (rmakeG_ev (by omega) (Nat.mul_ne_zero he1 he2) (by omega)) ?_
  refine Ev.cast (Ev.some _) ?_
  show rq (sg (decide (a < 0) != decide (c < 0)) (m1 * m2)) (e1 * e2) = rq (a * c) (b * d)
  have e : sg (decide (a < 0) != decide (c < 0)) (m1 * m2) = sg (decide (a < 0)) m1 * sg (decide (c < 0)) m2 := by
    unfold sg
    cases decide (a < 0) <;> cases decide (c < 0) <;> simp [Int.neg_mul, Int.mul_neg]
  rw [e]
  have : a * c = (sg (decide (a < 0)) m1 * sg (decide (c < 0)) m2) * ((g1 * g2 : Nat) : Int) := by
    conv => lhs; rw [hn1, hn2]
    rw [Int.natCast_mul]
    grind
  rw [this, show b * d = (e1 * e2) * (g1 * g2) by rw [hd1, hd2]; grind, rq_scale (Nat.mul_ne_zero hg1 hg2)]
structure Wl (l : List (List Int)) : Prop where
  lm : ∀ x ∈ l, Lm x
  short : ∀ x ∈ l, x.length ≤ 20
  few : l.length ≤ 65
theorem Wl.at {l : List (List Int)} (h : Wl l) {i : Nat} (hi : i < l.length) : Lm (rd_L3 l (i : Int)) ∧ (rd_L3 l (i : Int)).length ≤ 20 := by
  rw [rd3_lt hi]; exact ⟨h.lm _ (List.getElem_mem hi), h.short _ (List.getElem_mem hi)⟩
theorem num_zero : Num z113 0 := ⟨false, 0, by rw [dg_zero]; rfl, by simp [sg]⟩
theorem map_range_succ {α : Type} (f : Nat → α) (n : Nat) : (List.range (n + 1)).map f = (List.range n).map f ++ [f n] := by rw [List.range_succ, List.map_append]; rfl
def qS (a : Bool × List Int × List Int) : S60 := ⟨a.1, a.2.1, a.2.2⟩
theorem rshiftR_ev {l : List Int} {n : Nat} (hl : Lm l) (hlen : l.length < 134217728) (hn : n < 4294967296) : Ev (fun k => r1_shift.f k l (n : Int)) (dg ((lv l).toNat * 2 ^ n)) := by
  have h1 : Int.tdiv (n : Int) 32 = ((n / 32 : Nat) : Int) := by rw [Int.tdiv_eq_ediv_of_nonneg (by omega)]; rfl
  have h2 : Int.tmod (n : Int) 32 = ((n % 32 : Nat) : Int) := by rw [Int.tmod_eq_emod_of_nonneg (by omega)]; rfl
  have h3 : wrap64 ((n / 32 : Nat) : Int) = ((n / 32 : Nat) : Int) := wn rfl (by clear h1 h2; omega)
  have hv := lv_nonneg hl
  simp only [r1_shift.f, h1, h3, if_pos (show (0 : Int) ≤ ((n / 32 : Nat) : Int) by omega), Int.toNat_natCast, if_pos (show n / 32 ≤ 70368744177664 by clear h1 h2 h3; omega)]
  clear h1 h3
  refine Ev.cast (rshift_loop (z := n / 32) hl (by clear h2; omega) (by clear h2; omega) h2 (by clear h2; omega) l.length 0 _ 0 (by omega) (by simp) (lm_rep _) (by omega) (by omega) ⟨by rw [lv_rep]; simp [lv_nil]⟩) ?_
  clear h2
  obtain ⟨a, ha⟩ : ∃ a : Nat, lv l = (a : Int) := ⟨(lv l).toNat, by omega⟩
  rw [ha, ← Int.natCast_mul, ← Int.natCast_mul, Int.toNat_natCast, Int.toNat_natCast]
  congr 1
  rw [← pow2_bp, Nat.mul_left_comm, ← Nat.pow_add]
  congr 2
  omega
theorem rdivmodRR_loop {a b : Nat} {lb : List Int} (hlbm : Lm lb) (hlbv : (lv lb).toNat = b) (hlbl : lb.length < 1048576) (hb : b ≠ 0) (hla : (dg a).length < 1048576) : ∀ (n : Nat), n < 67108864 → ∀ (quo rem : Nat), quo * b + rem = a → rem < b * 2 ^ n →
    Ev (fun k => r1_DivMod.l0 k lb (dg quo) (dg rem) ((n : Int) - 1)) (dg (a / b), dg (a % b)) := by
  have hlb : (dg b).length < 1048576 := by
    rw [← hlbv]; exact Nat.lt_of_le_of_lt (dg_len_le (lv_le_of_len hlbm (Nat.le_refl _))) hlbl
  intro n
  induction n with
  | zero =>
    intro _ quo rem h1 h2
    rw [Nat.pow_zero, Nat.mul_one] at h2
    have hq : a / b = quo := by
      rw [← h1, Nat.mul_comm, Nat.mul_add_div (by omega), Nat.div_eq_of_lt h2, Nat.add_zero]
    have hr : a % b = rem := by
      rw [← h1, Nat.mul_comm, Nat.mul_add_mod, Nat.mod_eq_of_lt h2]
    have hql : (dg quo).length ≤ (dg a).length := dg_len_mono (by
      rw [← hq]; exact Nat.div_le_self _ _)
    refine Ev.succ ?_
    simp only [r1_DivMod.l0, if_neg (show ¬ ((0 : Nat) : Int) - 1 ≥ 0 by omega)]
    refine Ev.bind (rtrim2_ev (by omega)) ?_
    rw [hq, hr]
    exact Ev.some _
  | succ n ih =>
    intro hn quo rem h1 h2
    have hql : (dg quo).length ≤ (dg a).length := dg_len_mono (by
      have : quo * 1 ≤ quo * b := Nat.mul_le_mul_left _ (by omega)
      omega)
    have hrl : (dg rem).length ≤ (dg a).length := dg_len_mono (by omega)
    have hp := pow2_len n
    have ht := mul_len b (2 ^ n)
    have hsh := rshiftR_ev (n := n) hlbm (by omega) (by omega)
    rw [hlbv] at hsh
    refine Ev.succ ?_
    simp only [r1_DivMod.l0, show ((n + 1 : Nat) : Int) - 1 = (n : Int) from by omega, if_pos (show (n : Int) ≥ 0 by omega), w64 (x := (n : Int) - 1) (by omega) (by omega)]
    refine Ev.bind hsh ?_
    refine Ev.bind (rcmp_ev (by omega) (by omega)) ?_
    by_cases h : b * 2 ^ n ≤ rem
    · have hc : cmpZ (rem : Int) ((b * 2 ^ n : Nat) : Int) ≥ 0 := by
        unfold cmpZ
        rw [if_neg (by omega)]
        split <;> omega
      simp only [if_pos hc]
      refine Ev.bind (rsub_ev (by omega) h) ?_
      rw [show ([1] : List Int) = dg 1 from dg_one.symm]
      refine Ev.bind (rshift_ev (by rw [dg_one]; simp) (by omega)) ?_
      rw [Nat.one_mul]
      refine Ev.bind (radd2_ev (by omega) (by omega)) ?_
      refine ih (by omega) _ _ ?_ ?_
      · rw [Nat.add_mul, Nat.mul_comm (2 ^ n) b]
        generalize b * 2 ^ n = t at *
        omega
      · rw [Nat.pow_succ, ← Nat.mul_assoc] at h2
        generalize b * 2 ^ n = t at *
        omega
    · have hc : ¬ cmpZ (rem : Int) ((b * 2 ^ n : Nat) : Int) ≥ 0 := by
        unfold cmpZ
        rw [if_pos (by omega)]
        omega
      simp only [if_neg hc]
      exact ih (by omega) quo rem h1 (by omega)
theorem rdivmodRR_ev {l lb : List Int} (hl : Lm l) (hlen : l.length < 1048576) (hlbm : Lm lb) (hlbl : lb.length < 1048576) (hb : (lv lb).toNat ≠ 0) : Ev (fun k => r1_DivMod.f k l lb) (dg ((lv l).toNat / (lv lb).toNat), dg ((lv l).toNat % (lv lb).toNat)) := by
  obtain ⟨a, ha⟩ : ∃ a, a = (lv l).toNat := ⟨_, rfl⟩
  obtain ⟨b, hb'⟩ : ∃ b, b = (lv lb).toNat := ⟨_, rfl⟩
  have hla : (dg a).length < 1048576 := by rw [ha]; exact Nat.lt_of_le_of_lt (dg_len_le (lv_le_of_len hl (Nat.le_refl _))) hlen
  have hlb : (dg b).length < 1048576 := by rw [hb']; exact Nat.lt_of_le_of_lt (dg_len_le (lv_le_of_len hlbm (Nat.le_refl _))) hlbl
  have t1 := rtrim_ev hl (by omega)
  have t2 := rbitsR_ev hl (by omega)
  have t3 := rbitsR_ev hlbm (by omega)
  rw [← ha] at t1 t2
  rw [← hb'] at t3 hb
  rw [← ha, ← hb']
  simp only [r1_DivMod.f]
  refine Ev.bind t1 ?_
  refine Ev.bind t2 ?_
  refine Ev.bind t3 ?_
  have ba := bl_le a
  have bb := bl_le b
  have hbb := bl_bounds hb
  rw [show ([] : List Int) = dg 0 from dg_zero.symm]
  by_cases h : bl b ≤ bl a
  · rw [show wrap64 (((bl a : Nat) : Int) - ((bl b : Nat) : Int)) = ((bl a - bl b + 1 : Nat) : Int) - 1 from by rw [w64 (by omega) (by omega)]; omega]
    refine rdivmodRR_loop hlbm hb'.symm hlbl hb hla _ (by omega) 0 a (by omega) ?_
    by_cases ha : a = 0
    · rw [ha]; exact Nat.mul_pos (by omega) (Nat.two_pow_pos _)
    · have hba := bl_bounds ha
      refine Nat.lt_of_lt_of_le hba.2.1 ?_
      rw [show bl a = (bl b - 1) + (bl a - bl b + 1) by omega, Nat.pow_add]
      rw [show (bl b - 1) + (bl a - bl b + 1) - bl b + 1 = bl a - bl b + 1 by omega]
      exact Nat.mul_le_mul_right _ hbb.1
  · rw [show wrap64 (((bl a : Nat) : Int) - ((bl b : Nat) : Int)) = -((bl b - bl a : Nat) : Int) from by rw [w64 (by omega) (by omega)]; omega]
    have hlt : a < b := by
      by_cases ha : a = 0
      · omega
      · have hba := bl_bounds ha
        refine Nat.lt_of_lt_of_le hba.2.1 (Nat.le_trans ?_ hbb.1)
        exact Nat.pow_le_pow_right (by decide) (by omega)
    refine Ev.succ ?_
    simp only [r1_DivMod.l0, if_neg (show ¬ -((bl b - bl a : Nat) : Int) ≥ 0 by omega)]
    refine Ev.bind (rtrim2_ev (by rw [dg_zero]; simp)) ?_
    rw [Nat.div_eq_of_lt hlt, Nat.mod_eq_of_lt hlt]
    exact Ev.some _
theorem rgcdRR_ev {l lb : List Int} (hl : Lm l) (hlen : l.length < 1048576) (hlbm : Lm lb) (hlbl : lb.length < 1048576) (hb : (lv lb).toNat ≠ 0) : Ev (fun k => r1_Gcd.f k l lb) (dg (Nat.gcd (lv l).toNat (lv lb).toNat)) := by
  have hlb : (dg (lv lb).toNat).length < 1048576 := Nat.lt_of_le_of_lt (dg_len_le (lv_le_of_len hlbm (Nat.le_refl _))) hlbl
  have hlt := Nat.mod_lt (lv l).toNat (show (lv lb).toNat > 0 by omega)
  have hml := dg_len_mono (Nat.le_of_lt hlt)
  simp only [r1_Gcd.f]
  refine Ev.succ ?_
  simp only [r1_Gcd.l0]
  refine Ev.bind (rzeroR_ev hlbm (by omega)) ?_
  simp only [decide_eq_false hb, Bool.false_eq_true, if_false]
  refine Ev.bind (rdivmodRR_ev hl hlen hlbm hlbl hb) ?_
  rw [Nat.gcd_comm, Nat.gcd_rec, Nat.gcd_comm]
  obtain ⟨b, hb'⟩ : ∃ b, b = (lv lb).toNat := ⟨_, rfl⟩
  obtain ⟨r, hr⟩ : ∃ r, r = (lv l).toNat % (lv lb).toNat := ⟨_, rfl⟩
  rw [← hr] at hlt hml ⊢
  refine Ev.succ ?_
  simp only [r1_Gcd.l0]
  refine Ev.bind (rzero_ev (by omega)) ?_
  by_cases h0 : r = 0
  · subst h0
    simp only [decide_true, if_true, Nat.gcd_zero_right]
    refine Ev.bind (rtrim_ev hlbm (by omega)) ?_
    exact Ev.some _
  · simp only [decide_eq_false h0, Bool.false_eq_true, if_false]
    refine Ev.bind (rdivmodR_ev hlbm hlbl h0 (by omega)) ?_
    rw [Nat.gcd_comm, Nat.gcd_rec, Nat.gcd_comm]
    have hlt2 := Nat.mod_lt (lv lb).toNat (show r > 0 by omega)
    have := dg_len_mono (Nat.le_of_lt hlt2)
    exact rgcd_loop _ _ (by omega) (by omega)
def qn (e : S60) : Int := if (lv e.f2).toNat = 0 then 0 else sg e.f0 (lv e.f1).toNat
def qd (e : S60) : Nat := if (lv e.f2).toNat = 0 then 1 else (lv e.f2).toNat
theorem qd_ne (e : S60) : qd e ≠ 0 := by unfold qd; split <;> omega
structure Lq (M : Nat) (e : S60) : Prop where
  num : Lm e.f1
  den : Lm e.f2
  nlen : e.f1.length ≤ M
  dlen : e.f2.length ≤ M
theorem Lq.qn_len {M : Nat} {e : S60} (h : Lq M e) : (dg (qn e).natAbs).length ≤ M := by
  unfold qn
  split
  · simp [dg_zero]
  · rw [sg_abs]; exact dg_len_le (lv_le_of_len h.num h.nlen)
theorem Lq.qd_len {M : Nat} {e : S60} (h : Lq M e) (hM : 1 ≤ M) : (dg (qd e)).length ≤ M := by
  unfold qd
  split
  · rw [one_len]; exact hM
  · exact dg_len_le (lv_le_of_len h.den h.dlen)
theorem rtrimR_ev {M : Nat} {e : S60} (h : Lq M e) (hM : M < 131072) : Ev (fun k => r2_Trim.f k e.f0 e.f1 e.f2) (rq (qn e) (qd e)) := by
  have h1 := h.nlen
  have h2 := h.dlen
  have hd : (dg (lv e.f2).toNat).length ≤ M := dg_len_le (lv_le_of_len h.den h.dlen)
  simp only [r2_Trim.f, r2_Make.f]
  have zero : ∀ b : Bool, Ev (fun k => r2_Make.j0 k b e.f1 e.f2 true) (false, [], [1]) := fun b => by
    refine Ev.succ ?_
    simp only [r2_Make.j0, if_true]
    exact Ev.some _
  refine Ev.bind (a := rq (qn e) (qd e)) (Ev.bind (rzeroR_ev h.num (by omega)) ?_) (Ev.some _)
  by_cases h0 : (lv e.f1).toNat = 0
  · simp only [decide_eq_true h0, if_true]
    refine Ev.cast (zero e.f0) ?_
    have : qn e = 0 := by unfold qn; rw [h0, sg_zero]; simp
    rw [this, rq_zero (qd_ne e)]
  · simp only [decide_eq_false h0, Bool.false_eq_true, if_false]
    refine Ev.bind (rzeroR_ev h.den (by omega)) ?_
    by_cases h3 : (lv e.f2).toNat = 0
    · rw [decide_eq_true h3]
      refine Ev.cast (zero e.f0) ?_
      have : qn e = 0 := by unfold qn; rw [if_pos h3]
      rw [this, rq_zero (qd_ne e)]
    · rw [decide_eq_false h3]
      have e1 : qn e = sg e.f0 (lv e.f1).toNat := by unfold qn; rw [if_neg h3]
      have e2 : qd e = (lv e.f2).toNat := by unfold qd; rw [if_neg h3]
      have hg : Nat.gcd (lv e.f1).toNat (lv e.f2).toNat ≠ 0 := fun e => h3 (Nat.gcd_eq_zero_iff.mp e).2
      have hgl := dg_len_mono (Nat.gcd_le_right (lv e.f1).toNat (show 0 < (lv e.f2).toNat by omega))
      refine Ev.succ ?_
      simp only [r2_Make.j0, Bool.false_eq_true, if_false]
      refine Ev.bind (rgcdRR_ev h.num (by omega) h.den (by omega) h3) ?_
      refine Ev.bind (rdivmodR_ev h.num (by omega) hg (by omega)) ?_
      refine Ev.bind (rdivmodR_ev h.den (by omega) hg (by omega)) ?_
      rw [e1, e2, rq_sg h0]
      exact Ev.some _
theorem ngcdR_ev {l lb : List Int} (hl : Lm l) (hlen : l.length < 1048576) (hlbm : Lm lb) (hlbl : lb.length < 1048576) : Ev (fun k => nat_Gcd.f k l lb) (dg (Nat.gcd (lv l).toNat (lv lb).toNat)) := by
  have h1 : (dg (lv l).toNat).length ≤ l.length := dg_len_le (lv_le_of_len hl (Nat.le_refl _))
  have h2 : (dg (lv lb).toNat).length ≤ lb.length := dg_len_le (lv_le_of_len hlbm (Nat.le_refl _))
  have h := ngcdG_ev (a := (lv l).toNat) (b := (lv lb).toNat) (by omega) (by omega)
  simp only [nat_Gcd.f] at h ⊢
  have h := Ev.unbind (short2_ev (a := (lv l).toNat) (by omega)) h
  have h := Ev.unbind (short2_ev (a := (lv lb).toNat) (by omega)) h
  refine Ev.bind (short_ev hl (by omega)) ?_
  refine Ev.bind (short_ev hlbm (by omega)) ?_
  exact h
theorem ndivmodR_ev {l : List Int} {b : Nat} (hl : Lm l) (hlen : l.length < 67108864) (hb : b ≠ 0) (hlb : (dg b).length < 67108864) : Ev (fun k => nat_DivMod.f k l (dg b)) (dg ((lv l).toNat / b), dg ((lv l).toNat % b), 0) := by
  have h1 : (dg (lv l).toNat).length ≤ l.length := dg_len_le (lv_le_of_len hl (Nat.le_refl _))
  have h := ndivmod_ev (a := (lv l).toNat) hb (by omega) hlb
  simp only [nat_DivMod.f] at h ⊢
  have h := Ev.unbind (short2_ev (a := (lv l).toNat) (by omega)) h
  refine Ev.bind (short_ev hl (by omega)) ?_
  exact h
theorem nbitsQ_ev {l : List Int} (hl : Lm l) (hlen : l.length < 33554432) : Ev (fun k => nat_Bits.f k l) ((bl (lv l).toNat : Nat) : Int) := by
  have hd : (dg (lv l).toNat).length ≤ l.length := dg_len_le (lv_le_of_len hl (Nat.le_refl _))
  have h := bits_ev (n := (lv l).toNat) (by omega)
  simp only [nat_Bits.f] at h ⊢
  have h := Ev.unbind (short2_ev (a := (lv l).toNat) (by omega)) h
  exact Ev.bind (short_ev hl (by omega)) h
theorem ntrimR_ev {M : Nat} {e : S60} (h : Lq M e) (hM : M < 131072) : Ev (fun k => rational_Trim.f k e.f0 e.f1 e.f2) (rq (qn e) (qd e)) := by
  have h1 := h.nlen
  have h2 := h.dlen
  have hd : (dg (lv e.f2).toNat).length ≤ M := dg_len_le (lv_le_of_len h.den h.dlen)
  simp only [rational_Trim.f, rational_canonical.f]
  have zero : ∀ b : Bool, Ev (fun k => rational_canonical.j0 k b e.f1 e.f2 true) (false, [], [1]) := fun b => by
    refine Ev.succ ?_
    simp only [rational_canonical.j0, if_true, rational_one.f, Option.bind_some]
    exact Ev.some _
  refine Ev.bind (a := rq (qn e) (qd e)) (Ev.bind (nbitsQ_ev h.num (by omega)) ?_) (Ev.some _)
  by_cases h0 : (lv e.f1).toNat = 0
  · have hb : ((bl (lv e.f1).toNat : Nat) : Int) = 0 := by rw [bl_zero.mpr h0]; rfl
    simp only [if_pos hb]
    refine Ev.cast (zero e.f0) ?_
    have : qn e = 0 := by unfold qn; rw [h0, sg_zero]; simp
    rw [this, rq_zero (qd_ne e)]
  · have hb : ¬ ((bl (lv e.f1).toNat : Nat) : Int) = 0 := by
      have : bl (lv e.f1).toNat ≠ 0 := fun e => h0 (bl_zero.mp e)
      omega
    simp only [if_neg hb]
    refine Ev.bind (nbitsQ_ev h.den (by omega)) ?_
    by_cases h3 : (lv e.f2).toNat = 0
    · have hb2 : (((bl (lv e.f2).toNat : Nat) : Int) == 0) = true := by rw [bl_zero.mpr h3]; rfl
      rw [hb2]
      refine Ev.cast (zero e.f0) ?_
      have : qn e = 0 := by unfold qn; rw [if_pos h3]
      rw [this, rq_zero (qd_ne e)]
    · have hb2 : (((bl (lv e.f2).toNat : Nat) : Int) == 0) = false := by
        have : bl (lv e.f2).toNat ≠ 0 := fun e => h3 (bl_zero.mp e)
        simp only [beq_eq_false_iff_ne]; omega
      rw [hb2]
      have e1 : qn e = sg e.f0 (lv e.f1).toNat := by unfold qn; rw [if_neg h3]
      have e2 : qd e = (lv e.f2).toNat := by unfold qd; rw [if_neg h3]
      have hg : Nat.gcd (lv e.f1).toNat (lv e.f2).toNat ≠ 0 := fun e => h3 (Nat.gcd_eq_zero_iff.mp e).2
      have hgl := dg_len_mono (Nat.gcd_le_right (lv e.f1).toNat (show 0 < (lv e.f2).toNat by omega))
      refine Ev.succ ?_
      simp only [rational_canonical.j0, Bool.false_eq_true, if_false]
      refine Ev.bind (ngcdR_ev h.num (by omega) h.den (by omega)) ?_
      refine Ev.bind (ndivmodR_ev h.num (by omega) hg (by omega)) ?_
      refine Ev.bind (ndivmodR_ev h.den (by omega) hg (by omega)) ?_
      rw [e1, e2, rq_sg h0]
      exact Ev.some _
end Mw
end
