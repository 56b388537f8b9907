/- What functions of the program do and come to, for the statement MacwilliamsIdentity, part 2. Conditions: as each theorem says. -/
import Derived.Test.YtifkbghnmhineaaQIdentity1

namespace Go.Proofs.Ytifkbghnmhineaa.PAll
open Go.RowKit Go.Proofs.YtifkbghnmhineaaW.PrintWords Go.Proofs.YtifkbghnmhineaaW.PrintLast Go.Proofs.YtifkbghnmhineaaW.PrintMore
attribute [local go_sem] max2_int min2_int max_two min_two max_three min_three max_four min_four
set_option linter.unusedVariables false
set_option linter.unusedSimpArgs false
def w24_codes.T12 : Bool × List (List Nat × List Nat) := (true, [([], []), ([], []), ([], []), ([], []), ([], []), ([3, 4], [3, 4]), ([5], [5]), ([1, 2, 6], [1, 2, 6]), ([7], [7]), ([0, 8, 7], [0, 8]), ([9, 9, 0, 1, 2, 3, 4, 5, 6, 7, 8, 9], [0, 9])])
def w24_codes.B12 : List Nat := [0, 0, 0, 0, 0, 24, 56, 126, 254, 511, 1023]
theorem w24_codes.tab12 : rtab .any (opsOf Try.f19 12) = w24_codes.T12 := by kernel_rfl
theorem w24_codes.bits12 : waitsOk w24_codes.T12.2 w24_codes.B12 = true := by kernel_rfl
set_option maxHeartbeats 8000000 in
set_option maxRecDepth 100000 in
theorem w24_codes.calls (k : Nat) (a0_0 : Int) (a0_1 : Int) (A0_2 : Option Addr) (c0_2 : Nat) (l0_2 : List Int) (a1 : Int) (A2 : Option Addr) (c2 : Nat) (l2 : List (List Int)) (r1 : Int) (r2 : List (List Int)) (r3 : List (List Int)) (r4 : List (List Int)) (r5 : Bool) (w : World) (hr0_2 : Kd.C (Kd.int .i64) w A0_2 l0_2.length l0_2) (hc0_2 : l0_2.length ≤ c0_2) (hr2 : Kd.C (Kd.slice 3 (Kd.int .i64)) w A2 l2.length l2) (hc2 : l2.length ≤ c2) (h : w24_codes.f k a0_0 a0_1 l0_2 a1 l2 = some (r1, r2, r3, r4, r5)) :
    Calls Try.prog 19 #[.agg #[.int .i64 a0_0, .int .i64 a0_1, .slice A0_2 l0_2.length c0_2], .int .u8 a1, .slice A2 l2.length c2] w fun e w' => ∃ v1_ v2_ v3_ : Value, e = .returned (.tuple #[.int .i64 r1, v1_, v2_, v3_, .bool r5]) ∧ Kd.N (Kd.slice 3 (Kd.int .i64)) 22 w' w.heap.size (fun k_ => (w.heap.size ≤ k_) ∧ some k_ ≠ (v2_ : Value).ownBlock) v1_ r2 ∧ Kd.N (Kd.slice 3 (Kd.int .i64)) 22 w' w.heap.size (fun k_ => (w.heap.size ≤ k_) ∧ some k_ ≠ (v1_ : Value).ownBlock) v2_ r3 ∧ Kd.V (Kd.slice 3 (Kd.int .i64)) 22 w' w.heap.size (fun k_ => (w.heap.size ≤ k_) ∧ some k_ ≠ (v1_ : Value).ownBlock ∧ some k_ ≠ (v2_ : Value).ownBlock) v3_ r4 ∧ Below w.heap.size w w' := by
 have hu24 := Try.underlying24
 have HR0_2 := zk hr0_2
 have HC0_2 := zk hc0_2
 clear hr0_2 hc0_2
 have HR2 := zk hr2
 have HC2 := zk hc2
 clear hr2 hc2
 have HB := zk (Below.refl w.heap.size w)
 have H := h
 clear h
 unfold w24_codes.f at H
 have HC4 := zk H
 clear H
 go_enter Try.func19, Try.ntmps19
 go_upto_region 2 with (first | ((with_reducible refine gate_dst (N := 3) rfl ?_); (try (refine gate_guard (by rfl) ?_; dsimp only)); refine box_event ?hg (N := 3) ?hd (cs := #[.int .i64 a0_0, .int .i64 a0_1, .slice A0_2 l0_2.length c0_2]) (t := 24) ?hr ?_; (case hd => rfl); (case hg => rfl); (case hr => first | (go_simp; done) | (go_simp; rfl)); intro gba1 hg w5 hbox hb; have BKa1 := zk (hbox); have GWa1 := yg hg HB; have GEa1 := yg hg HB; replace HB := yS HB hb; clear hb hbox hg))
 (try simp only [Act.put, List.setIfInBounds_toArray, List.set_cons_zero, List.set_cons_succ])
 go_cut [24] (fun v24 wc => ∃ (kq : Nat) (x24_3 : Bool), v24 = .bool x24_3 ∧ Aside0 (w24_codes.j0 kq l2 (wrap64 ((Int.tmod (wrap64 (a1)) 12) + 1)) x24_3 a0_0 a0_1 l0_2 = some (r1, r2, r3, r4, r5)) ∧ Aside0 (kq ≤ k) ∧ Aside0 (wc.heap[gba1]? = some (.cells #[.int .i64 a0_0, .int .i64 a0_1, (.slice A0_2 l0_2.length c0_2)] 24 (0, 0))) ∧ Aside0 (Below w.heap.size w wc))
 case first =>
  have H := HC4.out
  clear HC4
  replace H := zb H
  obtain ⟨ta2, A6, H⟩ := H
  replace H := zi H
  rcases H with ⟨c7, H⟩ | ⟨c7, H⟩
  · have c7b0 := beq_iff_eq.mpr c7
    have c7b1 := bne_eq_false_iff_eq.mpr c7
    clear c7
    (first | rw [c7b0] | (simp only [i64_w, i32_w]; rw [c7b0]) | rw [c7b1] | skip)
    have H' := zk H
    clear H
    obtain ⟨hcz8_0, hcz8_1, hcz8_2, hfz8_0, hfz8_1, hfz8_2⟩ := zz3 BKa1
    go_wp2_with (first | ((with_reducible refine gC 67 ?_); refine zG (some 18) Try.func67 #[.agg #[.int .i64 a0_0, .int .i64 a0_1, .slice A0_2 l0_2.length c0_2]] ?_; (with_reducible refine (r4_Check.calls k a0_0 a0_1 _ _ l0_2 ta2 _ ?side1 ?side2 A6.out).mono ?_); (case side1 => exact zC (Kd.C_below HR0_2.out HB.out)); (case side2 => exact HC0_2.out); rintro e w9 ⟨rfl, hb⟩; refine ⟨_, rfl, ?_⟩; replace BKa1 := yK BKa1 hb; replace HB := yS1 HB GEa1 hb; (try clear hb); (try clear hb2); (try clear hk); (try clear hi)))
    go_meet
    case rel => exact ⟨_, (decide ((l2.length : Int) > 12)), zF, H', ⟨zO⟩, ⟨zK BKa1.out⟩, ⟨zB1 HB.out GEa1.out⟩⟩
  have c7b0 := beq_eq_false_iff_ne.mpr c7
  have c7b1 := bne_iff_ne.mpr c7
  (first | rw [c7b0] | (simp only [i64_w, i32_w]; rw [c7b0]) | rw [c7b1] | skip)
  have H' := zk H
  clear H
  obtain ⟨hcz10_0, hcz10_1, hcz10_2, hfz10_0, hfz10_1, hfz10_2⟩ := zz3 BKa1
  go_wp2_with (first | ((with_reducible refine gC 67 ?_); refine zG (some 18) Try.func67 #[.agg #[.int .i64 a0_0, .int .i64 a0_1, .slice A0_2 l0_2.length c0_2]] ?_; (with_reducible refine (r4_Check.calls k a0_0 a0_1 _ _ l0_2 ta2 _ ?side1 ?side2 A6.out).mono ?_); (case side1 => exact zC (Kd.C_below HR0_2.out HB.out)); (case side2 => exact HC0_2.out); rintro e w11 ⟨rfl, hb⟩; refine ⟨_, rfl, ?_⟩; replace BKa1 := yK BKa1 hb; replace HB := yS1 HB GEa1 hb; (try clear hb); (try clear hb2); (try clear hk); (try clear hi)))
  go_meet
  case rel => exact ⟨_, (true), zF, H', ⟨zO⟩, ⟨zK BKa1.out⟩, ⟨zB1 HB.out GEa1.out⟩⟩
 clear HC4
 (try clear c7);(try clear c7b0);(try clear c7b1);(try clear hcz10_0);(try clear hcz10_1);(try clear hcz10_2);(try clear hcz8_0);(try clear hcz8_1);(try clear hcz8_2);(try clear hfz10_0);(try clear hfz10_1);(try clear hfz10_2);(try clear hfz8_0);(try clear hfz8_1);(try clear hfz8_2)
 obtain ⟨kq, x24_3, rfl, HA, HJ3, BKa1, HB⟩ := hcut
 cases kq with | zero => exact absurd HA.out (by simp [w24_codes.j0]) | succ kj3 => ?_
 have H := HA.out
 clear HA
 simp only [w24_codes.j0] at H
 by_cases c12 : x24_3 = true
 · subst c12
   rw [if_pos rfl] at H
   simp only [Option.some.injEq, Prod.mk.injEq] at H
   obtain ⟨rfl, rfl, rfl, rfl, rfl⟩ := H
   go_wp2
   refine bodyPost_ret (results_list (rs := [.tmp 6, .tmp 7, .tmp 8, .tmp 9, .tmp 10]) rfl (by simp) (.tmp (.tmp (.tmp (.tmp (.tmp .nil)))))) rfl ?_
   exact ⟨_, _, _, zE, by first | exact Kd.S_nil _ _ _ _ _ | exact Kd.N_nil _ _ _ _ _ | exact Kd.V_nil _ _ _ _ _ | exact Kd.Q_nil _ _ _ _ _ | exact Kd.R_nil _ _ _ _ _, by first | exact Kd.S_nil _ _ _ _ _ | exact Kd.N_nil _ _ _ _ _ | exact Kd.V_nil _ _ _ _ _ | exact Kd.Q_nil _ _ _ _ _ | exact Kd.R_nil _ _ _ _ _, by exact Kd.V_nil _ _ _ _ _, zB1 HB.out GEa1.out⟩
 replace c12 := Bool.eq_false_iff.mpr c12
 subst c12
 rw [if_neg Bool.false_ne_true] at H
 replace H := zb H
 obtain ⟨ta3, A13, H⟩ := H
 replace H := zb H
 obtain ⟨ta6, A14, H⟩ := H
 have HC15 := zk H
 clear H
 obtain ⟨hcz16_0, hcz16_1, hcz16_2, hfz16_0, hfz16_1, hfz16_2⟩ := zz3 BKa1
 go_upto_region 6 with (first | ((with_reducible refine gC 68 ?_); refine zG (some 28) Try.func68 #[.agg #[.int .i64 a0_0, .int .i64 a0_1, .slice A0_2 l0_2.length c0_2], .int .i64 (wrap64 ((Int.tmod (wrap64 (a1)) 12) + 1)), .slice A2 l2.length c2, .int .i64 4096] ?_; (with_reducible refine (r24_Span.calls kj3 a0_0 a0_1 _ _ l0_2 (wrap64 ((Int.tmod (wrap64 (a1)) 12) + 1)) _ _ l2 4096 ta3 _ ?side1 ?side2 ?side3 ?side4 A13.out).mono ?_); (case side1 => exact zC (Kd.C_below HR0_2.out HB.out)); (case side2 => exact HC0_2.out); (case side3 => exact zC (Kd.C_below HR2.out HB.out)); (case side4 => exact HC2.out); rintro e w17 ⟨va4, rfl, ho0, hb⟩; refine ⟨_, rfl, ?_⟩; have HOa5 := zk (Kd.N_lower (Kd.N_mono (ok' := fun k_ => (w.heap.size ≤ k_) ∧ k_ ≠ gba1) ho0 (fun k_ hk_ => ⟨(Nat.le_trans (below_size (zB1 HB.out GEa1.out)) hk_), (Kd.freshB (g := gba1) (o := .cells #[.int .i64 a0_0, .int .i64 a0_1, .slice A0_2 l0_2.length c0_2] 24 (0, 0)) (zK BKa1.out) k_ hk_)⟩)) (below_size (zB1 HB.out GEa1.out))); replace BKa1 := yK BKa1 hb; replace HB := yS1 HB GEa1 hb; (try clear hb ho0); obtain ⟨hcz18_0, hcz18_1, hcz18_2, hfz18_0, hfz18_1, hfz18_2⟩ := zz3 BKa1) | ((with_reducible refine gC 69 ?_); refine zG (some 31) Try.func69 #[.agg #[.int .i64 a0_0, .int .i64 a0_1, .slice A0_2 l0_2.length c0_2], .int .i64 (wrap64 ((Int.tmod (wrap64 (a1)) 12) + 1)), .int .i64 4096] ?_; (with_reducible refine (r24_All.calls kj3 a0_0 a0_1 _ _ l0_2 (wrap64 ((Int.tmod (wrap64 (a1)) 12) + 1)) 4096 ta6 _ ?side1 ?side2 A14.out).mono ?_); (case side1 => exact zC (Kd.C_below HR0_2.out HB.out)); (case side2 => exact HC0_2.out); rintro e w19 ⟨va7, rfl, ho0, hb⟩; refine ⟨_, rfl, ?_⟩; have HOa8 := zk (Kd.N_lower (Kd.N_mono (ok' := fun k_ => (w.heap.size ≤ k_) ∧ some k_ ≠ (va4 : Value).ownBlock ∧ k_ ≠ gba1) ho0 (fun k_ hk_ => ⟨(Nat.le_trans (below_size (zB1 HB.out GEa1.out)) hk_), (Kd.fresh' (Kd.N_lt (zN HOa5.out)) k_ hk_), (Kd.freshB (g := gba1) (o := .cells #[.int .i64 a0_0, .int .i64 a0_1, .slice A0_2 l0_2.length c0_2] 24 (0, 0)) (zK BKa1.out) k_ hk_)⟩)) (below_size (zB1 HB.out GEa1.out))); replace HOa5 := zk (Kd.N_elder' (zN HOa5.out) (Kd.N_base ho0) hb); replace BKa1 := yK BKa1 hb; replace HB := yS1 HB GEa1 hb; (try clear hb ho0)))
 (try simp only [Act.put, List.setIfInBounds_toArray, List.set_cons_zero, List.set_cons_succ])
 go_cut [39] (fun v39 wc => ∃ (kq : Nat) (x39_14 : Bool), v39 = .bool x39_14 ∧ Aside0 (w24_codes.j1 kq l2 (wrap64 ((Int.tmod (wrap64 (a1)) 12) + 1)) ta3 ta6 x39_14 a0_0 a0_1 l0_2 = some (r1, r2, r3, r4, r5)) ∧ Aside0 (kq ≤ kj3) ∧ Aside0 (Kd.N (Kd.slice 3 (Kd.int .i64)) 22 wc w.heap.size (fun k_ => (w.heap.size ≤ k_) ∧ some k_ ≠ (va7 : Value).ownBlock ∧ k_ ≠ gba1) va4 ta3) ∧ Aside0 (Kd.N (Kd.slice 3 (Kd.int .i64)) 22 wc w.heap.size (fun k_ => (w.heap.size ≤ k_) ∧ some k_ ≠ (va4 : Value).ownBlock ∧ k_ ≠ gba1) va7 ta6) ∧ Aside0 (wc.heap[gba1]? = some (.cells #[.int .i64 a0_0, .int .i64 a0_1, (.slice A0_2 l0_2.length c0_2)] 24 (0, 0))) ∧ Aside0 (Below w.heap.size w wc))
 case first =>
  have H := HC15.out
  clear HC15
  replace H := zi H
  rcases H with ⟨c20, H⟩ | ⟨c20, H⟩
  · have c20b0 := beq_iff_eq.mpr c20
    have c20b1 := bne_eq_false_iff_eq.mpr c20
    clear c20
    (first | rw [c20b0] | (simp only [i64_w, i32_w]; rw [c20b0]) | rw [c20b1] | skip)
    have H' := zk H
    clear H
    obtain ⟨Ao21, co21, rfl⟩ := Kd.N_slice HOa5.out
    go_wp2
    go_meet
    case rel => exact ⟨_, (true), zF, H', ⟨by have := HJ3.out; first | omega | exact Nat.le_refl _⟩, ⟨by (with_reducible repeat (first | apply Kd.N_alloc | apply Kd.N_drewN | apply Kd.N_drew)); exact Kd.N_mono HOa5.out (fun _ hk => ⟨hk.1.1, ⟨hk.2, hk.1.2⟩⟩)⟩, ⟨zN HOa8.out⟩, ⟨zK BKa1.out⟩, ⟨zB1 HB.out GEa1.out⟩⟩
  have c20b0 := beq_eq_false_iff_ne.mpr c20
  have c20b1 := bne_iff_ne.mpr c20
  have c20b2 : ¬ (ta3 = []) := fun h_ => c20 (by rw [h_]; rfl)
  (first | rw [c20b0] | (simp only [i64_w, i32_w]; rw [c20b0]) | rw [c20b1] | skip)
  have H' := zk H
  clear H
  obtain ⟨Ao22, co22, rfl⟩ := Kd.N_slice HOa5.out
  obtain ⟨Ao23, co23, rfl⟩ := Kd.N_slice HOa8.out
  go_wp2
  go_meet
  case rel => exact ⟨_, (((ta6.length : Int) == 0)), zF, H', ⟨by have := HJ3.out; first | omega | exact Nat.le_refl _⟩, ⟨by (with_reducible repeat (first | apply Kd.N_alloc | apply Kd.N_drewN | apply Kd.N_drew)); exact Kd.N_mono HOa5.out (fun _ hk => ⟨hk.1.1, ⟨hk.2, hk.1.2⟩⟩)⟩, ⟨zN HOa8.out⟩, ⟨zK BKa1.out⟩, ⟨zB1 HB.out GEa1.out⟩⟩
 clear HC15
 (try clear c7);(try clear c7b0);(try clear c7b1);(try clear c12);(try clear c20);(try clear c20b0);(try clear c20b1);(try clear c20b2);(try clear hcz10_0);(try clear hcz10_1);(try clear hcz10_2);(try clear hcz16_0);(try clear hcz16_1);(try clear hcz16_2);(try clear hcz18_0);(try clear hcz18_1);(try clear hcz18_2);(try clear hcz8_0);(try clear hcz8_1);(try clear hcz8_2);(try clear hfz10_0);(try clear hfz10_1);(try clear hfz10_2);(try clear hfz16_0);(try clear hfz16_1);(try clear hfz16_2);(try clear hfz18_0);(try clear hfz18_1);(try clear hfz18_2);(try clear hfz8_0);(try clear hfz8_1);(try clear hfz8_2)
 obtain ⟨kq, x39_14, rfl, HA, HJ14, HO_7, HO_9, BKa1, HB⟩ := hcut
 cases kq with | zero => exact absurd HA.out (by simp [w24_codes.j1]) | succ kj14 => ?_
 have H := HA.out
 clear HA
 simp only [w24_codes.j1] at H
 by_cases c24 : x39_14 = true
 · subst c24
   rw [if_pos rfl] at H
   simp only [Option.some.injEq, Prod.mk.injEq] at H
   obtain ⟨rfl, rfl, rfl, rfl, rfl⟩ := H
   go_wp2
   refine bodyPost_ret (results_list (rs := [.tmp 6, .tmp 7, .tmp 8, .tmp 9, .tmp 10]) rfl (by simp) (.tmp (.tmp (.tmp (.tmp (.tmp .nil)))))) rfl ?_
   exact ⟨_, _, _, zE, by first | exact Kd.S_nil _ _ _ _ _ | exact Kd.N_nil _ _ _ _ _ | exact Kd.V_nil _ _ _ _ _ | exact Kd.Q_nil _ _ _ _ _ | exact Kd.R_nil _ _ _ _ _, by first | exact Kd.S_nil _ _ _ _ _ | exact Kd.N_nil _ _ _ _ _ | exact Kd.V_nil _ _ _ _ _ | exact Kd.Q_nil _ _ _ _ _ | exact Kd.R_nil _ _ _ _ _, by exact Kd.V_nil _ _ _ _ _, zB1 HB.out GEa1.out⟩
 replace c24 := Bool.eq_false_iff.mpr c24
 subst c24
 rw [if_neg Bool.false_ne_true] at H
 have H' := zk H
 clear H
 go_wp2
 go_loopg [11, 12] kj14 (fun kq v11 v12 w' => ∃ (x11_3 : List (List Int)) (x12_3 : Int), v12 = .int .i64 x12_3 ∧ Aside0 (w24_codes.l0 kq l2 (wrap64 ((Int.tmod (wrap64 (a1)) 12) + 1)) ta3 ta6 x11_3 x12_3 a0_0 a0_1 l0_2 = some (r1, r2, r3, r4, r5)) ∧ Aside0 (kq ≤ kj14) ∧ Aside0 (Kd.N (Kd.slice 3 (Kd.int .i64)) 22 w' w.heap.size (fun k_ => (w.heap.size ≤ k_) ∧ some k_ ≠ (va7 : Value).ownBlock ∧ some k_ ≠ (v11 : Value).ownBlock ∧ k_ ≠ gba1) va4 ta3) ∧ Aside0 (Kd.N (Kd.slice 3 (Kd.int .i64)) 22 w' w.heap.size (fun k_ => (w.heap.size ≤ k_) ∧ some k_ ≠ (va4 : Value).ownBlock ∧ some k_ ≠ (v11 : Value).ownBlock ∧ k_ ≠ gba1) va7 ta6) ∧ Aside0 (Kd.N (Kd.slice 3 (Kd.int .i64)) 22 w' w.heap.size (fun k_ => (w.heap.size ≤ k_) ∧ some k_ ≠ (va4 : Value).ownBlock ∧ some k_ ≠ (va7 : Value).ownBlock ∧ k_ ≠ gba1) v11 x11_3) ∧ Aside0 (w'.heap[gba1]? = some (.cells #[.int .i64 a0_0, .int .i64 a0_1, (.slice A0_2 l0_2.length c0_2)] 24 (0, 0))) ∧ Aside0 (Below w.heap.size w w'))
 case atStart => exact ⟨(([] : List (List Int))), (0), zF, H', ⟨Nat.le_refl _⟩, ⟨by (with_reducible repeat (first | apply Kd.N_alloc | apply Kd.N_drewN | apply Kd.N_drew)); exact Kd.N_mono HO_7.out (fun _ hk => ⟨hk.1, ⟨hk.2.1, ⟨(by simp [Value.ownBlock]), hk.2.2⟩⟩⟩)⟩, ⟨by (with_reducible repeat (first | apply Kd.N_alloc | apply Kd.N_drewN | apply Kd.N_drew)); exact Kd.N_mono HO_9.out (fun _ hk => ⟨hk.1, ⟨hk.2.1, ⟨(by simp [Value.ownBlock]), hk.2.2⟩⟩⟩)⟩, ⟨by first | exact Kd.S_nil _ _ _ _ _ | exact Kd.N_nil _ _ _ _ _ | exact Kd.V_nil _ _ _ _ _ | exact Kd.Q_nil _ _ _ _ _ | exact Kd.R_nil _ _ _ _ _⟩, ⟨zK BKa1.out⟩, ⟨zB1 HB.out GEa1.out⟩⟩
 clear H'
 (try clear c7);(try clear c7b0);(try clear c7b1);(try clear c12);(try clear c20);(try clear c20b0);(try clear c20b1);(try clear c20b2);(try clear c24);(try clear hcz10_0);(try clear hcz10_1);(try clear hcz10_2);(try clear hcz16_0);(try clear hcz16_1);(try clear hcz16_2);(try clear hcz18_0);(try clear hcz18_1);(try clear hcz18_2);(try clear hcz8_0);(try clear hcz8_1);(try clear hcz8_2);(try clear hfz10_0);(try clear hfz10_1);(try clear hfz10_2);(try clear hfz16_0);(try clear hfz16_1);(try clear hfz16_2);(try clear hfz18_0);(try clear hfz18_1);(try clear hfz18_2);(try clear hfz8_0);(try clear hfz8_1);(try clear hfz8_2)
 obtain ⟨x11_3, x12_3, rfl, HA, HK3, HO_7, HO_9, HO_11, BKa1, HB⟩ := hrel
 cases gk with | zero => exact absurd HA.out (by simp [w24_codes.l0]) | succ k3 => ?_
 have H := HA.out
 clear HA
 simp only [w24_codes.l0] at H
 replace H := zid H
 rcases H with ⟨c25b0, H⟩ | ⟨c25b0, H⟩
 · replace H := zgd H
   obtain ⟨c26b0, H⟩ := H
   replace H := zb H
   obtain ⟨tb0, A27, H⟩ := H
   replace H := zg H
   obtain ⟨c28, H⟩ := H
   have LMc28 := zk c28
   clear c28
   obtain ⟨yb3, hyb3⟩ : ∃ y_ : List (List Int), y_ = (x11_3 ++ [tb0]) := ⟨_, rfl⟩
   replace H : (w24_codes.l0 k3 l2 (wrap64 ((Int.tmod (wrap64 (a1)) 12) + 1)) ta3 ta6 yb3 (wrap64 (x12_3 + 1)) a0_0 a0_1 l0_2) = some (r1, r2, r3, r4, r5) := zY hyb3 H
   have Nyb3 := zk hyb3
   clear hyb3
   have H' := zk H
   clear H
   try go_wp2
   replace HO_7 := zk (Kd.N_drew HO_7.out)
   replace HO_9 := zk (Kd.N_drew HO_9.out)
   replace HO_11 := zk (Kd.N_drew HO_11.out)
   replace BKa1 := zk (blk_drew BKa1.out)
   replace HB := zk (below_drew1 HB.out)
   have pa9 : 0 ≤ (x12_3 : Int) := zd
   have qa9 : x12_3 < (l2.length : Int) := zd
   obtain ⟨ada9, Aa9_0, ca9_0, ea9, hxa9_0, hla9_0, hia9_0⟩ := at_L1 HR2.out x12_3 pa9 qa9
   have hw109_0 := hxa9_0
   cases ea9
   replace hxa9_0 := (HB.out.cell (World.block_lt_of_cell? w _ hxa9_0)).trans hxa9_0
   have HRa9_0 := zk hia9_0
   have HCa9_0 := zk hla9_0
   clear hia9_0 hla9_0
   replace pa9 := eq_true pa9
   replace qa9 := eq_true qa9
   refine start_ (n := 11) (S := fun w' => w'.cell? ⟨gba1, 0, none⟩ = some (.int .i64 a0_0) ∧ w'.cell? ⟨gba1, 1, none⟩ = some (.int .i64 a0_1) ∧ w'.cell? ⟨gba1, 2, none⟩ = some (.slice A0_2 l0_2.length c0_2) ∧ w'.cell? (ada9.add (x12_3).toNat) = some (.slice Aa9_0 (rd_L1 l2 x12_3).length ca9_0)) (ds := []) #[false, false, false, false, false, false, false, false, false, false, false] (by kernel_rfl) rfl rfl ⟨(blk_cell BKa1.out 0).trans rfl, (blk_cell BKa1.out 1).trans rfl, (blk_cell BKa1.out 2).trans rfl, ((HB.out.cell (World.block_lt_of_cell? w _ hw109_0)).trans hw109_0)⟩ (fun hHeld => ?_); refine with_tabW w24_codes.tab12 w24_codes.bits12 (fun HT_ HW_ => ?_)
   first | (generalize wr.drew = w29 at HO_7 HO_9 HO_11 BKa1 HB HRa9_0 hxa9_0 hHeld ⊢) | (generalize wr.drew = w29 at HO_7 HO_9 HO_11 BKa1 HB HRa9_0 hHeld ⊢)
   refine zp (i := 0) (N := some 46) HT_ ?_
   refine zp (i := 2) (N := some 48) HT_ ?_
   refine zp (i := 3) (N := some 49) HT_ ?_
   refine zp (i := 4) (N := some 50) HT_ ?_
   refine zp (i := 5) (N := some 51) HT_ ?_
   refine take_ (i := 1) (N := some 47) (v := ?_) (a' := ?_) #[true, true, true, true, true, true, false, false, false, false, false] rfl rfl (take_ofW HT_.out HW_.out (by kernel_rfl)) (fun _ _ _ h => h) (Or.inl ⟨by rfl, ?_⟩) hHeld ?_ ?_
   rotate_left
   · rintro w' ⟨s0, s1, s2, s3⟩
     go_simp
     with_reducible rfl
   rotate_left
   · simp only [Act.put, List.setIfInBounds_toArray, List.set_cons_zero, List.set_cons_succ, i64_w, i32_w]
     rfl
   refine take_ (i := 6) (N := some 52) (v := ?_) (a' := ?_) #[true, true, true, true, true, true, true, false, false, false, false] rfl rfl (take_ofW HT_.out HW_.out (by kernel_rfl)) (fun _ _ _ h => h) (Or.inl ⟨by rfl, ?_⟩) hHeld ?_ ?_
   rotate_left
   · rintro w' ⟨s0, s1, s2, s3⟩
     go_simp
     with_reducible rfl
   rotate_left
   · simp only [Act.put, List.setIfInBounds_toArray, List.set_cons_zero, List.set_cons_succ, i64_w, i32_w]
     rfl
   refine one_ (i := 7) (N := some 53) #[true, true, true, true, true, true, true, true, false, false, false] rfl rfl (one_of HT_.out (by kernel_rfl)) (by decide) (fun K hK => ?_)
   refine goes_ Try.func60 (by kernel_rfl) rfl #[.agg #[.int .i64 a0_0, .int .i64 a0_1, .slice A0_2 l0_2.length c0_2], .int .i64 (wrap64 ((Int.tmod (wrap64 (a1)) 12) + 1)), .slice Aa9_0 (rd_L1 l2 x12_3).length ca9_0] (by rfl) rfl rfl (by (try simp only [List.map_toArray, List.map_cons, List.map_nil]); first | done | rfl | (simp only [List.length_drop, List.length_take]; rfl)) ?_
   with_reducible refine (r24_Row.calls k3 a0_0 a0_1 _ _ l0_2 (wrap64 ((Int.tmod (wrap64 (a1)) 12) + 1)) _ _ (rd_L1 l2 x12_3) tb0 _ ?side1 ?side2 ?side3 ?side4 A27.out).mono ?_
   (case side1 => exact zC (Kd.C_below HR0_2.out HB.out))
   (case side2 => exact HC0_2.out)
   (case side3 => exact zC (Kd.C_below HRa9_0.out HB.out))
   (case side4 => exact HCa9_0.out)
   rintro e w30 ⟨vb1, rfl, ho0, hb⟩
   refine ⟨_, rfl, ?_⟩
   replace HO_7 := yNe HO_7 ho0 hb
   replace HO_9 := yNe HO_9 ho0 hb
   replace HO_11 := yNe HO_11 ho0 hb
   replace ho0 := Kd.R_newM (M := fun k_ => (w.heap.size ≤ k_)) ho0 (below_size (zB1 HB.out GEa1.out)) (fun k_ h_ => h_)
   have HOb2 := yRl1 ho0 HB GEa1
   replace BKa1 := yK BKa1 hb
   replace HB := yS1 HB GEa1 hb
   (try clear hb)
   (try clear ho0)
   obtain ⟨Ao32, co32, eo32⟩ := Kd.R_slice HOb2.out
   (first | subst eo32 | (injection eo32 with f1_ f2_ f3_; have f4_ := f1_.symm; have f5_ := f3_.symm; clear f1_ f2_ f3_; subst f4_; subst f5_))
   refine hK.out _ _ ⟨(blk_cell BKa1.out 0).trans rfl, (blk_cell BKa1.out 1).trans rfl, (blk_cell BKa1.out 2).trans rfl, ((HB.out.cell (World.block_lt_of_cell? w _ hw109_0)).trans hw109_0)⟩ (fun hHeld => ?_)
   clear hK K
   refine norm_ (a' := ?_) ?_ ?_
   rotate_left
   · show Act.put _ (some 53) _ = _
     simp only [Act.put, List.setIfInBounds_toArray, List.set_cons_zero, List.set_cons_succ, i64_w, i32_w]
     rfl
   refine one_ (i := 8) (N := some 54) #[true, true, true, true, true, true, true, true, true, false, false] rfl rfl (one_of HT_.out (by kernel_rfl)) (by decide) (fun K hK => ?_)
   refine value_ (w1 := ?_) (v := ?_) (by rfl) rfl ?_ ?_
   rotate_left 2
   · go_simp
     constructor
     · rfl
     rfl
   refine hK.out _ _ ⟨(blk_cell (blk_alloc BKa1.out _) 0).trans rfl, (blk_cell (blk_alloc BKa1.out _) 1).trans rfl, (blk_cell (blk_alloc BKa1.out _) 2).trans rfl, (World.cell?_alloc_lt _ _ _ (World.block_lt_of_cell? _ _ (((HB.out.cell (World.block_lt_of_cell? w _ hw109_0)).trans hw109_0)))).trans (((HB.out.cell (World.block_lt_of_cell? w _ hw109_0)).trans hw109_0))⟩ (fun hHeld => ?_)
   clear hK K
   refine norm_ (a' := ?_) ?_ ?_
   rotate_left
   · show Act.put _ (some 54) _ = _
     simp only [Act.put, List.setIfInBounds_toArray, List.set_cons_zero, List.set_cons_succ, i64_w, i32_w]
     rfl
   refine one_ (i := 9) (N := some 55) #[true, true, true, true, true, true, true, true, true, true, false] rfl rfl (one_of HT_.out (by kernel_rfl)) (by decide) (fun K hK => ?_)
   refine Kd.N_append_step (Kd.slice 3 (Kd.int .i64)) (w0 := w) w.heap.size (by rfl) (.tmp 46) (.tmp 54) 25 22 (.slice none 0 0) 24 rfl Try.underlying25 info22 rfl (by decide) (by omega) u11 x11_3 tb0 [.slice Ao32 tb0.length co32] (fun k_ => (w.heap.size ≤ k_) ∧ some k_ ≠ (va4 : Value).ownBlock ∧ some k_ ≠ (va7 : Value).ownBlock ∧ k_ ≠ gba1) (fun k_ => ((fun k_ => (w.heap.size ≤ k_) ∧ some k_ ≠ (va4 : Value).ownBlock ∧ some k_ ≠ (va7 : Value).ownBlock ∧ k_ ≠ gba1)) k_ ∧ some k_ ≠ (u11 : Value).ownBlock) rfl rfl ?aP (fun _ hk => hk) ?aF ?aO ?aB ?aS ?aL ?_
   (case aP => exact (Mw.FK_of_R (Kd.R_mono (ok' := (fun k_ => ((fun k_ => (w.heap.size ≤ k_) ∧ some k_ ≠ (va4 : Value).ownBlock ∧ some k_ ≠ (va7 : Value).ownBlock ∧ k_ ≠ gba1)) k_ ∧ some k_ ≠ (u11 : Value).ownBlock)) (Kd.R_types (Kd.R_apart' (Kd.R_apart' (Kd.R_apart' (HOb2.out) (Kd.N_typed HO_7.out) (by decide)) (Kd.N_typed HO_9.out) (by decide)) (Kd.N_typed HO_11.out) (by decide)) BKa1.out (by decide)) (fun k_ hk => by exact ⟨⟨hk.1.1.1.1.1, ⟨hk.1.1.1.2, ⟨hk.1.1.2, hk.2⟩⟩⟩, hk.1.2⟩))))
   (case aB => exact (zB1 HB.out GEa1.out))
   (case aF => exact (fun k_ hk => ⟨(Nat.le_trans (below_size (zB1 HB.out GEa1.out)) hk), Kd.fresh' (Kd.N_lt (zN HO_7.out)) k_ hk, Kd.fresh' (Kd.N_lt (zN HO_9.out)) k_ hk, Kd.freshB (g := gba1) (o := .cells #[.int .i64 a0_0, .int .i64 a0_1, .slice A0_2 l0_2.length c0_2] 24 (0, 0)) (zK BKa1.out) k_ hk⟩))
   (case aO => exact (by (with_reducible repeat (first | apply Kd.N_alloc | apply Kd.N_drewN | apply Kd.N_drew)); exact Kd.N_mono HO_11.out (fun _ hk => ⟨hk.1.1, ⟨hk.1.2.1, ⟨hk.1.2.2.1, hk.1.2.2.2⟩⟩⟩)))
   (case aS => exact (below_size (zB1 HB.out GEa1.out)))
   (case aL => have := LMc28.out; omega)
   intro vb4 w31 ho hb hg hat
   rw [← Nyb3.out] at ho
   replace HO_7 := zk (Kd.N_afterv (ok := (fun k_ => (w.heap.size ≤ k_) ∧ some k_ ≠ (va7 : Value).ownBlock ∧ some k_ ≠ (.slice Ao32 tb0.length co32 : Value).ownBlock ∧ k_ ≠ gba1)) (by (with_reducible repeat (first | apply Kd.N_alloc | apply Kd.N_drewN | apply Kd.N_drew)); exact Kd.N_mono HO_7.out (fun _ hk => ⟨⟨hk.1.1, ⟨hk.1.2.1, ⟨hk.2, hk.1.2.2.2⟩⟩⟩, hk.1.2.2.1⟩)) hg hat)
   replace HO_9 := zk (Kd.N_afterv (ok := (fun k_ => (w.heap.size ≤ k_) ∧ some k_ ≠ (va4 : Value).ownBlock ∧ some k_ ≠ (.slice Ao32 tb0.length co32 : Value).ownBlock ∧ k_ ≠ gba1)) (by (with_reducible repeat (first | apply Kd.N_alloc | apply Kd.N_drewN | apply Kd.N_drew)); exact Kd.N_mono HO_9.out (fun _ hk => ⟨⟨hk.1.1, ⟨hk.1.2.1, ⟨hk.2, hk.1.2.2.2⟩⟩⟩, hk.1.2.2.1⟩)) hg hat)
   replace BKa1 := zk (blk_grown (g := gba1) (o := .cells #[.int .i64 a0_0, .int .i64 a0_1, .slice A0_2 l0_2.length c0_2] 24 (0, 0)) (zK BKa1.out) hg (Kd.N_ne HO_11.out BKa1.out (by decide)))
   replace HB := zk (hb)
   have HOb5 := zk (ho)
   clear HO_11 HOb2
   clear ho hb hg hat
   refine hK.out _ _ ⟨(blk_cell BKa1.out 0).trans rfl, (blk_cell BKa1.out 1).trans rfl, (blk_cell BKa1.out 2).trans rfl, ((HB.out.cell (World.block_lt_of_cell? w _ hw109_0)).trans hw109_0)⟩ (fun hHeld => ?_)
   clear hK K
   refine norm_ (a' := ?_) ?_ ?_
   rotate_left
   · show Act.put _ (some 55) _ = _
     simp only [Act.put, List.setIfInBounds_toArray, List.set_cons_zero, List.set_cons_succ, i64_w, i32_w]
     rfl
   refine zp (i := 10) (N := some 11) HT_ ?_
   refine done_ (done_of HT_.out (by kernel_rfl)) ?_
   try go_wp2
   go_roundg k3
   case measure => have := HJ3.out; have := HJ14.out; have := HK3.out; omega
   case rel => exact ⟨(yb3), (wrap64 (x12_3 + 1)), zF, H', ⟨by have := HJ3.out; have := HJ14.out; have := HK3.out; omega⟩, ⟨by (with_reducible repeat (first | apply Kd.N_alloc | apply Kd.N_drewN | apply Kd.N_drew)); exact Kd.N_mono HO_7.out (fun _ hk => ⟨hk.1.1, ⟨hk.1.2.1, ⟨hk.2, hk.1.2.2.2⟩⟩⟩)⟩, ⟨by (with_reducible repeat (first | apply Kd.N_alloc | apply Kd.N_drewN | apply Kd.N_drew)); exact Kd.N_mono HO_9.out (fun _ hk => ⟨hk.1.1, ⟨hk.1.2.1, ⟨hk.2, hk.1.2.2.2⟩⟩⟩)⟩, ⟨zN HOb5.out⟩, ⟨zK BKa1.out⟩, ⟨zB1 HB.out GEa1.out⟩⟩
 replace H := zb H
 obtain ⟨tb6, A33, H⟩ := H
 simp only [Option.some.injEq, Prod.mk.injEq] at H
 obtain ⟨rfl, rfl, rfl, rfl, rfl⟩ := H
 obtain ⟨hcz34_0, hcz34_1, hcz34_2, hfz34_0, hfz34_1, hfz34_2⟩ := zz3 BKa1
 obtain ⟨Ao35, co35, rfl⟩ := Kd.N_slice HO_9.out
 obtain ⟨Ao36, co36, rfl⟩ := Kd.N_slice HO_11.out
 go_wp2_with (first | ((with_reducible refine gC 70 ?_); refine zG (some 61) Try.func70 #[.agg #[.int .i64 a0_0, .int .i64 a0_1, .slice A0_2 l0_2.length c0_2], .slice Ao35 ta6.length co35, .slice Ao36 x11_3.length co36] ?_; (with_reducible refine (r24_Orthogonal.calls k3 a0_0 a0_1 _ _ l0_2 (fun k_ => ((w.heap.size ≤ k_) ∧ (some k_ ≠ (va4 : Value).ownBlock ∧ (some k_ ≠ (.slice Ao36 x11_3.length co36 : Value).ownBlock ∧ k_ ≠ gba1)))) _ _ ta6 _ _ x11_3 tb6 _ ?side1 ?side2 ?side3 ?side4 ?side5 A33.out).mono ?_); (case side1 => exact zC (Kd.C_below HR0_2.out HB.out)); (case side2 => exact HC0_2.out); (case side3 => exact Kd.N_V (HO_9.out)); (case side4 => exact zC (Kd.N_reads' HO_11.out).2.2); (case side5 => exact (Kd.N_reads' HO_11.out).2.1); rintro e w37 ⟨vb7, rfl, ho0, hb⟩; refine ⟨_, rfl, ?_⟩; replace HO_9 := zk (Kd.N_elder' (zN HO_9.out) (Kd.N_base ho0) hb); have HOb8 := zk (Kd.N_lower (Kd.N_mono (ok' := fun k_ => (w.heap.size ≤ k_) ∧ some k_ ≠ (va4 : Value).ownBlock ∧ some k_ ≠ (.slice Ao36 x11_3.length co36 : Value).ownBlock ∧ k_ ≠ gba1) ho0 (fun k_ hk_ => ⟨Or.elim hk_ (fun hs_ => hs_.1) (fun hn_ => (Nat.le_trans (below_size (zB1 HB.out GEa1.out)) hn_)), Or.elim hk_ (fun hs_ => hs_.2.1) (fun hn_ => (Kd.fresh' (Kd.N_lt (zN HO_7.out)) k_ hn_)), Or.elim hk_ (fun hs_ => hs_.2.2.1) (fun hn_ => (Kd.fresh' (Kd.N_lt (zN HO_11.out)) k_ hn_)), Or.elim hk_ (fun hs_ => hs_.2.2.2) (fun hn_ => (Kd.freshB (g := gba1) (o := .cells #[.int .i64 a0_0, .int .i64 a0_1, .slice A0_2 l0_2.length c0_2] 24 (0, 0)) (zK BKa1.out) k_ hn_))⟩)) (below_size (zB1 HB.out GEa1.out))); replace HO_7 := zk (Kd.N_elder' (zN HO_7.out) (Kd.N_base ho0) hb); replace HO_11 := zk (Kd.N_elder' (zN HO_11.out) (Kd.N_base ho0) hb); replace BKa1 := yK BKa1 hb; replace HB := yS1 HB GEa1 hb; (try clear hb ho0)))
 refine bodyPost_ret (results_list (rs := [.tmp 6, .tmp 7, .tmp 8, .tmp 9, .tmp 10]) rfl (by simp) (.tmp (.tmp (.tmp (.tmp (.tmp .nil)))))) rfl ?_
 exact ⟨_, _, _, zE, by (with_reducible repeat (first | apply Kd.N_alloc | apply Kd.N_drewN | apply Kd.N_drew)); exact Kd.N_mono HO_7.out (fun _ hk => ⟨hk.1.1, hk.2⟩), by (with_reducible repeat (first | apply Kd.N_alloc | apply Kd.N_drewN | apply Kd.N_drew)); exact Kd.N_mono HOb8.out (fun _ hk => ⟨hk.1, hk.2.1⟩), Kd.N_V (by (with_reducible repeat (first | apply Kd.N_alloc | apply Kd.N_drewN | apply Kd.N_drew)); exact Kd.N_mono HO_9.out (fun _ hk => ⟨hk.1.1, ⟨hk.1.2.1, hk.2⟩⟩)), zB1 HB.out GEa1.out⟩
set_option maxHeartbeats 8000000 in
set_option maxRecDepth 100000 in
theorem r1_Trim.calls (k : Nat) (A0 : Option Addr) (c0 : Nat) (l0 : List Int) (r : List Int) (w : World) (hr0 : Kd.C (Kd.int .u32) w A0 l0.length l0) (hc0 : l0.length ≤ c0) (h : r1_Trim.f k l0 = some r) :
    Calls Try.prog 75 #[.slice A0 l0.length c0] w fun e w' => ∃ v0_ : Value, e = .returned (v0_) ∧ Kd.R (Kd.int .u32) 97 w' w.heap.size (fun _ => True) v0_ r ∧ Below w.heap.size w w' := by
 have HR0 := zk hr0
 have HC0 := zk hc0
 clear hr0 hc0
 have HB := zk (Below.refl w.heap.size w)
 have H := h
 clear h
 unfold r1_Trim.f at H
 have H' := zk H
 clear H
 go_enter Try.func75, Try.ntmps75
 go_wp2
 go_loopg [3] k (fun kq v3 w' => ∃ (x3_1 : Int), v3 = .int .i64 x3_1 ∧ Aside0 (r1_Trim.l0 kq l0 x3_1 = some r) ∧ Aside0 (kq ≤ k) ∧ Aside0 (Below w.heap.size w w'))
 case atStart => exact ⟨((l0.length : Int)), zF, H', ⟨Nat.le_refl _⟩, ⟨zB HB.out⟩⟩
 clear H'
 obtain ⟨x3_1, rfl, HA, HK1, HB⟩ := hrel
 cases gk with | zero => exact absurd HA.out (by simp [r1_Trim.l0]) | succ k1 => ?_
 have H := HA.out
 clear HA
 simp only [r1_Trim.l0] at H
 replace H := zi H
 rcases H with ⟨c2, H⟩ | ⟨c2, H⟩
 · have c2b0 : decide (0 < x3_1) = true := decide_eq_true c2
   clear c2
   obtain ⟨ji3, hji3⟩ : ∃ j_ : Int, (wrap64 (x3_1 - 1)) = j_ := ⟨_, rfl⟩
   replace H : (if 0 ≤ (ji3) then (if (ji3) < (l0.length : Int) then (if (rd l0 (ji3)) = 0 then (r1_Trim.l0 k1 l0 ji3) else ((some (([] : List Int) : List Int)).bind fun ya2 => (if 0 ≤ x3_1 then (if x3_1 ≤ (l0.length : Int) then (if ya2.length + (l0.take (x3_1 : Int).toNat).length < 35184372088832 then (some (ya2 ++ (l0.take (x3_1 : Int).toNat))) else (none)) else (none)) else (none)))) else (none)) else (none)) = some r := by first | (rw [hji3] at H; exact H) | (simp only [hji3] at H ⊢; exact H)
   have hji3w : (IntKind.i64.wrap (x3_1 - 1)) = ji3 := (i64_w _).trans hji3
   replace H := zgd H
   obtain ⟨c4b0, H⟩ := H
   replace H := zgd H
   obtain ⟨c5b0, H⟩ := H
   replace H := zi H
   rcases H with ⟨c6, H⟩ | ⟨c6, H⟩
   · have c6b0 := beq_iff_eq.mpr c6
     have c6b1 := bne_eq_false_iff_eq.mpr c6
     clear c6
     have H' := zk H
     clear H
     have pa1 : 0 ≤ ((ji3) : Int) := zd
     have qa1 : (ji3) < (l0.length : Int) := zd
     obtain ⟨ada1, ea1, hxa1_0⟩ := Kd.at_int HR0.out (ji3) pa1 qa1
     cases ea1
     replace hxa1_0 := (HB.out.cell (World.block_lt_of_cell? w _ hxa1_0)).trans hxa1_0
     replace pa1 := eq_true pa1
     replace qa1 := eq_true qa1
     go_wp2
     go_roundg k1
     case measure => have := HK1.out; omega
     case rel => exact ⟨(ji3), (by first | rfl | (simp; done) | (simp only [← hji3] <;> (first | rfl | simp)) | (simp [*]; done)), H', ⟨zo1 HK1⟩, ⟨zB HB.out⟩⟩
   have c6b0 := beq_eq_false_iff_ne.mpr c6
   have c6b1 := bne_iff_ne.mpr c6
   obtain ⟨ya2, hya2⟩ : ∃ y_ : List Int, y_ = (([] : List Int)) := ⟨_, rfl⟩
   replace H : (if 0 ≤ x3_1 then (if x3_1 ≤ (l0.length : Int) then (if ya2.length + (l0.take (x3_1 : Int).toNat).length < 35184372088832 then (some (ya2 ++ (l0.take (x3_1 : Int).toNat))) else (none)) else (none)) else (none)) = some r := zY hya2 H
   have Nya2 := zk hya2
   clear hya2
   replace H := zg H
   obtain ⟨c7, H⟩ := H
   have c7b0 := eq_true c7
   have c7b1 := decide_eq_true c7
   clear c7
   replace H := zg H
   obtain ⟨c8, H⟩ := H
   have c8b0 := eq_true c8
   have c8b1 := decide_eq_true c8
   clear c8
   replace H := zg H
   obtain ⟨c9, H⟩ := H
   have LMc9 := zk c9
   clear c9
   obtain ⟨ya6, hya6⟩ : ∃ y_ : List Int, y_ = (ya2 ++ (l0.take (x3_1 : Int).toNat)) := ⟨_, rfl⟩
   replace H : (some ya6) = some r := zY hya6 H
   have Nya6 := zk hya6
   clear hya6
   obtain rfl := Option.some.inj H
   have pa1 : 0 ≤ ((ji3) : Int) := zd
   have qa1 : (ji3) < (l0.length : Int) := zd
   obtain ⟨ada1, ea1, hxa1_0⟩ := Kd.at_int HR0.out (ji3) pa1 qa1
   cases ea1
   replace hxa1_0 := (HB.out.cell (World.block_lt_of_cell? w _ hxa1_0)).trans hxa1_0
   replace pa1 := eq_true pa1
   replace qa1 := eq_true qa1
   go_wp2_with (first | ((with_reducible refine gate_dst (N := 18) rfl ?_); refine Kd.R_lit (Kd.int .u32) _ 97 ?hg (N := 18) ?hd (xs := ([] : List Int)) (inner := []) (ok := fun _ => True) (okp := fun _ => True) ?hr ?hp (fun _ hk => hk) trivial (Below.refl _ _) (Nat.le_refl _) (by simp) ?_; (case hd => rfl); (case hg => rfl); (case hr => first | (go_simp; done) | (go_simp; rfl)); (case hp => exact (Reps.none _ _)); intro va3 w10 ho11 hb hg_ hnew_; clear hg_ hnew_; (first | rw [← Nya2.out] at ho11 | (simp only [Int.reduceToNat] at ho11; rw [← Nya2.out] at ho11)); have HOa4 := yRl ho11 HB; replace HB := yS HB hb; clear hb ho11; obtain ⟨i012, hi012, _, hsz12, _⟩ := info_parts info97; obtain ⟨hcut12, hA12, hC12⟩ := print_take_of (P := Try.prog) (Value.int .u32) 0 29 97 .i64 Try.underlying29 hi012 hsz12 (some ada1) c0 l0 x3_1 zd zd HC0.out; have HRa5 := zk (Kd.C_of_reads (h1 := fun _ => rfl) (hA12 _ (Kd.reads_of_C HR0.out))); have HCa5 := zk hC12; clear hA12 hC12 hi012 hsz12) | ((with_reducible refine gate_builtin (b := .append) (xs := #[.tmp 18, .tmp 21]) rfl ?_); at_builtin; refine Kd.R_append_rows (Kd.int .u32) (w0 := w) w.heap.size rfl (.tmp 18) (.tmp 21) 29 97 (.int .u32 0) 4 rfl Try.underlying29 info97 rfl (by decide) (by omega) va3 ya2 (l0.take (x3_1 : Int).toNat) _ _ _ (fun _ => True) (fun _ => False) rfl rfl ?aO ?aR (fun _ _ h => h) (fun _ h => h.elim) ?aF ?aB ?aS ?aL ?_; (case aR => first | (have hz_ : (l0.take (x3_1 : Int).toNat).length = x3_1.toNat := (by rw [List.length_take]; have h_ : (x3_1 : Int) ≤ (l0.length : Int) := zd; omega); refine Eq.mp (congrArg (fun n_ => Kd.C _ _ _ n_ _) hz_) ?_; repeat (first | exact (Kd.C_below HRa5.out HB.out) | (with_reducible refine Kd.C_alloc ?_ _) | (with_reducible refine Kd.C_drewN ?_ _) | (with_reducible refine Kd.C_drew ?_))) | (rw [← show (l0.take (x3_1 : Int).toNat).length = x3_1.toNat from (by rw [List.length_take]; have h_ : (x3_1 : Int) ≤ (l0.length : Int) := zd; omega)]; repeat (first | exact (Kd.C_below HRa5.out HB.out) | (with_reducible refine Kd.C_alloc ?_ _) | (with_reducible refine Kd.C_drewN ?_ _) | (with_reducible refine Kd.C_drew ?_))) | (repeat (first | exact (Kd.C_below HRa5.out HB.out) | (with_reducible refine Kd.C_alloc ?_ _) | (with_reducible refine Kd.C_drewN ?_ _) | (with_reducible refine Kd.C_drew ?_)))); (case aB => exact (zB HB.out)); (case aF => exact (fun _ _ => trivial)); (case aO => exact (zR HOa4.out)); (case aS => exact (below_size (zB HB.out))); (case aL => have := LMc9.out; have hlx_ := (show (l0.take (x3_1 : Int).toNat).length = x3_1.toNat from (by rw [List.length_take]; have h_ : (x3_1 : Int) ≤ (l0.length : Int) := zd; omega)); omega); intro va7 w13 ho hb hg hat; rw [← Nya6.out] at ho; replace HB := zk (hb); have HOa8 := zk (ho); clear HOa4; clear ho hb hg hat))
   go_ret
   exact ⟨_, by first | rfl | (simp [errW_none, errW_some] <;> rfl) | (simp only [← hji3]; first | rfl | (simp [errW_none, errW_some] <;> rfl)) | (simp [*, errW_none, errW_some] <;> rfl), zR HOa8.out, zB HB.out⟩
 have c2b0 : decide (0 < x3_1) = false := decide_eq_false c2
 clear c2
 obtain ⟨ya9, hya9⟩ : ∃ y_ : List Int, y_ = (([] : List Int)) := ⟨_, rfl⟩
 replace H : (if 0 ≤ x3_1 then (if x3_1 ≤ (l0.length : Int) then (if ya9.length + (l0.take (x3_1 : Int).toNat).length < 35184372088832 then (some (ya9 ++ (l0.take (x3_1 : Int).toNat))) else (none)) else (none)) else (none)) = some r := zY hya9 H
 have Nya9 := zk hya9
 clear hya9
 replace H := zg H
 obtain ⟨c14, H⟩ := H
 have c14b0 := eq_true c14
 have c14b1 := decide_eq_true c14
 clear c14
 replace H := zg H
 obtain ⟨c15, H⟩ := H
 have c15b0 := eq_true c15
 have c15b1 := decide_eq_true c15
 clear c15
 replace H := zg H
 obtain ⟨c16, H⟩ := H
 have LMc16 := zk c16
 clear c16
 obtain ⟨yb3, hyb3⟩ : ∃ y_ : List Int, y_ = (ya9 ++ (l0.take (x3_1 : Int).toNat)) := ⟨_, rfl⟩
 replace H : (some yb3) = some r := zY hyb3 H
 have Nyb3 := zk hyb3
 clear hyb3
 obtain rfl := Option.some.inj H
 go_wp2_with (first | ((with_reducible refine gate_dst (N := 18) rfl ?_); refine Kd.R_lit (Kd.int .u32) _ 97 ?hg (N := 18) ?hd (xs := ([] : List Int)) (inner := []) (ok := fun _ => True) (okp := fun _ => True) ?hr ?hp (fun _ hk => hk) trivial (Below.refl _ _) (Nat.le_refl _) (by simp) ?_; (case hd => rfl); (case hg => rfl); (case hr => first | (go_simp; done) | (go_simp; rfl)); (case hp => exact (Reps.none _ _)); intro vb0 w17 ho18 hb hg_ hnew_; clear hg_ hnew_; (first | rw [← Nya9.out] at ho18 | (simp only [Int.reduceToNat] at ho18; rw [← Nya9.out] at ho18)); have HOb1 := yRl ho18 HB; replace HB := yS HB hb; clear hb ho18; obtain ⟨i019, hi019, _, hsz19, _⟩ := info_parts info97; obtain ⟨hcut19, hA19, hC19⟩ := print_take_of (P := Try.prog) (Value.int .u32) 0 29 97 .i64 Try.underlying29 hi019 hsz19 A0 c0 l0 x3_1 zd zd HC0.out; have HRb2 := zk (Kd.C_of_reads (h1 := fun _ => rfl) (hA19 _ (Kd.reads_of_C HR0.out))); have HCb2 := zk hC19; clear hA19 hC19 hi019 hsz19) | ((with_reducible refine gate_builtin (b := .append) (xs := #[.tmp 18, .tmp 21]) rfl ?_); at_builtin; refine Kd.R_append_rows (Kd.int .u32) (w0 := w) w.heap.size rfl (.tmp 18) (.tmp 21) 29 97 (.int .u32 0) 4 rfl Try.underlying29 info97 rfl (by decide) (by omega) vb0 ya9 (l0.take (x3_1 : Int).toNat) _ _ _ (fun _ => True) (fun _ => False) rfl rfl ?aO ?aR (fun _ _ h => h) (fun _ h => h.elim) ?aF ?aB ?aS ?aL ?_; (case aR => first | (have hz_ : (l0.take (x3_1 : Int).toNat).length = x3_1.toNat := (by rw [List.length_take]; have h_ : (x3_1 : Int) ≤ (l0.length : Int) := zd; omega); refine Eq.mp (congrArg (fun n_ => Kd.C _ _ _ n_ _) hz_) ?_; repeat (first | exact (Kd.C_below HRb2.out HB.out) | (with_reducible refine Kd.C_alloc ?_ _) | (with_reducible refine Kd.C_drewN ?_ _) | (with_reducible refine Kd.C_drew ?_))) | (rw [← show (l0.take (x3_1 : Int).toNat).length = x3_1.toNat from (by rw [List.length_take]; have h_ : (x3_1 : Int) ≤ (l0.length : Int) := zd; omega)]; repeat (first | exact (Kd.C_below HRb2.out HB.out) | (with_reducible refine Kd.C_alloc ?_ _) | (with_reducible refine Kd.C_drewN ?_ _) | (with_reducible refine Kd.C_drew ?_))) | (repeat (first | exact (Kd.C_below HRb2.out HB.out) | (with_reducible refine Kd.C_alloc ?_ _) | (with_reducible refine Kd.C_drewN ?_ _) | (with_reducible refine Kd.C_drew ?_)))); (case aB => exact (zB HB.out)); (case aF => exact (fun _ _ => trivial)); (case aO => exact (zR HOb1.out)); (case aS => exact (below_size (zB HB.out))); (case aL => have := LMc16.out; have hlx_ := (show (l0.take (x3_1 : Int).toNat).length = x3_1.toNat from (by rw [List.length_take]; have h_ : (x3_1 : Int) ≤ (l0.length : Int) := zd; omega)); omega); intro vb4 w20 ho hb hg hat; rw [← Nyb3.out] at ho; replace HB := zk (hb); have HOb5 := zk (ho); clear HOb1; clear ho hb hg hat))
 go_ret
 exact ⟨_, zE, zR HOb5.out, zB HB.out⟩
set_option maxHeartbeats 8000000 in
set_option maxRecDepth 100000 in
theorem r1_Of.calls (k : Nat) (a0 : Int) (r : List Int) (w : World) (h : r1_Of.f k a0 = some r) :
    Calls Try.prog 23 #[.int .u64 a0] w fun e w' => ∃ v0_ : Value, e = .returned (v0_) ∧ Kd.R (Kd.int .u32) 97 w' w.heap.size (fun _ => True) v0_ r ∧ Below w.heap.size w w' := by
 have HB := zk (Below.refl w.heap.size w)
 have H := h
 clear h
 unfold r1_Of.f at H
 obtain ⟨ya1, hya1⟩ : ∃ y_ : List Int, y_ = (([(Int.tmod a0 4294967296) % 4294967296, (IntKind.u64.wrap (Int.tdiv a0 4294967296)) % 4294967296] : List Int)) := ⟨_, rfl⟩
 replace H : ((r1_Trim.f k ya1).bind fun ta4 => (some ta4)) = some r := zY hya1 H
 have Nya1 := zk hya1
 clear hya1
 replace H := zb H
 obtain ⟨ta4, A2, H⟩ := H
 obtain rfl := Option.some.inj H
 go_enter Try.func23, Try.ntmps23
 go_wp2_with (first | ((with_reducible refine gate_dst (N := 9) rfl ?_); refine Kd.R_lit (Kd.int .u32) _ 97 ?hg (N := 9) ?hd (xs := ([(Int.tmod a0 4294967296) % 4294967296, (IntKind.u64.wrap (Int.tdiv a0 4294967296)) % 4294967296] : List Int)) (inner := [.int .u32 ((Int.tmod a0 4294967296) % 4294967296), .int .u32 ((IntKind.u64.wrap (Int.tdiv a0 4294967296)) % 4294967296)]) (ok := fun _ => True) (okp := fun _ => True) ?hr ?hp (fun _ hk => hk) trivial (Below.refl _ _) (Nat.le_refl _) (by simp) ?_; (case hd => rfl); (case hg => rfl); (case hr => first | (go_simp; done) | (go_simp; rfl)); (case hp => exact (Reps.one (show Kd.M (Kd.int .u32) _ _ _ ((Int.tmod a0 4294967296) % 4294967296) [.int .u32 ((Int.tmod a0 4294967296) % 4294967296)] from rfl) (Reps.one (show Kd.M (Kd.int .u32) _ _ _ ((IntKind.u64.wrap (Int.tdiv a0 4294967296)) % 4294967296) [.int .u32 ((IntKind.u64.wrap (Int.tdiv a0 4294967296)) % 4294967296)] from rfl) (Reps.none _ _)))); intro va2 w3 ho4 hb hg_ hnew_; clear hg_ hnew_; (first | rw [← Nya1.out] at ho4 | (simp only [Int.reduceToNat] at ho4; rw [← Nya1.out] at ho4)); have HOa3 := yRl ho4 HB; replace HB := yS HB hb; clear hb ho4; obtain ⟨Ao5, co5, rfl⟩ := Kd.R_slice HOa3.out) | ((with_reducible refine gC 75 ?_); refine zG (some 10) Try.func75 #[.slice Ao5 ya1.length co5] ?_; (with_reducible refine (r1_Trim.calls k _ _ ya1 ta4 _ ?side1 ?side2 A2.out).mono ?_); (case side1 => exact zC (Kd.R_reads' HOa3.out).2.2); (case side2 => exact (Kd.R_reads' HOa3.out).2.1); rintro e w6 ⟨va5, rfl, ho0, hb⟩; refine ⟨_, rfl, ?_⟩; replace ho0 := yn ho0 HOa3; have HOa6 := yRl ho0 HB; replace HOa3 := yRe HOa3 ho0 hb; replace HB := yS HB hb; (try clear hb ho0)))
 go_ret
 exact ⟨_, zE, by (with_reducible repeat (first | apply Kd.R_alloc | apply Kd.R_drewN | apply Kd.R_drew)); exact Kd.R_mono HOa6.out (fun _ hk => trivial), zB HB.out⟩
set_option maxHeartbeats 8000000 in
set_option maxRecDepth 100000 in
theorem r24_Weights.calls (k : Nat) (a0 : Int) (A1 : Option Addr) (c1 : Nat) (l1 : List (List Int)) (r : List (List Int)) (w : World) (hr1 : Kd.C (Kd.slice 3 (Kd.int .i64)) w A1 l1.length l1) (hc1 : l1.length ≤ c1) (h : r24_Weights.f k a0 l1 = some r) :
    Calls Try.prog 21 #[.int .i64 a0, .slice A1 l1.length c1] w fun e w' => ∃ v0_ : Value, e = .returned (v0_) ∧ Kd.S (Kd.slice 97 (Kd.int .u32)) 29 w' w.heap.size (fun _ => True) v0_ r ∧ Below w.heap.size w w' := by
 have HR1 := zk hr1
 have HC1 := zk hc1
 clear hr1 hc1
 have HB := zk (Below.refl w.heap.size w)
 have H := h
 clear h
 unfold r24_Weights.f at H
 obtain ⟨ji3, hji3⟩ : ∃ j_ : Int, (wrap64 (a0 + 1)) = j_ := ⟨_, rfl⟩
 replace H : (if 0 ≤ (ji3) then (if (ji3 : Int).toNat ≤ 35184372088832 then (if 0 ≤ a0 then (if (a0 : Int).toNat ≤ 35184372088832 then (r24_Weights.l0 k a0 l1 (List.replicate (ji3 : Int).toNat 0) (List.replicate (a0 : Int).toNat 0) 0) else (none)) else (none)) else (none)) else (none)) = some r := by first | (rw [hji3] at H; exact H) | (simp only [hji3] at H ⊢; exact H)
 have hji3w : (IntKind.i64.wrap (a0 + 1)) = ji3 := (i64_w _).trans hji3
 replace H := zg H
 obtain ⟨c4, H⟩ := H
 have c4b0 := eq_true c4
 have c4b1 := decide_eq_true c4
 clear c4
 replace H := zg H
 obtain ⟨c5, H⟩ := H
 have c5b0 := eq_true c5
 have c5b1 := decide_eq_true c5
 clear c5
 obtain ⟨ya1, hya1⟩ : ∃ y_ : List Int, y_ = (List.replicate (ji3 : Int).toNat 0) := ⟨_, rfl⟩
 replace H : (if 0 ≤ a0 then (if (a0 : Int).toNat ≤ 35184372088832 then (r24_Weights.l0 k a0 l1 ya1 (List.replicate (a0 : Int).toNat 0) 0) else (none)) else (none)) = some r := zY hya1 H
 have Nya1 := zk hya1
 clear hya1
 replace H := zg H
 obtain ⟨c6, H⟩ := H
 have c6b0 := eq_true c6
 have c6b1 := decide_eq_true c6
 clear c6
 replace H := zg H
 obtain ⟨c7, H⟩ := H
 have c7b0 := eq_true c7
 have c7b1 := decide_eq_true c7
 clear c7
 obtain ⟨ya4, hya4⟩ : ∃ y_ : List Int, y_ = (List.replicate (a0 : Int).toNat 0) := ⟨_, rfl⟩
 replace H : (r24_Weights.l0 k a0 l1 ya1 ya4 0) = some r := zY hya4 H
 have Nya4 := zk hya4
 clear hya4
 have H' := zk H
 clear H
 go_enter Try.func21, Try.ntmps21
 go_wp2_with (first | ((with_reducible refine gate_dst (N := 12) rfl ?_); refine Kd.R_make (Kd.int .i64) _ 3 rfl (N := 12) rfl 22 _ _ rfl ji3 rfl rfl Try.underlying22 (.int .i64 0) 8 info3 rfl (by decide) (by omega) 0 (ok := fun _ => True) (okp := fun _ => True) rfl (fun _ hk => hk) trivial zd (Nat.le_trans (Nat.mul_le_mul_right _ (zd : ji3.toNat ≤ 35184372088832)) (by omega)) (Below.refl _ _) (Nat.le_refl _) ?_; intro va2 w8 ho9 hb hg_ hnew_; clear hg_ hnew_; (first | rw [← Nya1.out] at ho9 | (simp only [Int.reduceToNat] at ho9; rw [← Nya1.out] at ho9)); have HOa3 := yRl ho9 HB; replace HB := yS HB hb; clear hb ho9) | ((with_reducible refine gate_dst (N := 14) rfl ?_); refine Kd.R_make (Kd.int .i64) _ 3 rfl (N := 14) rfl 22 _ _ rfl a0 rfl rfl Try.underlying22 (.int .i64 0) 8 info3 rfl (by decide) (by omega) 0 (ok := fun _ => True) (okp := fun _ => True) rfl (fun _ hk => hk) trivial zd (Nat.le_trans (Nat.mul_le_mul_right _ (zd : a0.toNat ≤ 35184372088832)) (by omega)) (Below.refl _ _) (Nat.le_refl _) ?_; intro va5 w10 ho11 hb hg_ hnew_; clear hg_ hnew_; (first | rw [← Nya4.out] at ho11 | (simp only [Int.reduceToNat] at ho11; rw [← Nya4.out] at ho11)); replace ho11 := yn ho11 HOa3; have HOa6 := yRl ho11 HB; replace HOa3 := yRe HOa3 ho11 hb; replace HB := yS HB hb; clear hb ho11))
 go_loopg [7] k (fun kq v7 w' => ∃ (x5_1 : List Int) (x7_1 : Int), v7 = .int .i64 x7_1 ∧ Aside0 (r24_Weights.l0 kq a0 l1 x5_1 ya4 x7_1 = some r) ∧ Aside0 (kq ≤ k) ∧ Aside0 (Kd.R (Kd.int .i64) 3 w' w.heap.size (fun k_ => some k_ ≠ (va5 : Value).ownBlock) va2 x5_1) ∧ Aside0 (Kd.R (Kd.int .i64) 3 w' w.heap.size (fun k_ => some k_ ≠ (va2 : Value).ownBlock) va5 ya4) ∧ Aside0 (Below w.heap.size w w'))
 case atStart => exact ⟨(ya1), (0), zF, H', ⟨Nat.le_refl _⟩, ⟨by (with_reducible repeat (first | apply Kd.R_alloc | apply Kd.R_drewN | apply Kd.R_drew)); exact Kd.R_mono HOa3.out (fun _ hk => hk.2)⟩, ⟨by (with_reducible repeat (first | apply Kd.R_alloc | apply Kd.R_drewN | apply Kd.R_drew)); exact Kd.R_mono HOa6.out (fun _ hk => hk.2)⟩, ⟨zB HB.out⟩⟩
 clear H'
 (try clear c4);(try clear c4b0);(try clear c4b1);(try clear c5);(try clear c5b0);(try clear c5b1);(try clear c6);(try clear c6b0);(try clear c6b1);(try clear c7);(try clear c7b0);(try clear c7b1)
 obtain ⟨x5_1, x7_1, rfl, HA, HK1, HO_5, HO_6, HB⟩ := hrel
 cases gk with | zero => exact absurd HA.out (by simp [r24_Weights.l0]) | succ k1 => ?_
 have H := HA.out
 clear HA
 simp only [r24_Weights.l0] at H
 replace H := zid H
 rcases H with ⟨c12b0, H⟩ | ⟨c12b0, H⟩
 · replace H := zgd H
   obtain ⟨c13b0, H⟩ := H
   replace H := zb H
   obtain ⟨ta8, A14, H⟩ := H
   replace H := zgd H
   obtain ⟨c15b0, H⟩ := H
   replace H := zgd H
   obtain ⟨c16b0, H⟩ := H
   obtain ⟨yb0, hyb0⟩ : ∃ y_ : List Int, y_ = (x5_1.set (ta8 : Int).toNat (wrap64 ((rd x5_1 ta8) + 1))) := ⟨_, rfl⟩
   replace H : (r24_Weights.l0 k1 a0 l1 yb0 ya4 (wrap64 (x7_1 + 1))) = some r := zY hyb0 H
   have Nyb0 := zk hyb0
   clear hyb0
   have H' := zk H
   clear H
   have pa7 : 0 ≤ (x7_1 : Int) := zd
   have qa7 : x7_1 < (l1.length : Int) := zd
   obtain ⟨ada7, Aa7_0, ca7_0, ea7, hxa7_0, hla7_0, hia7_0⟩ := at_L1 HR1.out x7_1 pa7 qa7
   cases ea7
   replace hxa7_0 := (HB.out.cell (World.block_lt_of_cell? w _ hxa7_0)).trans hxa7_0
   have HRa7_0 := zk hia7_0
   have HCa7_0 := zk hla7_0
   clear hia7_0 hla7_0
   replace pa7 := eq_true pa7
   replace qa7 := eq_true qa7
   obtain ⟨Ao18, co18, rfl⟩ := Kd.R_slice HO_6.out
   go_wp2_with (first | ((with_reducible refine gC 61 ?_); refine zG (some 27) Try.func61 #[.slice Aa7_0 (rd_L1 l1 x7_1).length ca7_0, .slice Ao18 ya4.length co18] ?_; (with_reducible refine (r24_Distance.calls k1 _ _ (rd_L1 l1 x7_1) _ _ ya4 ta8 _ ?side1 ?side2 ?side3 ?side4 A14.out).mono ?_); (case side1 => exact zC (Kd.C_below HRa7_0.out HB.out)); (case side2 => exact HCa7_0.out); (case side3 => exact zC (Kd.R_reads' HO_6.out).2.2); (case side4 => exact (Kd.R_reads' HO_6.out).2.1); rintro e w' ⟨rfl, ⟨nd, rfl⟩⟩; refine ⟨_, rfl, ?_⟩; (try (rw [drewN_self wr]; generalize hq_ : World.drewN wr _ = wr; have n0_ : Aside0 (Kd.R (Kd.int .i64) 3 wr w.heap.size (fun k_ => some k_ ≠ (.slice Ao18 ya4.length co18 : Value).ownBlock) va2 x5_1) := ⟨by rw [← hq_]; exact (zR HO_5.out)⟩; have n1_ : Aside0 (Kd.R (Kd.int .i64) 3 wr w.heap.size (fun k_ => some k_ ≠ (va2 : Value).ownBlock) (.slice Ao18 ya4.length co18) ya4) := ⟨by rw [← hq_]; exact (zR HO_6.out)⟩; have n2_ : Aside0 (Below w.heap.size w wr) := ⟨by rw [← hq_]; exact (zB HB.out)⟩; clear HO_5 HO_6 HB hq_; have HO_5 := n0_; have HO_6 := n1_; have HB := n2_; clear n0_ n1_ n2_)); obtain ⟨Ao19, co19, rfl⟩ := Kd.R_slice HO_5.out; have pa9 : 0 ≤ (ta8 : Int) := zd; have qa9 : ta8 < (x5_1.length : Int) := zd; obtain ⟨ada9, ea9, hxa9_0⟩ := Kd.at_int (Kd.R_reads' HO_5.out).2.2 ta8 pa9 qa9; cases ea9; replace pa9 := eq_true pa9; replace qa9 := eq_true qa9; have p17 : 0 ≤ (ta8 : Int) := zd; have q17 : (ta8 : Int) < ((x5_1.length : Int) : Int) := zd; obtain ⟨go17, co17, eo17, gb17, gl17, cl17, HG17⟩ := Kd.R_form HO_5.out (by omega); (first | cases eo17 | (injection eo17 with ea_ en_ ec_; (first | subst ea_ | (injection ea_ with ea_; subst ea_)); subst ec_; clear en_)); have GB17 := zk gb17; have GG17 := zk HG17; clear gb17 gl17 HG17; (first | simp only [add_plain] at hxa9_0 | skip); obtain ⟨hx17_0, hf17_0⟩ := Kd.R_celln 0 HO_5.out (ta8 : Int) p17 q17; replace p17 := eq_true p17; replace q17 := eq_true q17; obtain ⟨hy20_, hz20_⟩ := Kd.R_celln 0 HO_5.out (ta8 : Int) zd zd; have HP20 := Kd.R_putg HO_5.out (ta8 : Int) (wrap64 ((rd x5_1 ta8) + 1))) | ((with_reducible refine gate_store (t := 3) (p := 31) rfl ?_); refine store_event (t := 3) (p := 31) (v := ?vo_w21) (w1 := (wr.setCell ⟨go17, (ta8 : Int).toNat, none⟩ (.int .i64 (wrap64 ((rd x5_1 ta8) + 1))))) ?hg ?ho ?hn ?hr ?_; (case ho => rfl); (case hg => rfl); (case hn => rfl); (case hr => first | (go_simp; done) | (go_simp; rfl)); intro w21 hw; have hg : wr.grownBy w21 (some go17) := (by rw [hw]; exact HP20.2); have hp_ : Kd.R (Kd.int .i64) 3 w21 w.heap.size (fun k_ => some k_ ≠ (.slice Ao18 ya4.length co18 : Value).ownBlock) (.slice (some ⟨go17, 0, none⟩) x5_1.length co19) yb0 := (by rw [hw, Nyb0.out]; exact HP20.1); clear HP20; replace HO_5 := zk (hp_); replace HO_6 := zk (Kd.R_after (v := (.slice (some ⟨go17, 0, none⟩) x5_1.length co19)) (v1 := (.slice (some ⟨go17, 0, none⟩) x5_1.length co19)) (ok := (fun _ => True)) (by (with_reducible repeat (first | apply Kd.R_alloc | apply Kd.R_drewN | apply Kd.R_drew)); exact Kd.R_mono HO_6.out (fun _ hk => ⟨trivial, hk⟩)) hg (.inl rfl)); replace HB := zk ((by rw [hw]; exact below_set (HB.out) GB17.out : Below w.heap.size w w21)); clear hg hw hp_))
   go_roundg k1
   case measure => have := HK1.out; omega
   case rel => exact ⟨(yb0), (wrap64 (x7_1 + 1)), zF, H', ⟨zo1 HK1⟩, ⟨zR HO_5.out⟩, ⟨by (with_reducible repeat (first | apply Kd.R_alloc | apply Kd.R_drewN | apply Kd.R_drew)); exact Kd.R_mono HO_6.out (fun _ hk => hk.2)⟩, ⟨zB HB.out⟩⟩
 have H' := zk H
 clear H
 go_wp2
 go_loopg [8, 9] k1 (fun kq v8 v9 w' => ∃ (x8_2 : List (List Int)) (x9_2 : Int), v9 = .int .i64 x9_2 ∧ Aside0 (r24_Weights.l1 kq a0 x5_1 x8_2 x9_2 = some r) ∧ Aside0 (kq ≤ k1) ∧ Aside0 (Kd.R (Kd.int .i64) 3 w' w.heap.size (fun _ => True) va2 x5_1) ∧ Aside0 (Kd.S (Kd.slice 97 (Kd.int .u32)) 29 w' w.heap.size (fun _ => True) v8 x8_2) ∧ Aside0 (Below w.heap.size w w'))
 case atStart => exact ⟨(([] : List (List Int))), (0), zF, H', ⟨Nat.le_refl _⟩, ⟨by (with_reducible repeat (first | apply Kd.R_alloc | apply Kd.R_drewN | apply Kd.R_drew)); exact Kd.R_mono HO_5.out (fun _ hk => trivial)⟩, ⟨by first | exact Kd.S_nil _ _ _ _ _ | exact Kd.N_nil _ _ _ _ _ | exact Kd.V_nil _ _ _ _ _ | exact Kd.Q_nil _ _ _ _ _ | exact Kd.R_nil _ _ _ _ _⟩, ⟨zB HB.out⟩⟩
 clear H'
 (try clear c4);(try clear c4b0);(try clear c4b1);(try clear c5);(try clear c5b0);(try clear c5b1);(try clear c6);(try clear c6b0);(try clear c6b1);(try clear c7);(try clear c7b0);(try clear c7b1);(try clear c12b0);(try clear c13b0);(try clear c15b0);(try clear c16b0);(try clear p17);(try clear q17);(try clear hxa7_0);(try clear hxa9_0);(try clear hx17_0);(try clear pa7);(try clear pa9);(try clear qa7);(try clear qa9)
 obtain ⟨x8_2, x9_2, rfl, HA, HK2, HO_5, HO_8, HB⟩ := hrel
 cases gk with | zero => exact absurd HA.out (by simp [r24_Weights.l1]) | succ k2 => ?_
 have H := HA.out
 clear HA
 simp only [r24_Weights.l1] at H
 replace H := zid H
 rcases H with ⟨c22b0, H⟩ | ⟨c22b0, H⟩
 · replace H := zgd H
   obtain ⟨c23b0, H⟩ := H
   replace H := zgd H
   obtain ⟨c24b0, H⟩ := H
   replace H := zb H
   obtain ⟨tb2, A25, H⟩ := H
   replace H := zg H
   obtain ⟨c26, H⟩ := H
   have LMc26 := zk c26
   clear c26
   obtain ⟨yb5, hyb5⟩ : ∃ y_ : List (List Int), y_ = (x8_2 ++ [tb2]) := ⟨_, rfl⟩
   replace H : (r24_Weights.l1 k2 a0 x5_1 yb5 (wrap64 (x9_2 + 1))) = some r := zY hyb5 H
   have Nyb5 := zk hyb5
   clear hyb5
   have H' := zk H
   clear H
   obtain ⟨Ao27, co27, rfl⟩ := Kd.R_slice HO_5.out
   have pb1 : 0 ≤ (x9_2 : Int) := zd
   have qb1 : x9_2 < (x5_1.length : Int) := zd
   obtain ⟨adb1, eb1, hxb1_0⟩ := Kd.at_int (Kd.R_reads' HO_5.out).2.2 x9_2 pb1 qb1
   cases eb1
   replace pb1 := eq_true pb1
   replace qb1 := eq_true qb1
   go_wp2_with (first | ((with_reducible refine gC 23 ?_); refine zG (some 43) Try.func23 #[.int .u64 (IntKind.u64.wrap (rd x5_1 x9_2))] ?_; (with_reducible refine (r1_Of.calls k2 (IntKind.u64.wrap (rd x5_1 x9_2)) tb2 _ A25.out).mono ?_); rintro e w28 ⟨vb3, rfl, ho0, hb⟩; refine ⟨_, rfl, ?_⟩; replace HO_5 := yRb HO_5 hb; replace HO_8 := zk (Kd.S_elder' (zS HO_8.out) (Kd.R_base ho0) hb); have HOb4 := yRl ho0 HB; replace HB := yS HB hb; (try clear hb ho0); obtain ⟨Ao30, co30, rfl⟩ := Kd.R_slice HOb4.out) | ((with_reducible refine gate_builtin (b := .append) (xs := #[.tmp 37, .tmp 44]) rfl ?_); at_builtin; refine Kd.S_append (Kd.slice 97 (Kd.int .u32)) (w0 := w) w.heap.size rfl (.tmp 37) (.tmp 44) 33 29 (.slice none 0 0) 24 rfl Try.underlying33 info29 rfl (by decide) (by omega) u8 x8_2 tb2 [.slice Ao30 tb2.length co30] (fun _ => True) (fun k_ => some k_ = (.slice Ao30 tb2.length co30 : Value).ownBlock) rfl rfl ?aP (fun k_ hk_ => ((Kd.R_mono (ok' := fun k_ => ((fun _ => True)) k_ ∧ some k_ ≠ (u8 : Value).ownBlock) (Kd.R_apart' (HOb4.out) (Kd.S_typed HO_8.out) (by decide)) (fun k_ hk => ⟨trivial, hk.2⟩))).1 k_ hk_.symm) ?aF ?aO ?aB ?aS ?aL ?_; (case aP => exact Kd.M_row (Kd.R_mono (Kd.R_tight rfl (Kd.R_mono (ok' := fun k_ => ((fun _ => True)) k_ ∧ some k_ ≠ (u8 : Value).ownBlock) (Kd.R_apart' (HOb4.out) (Kd.S_typed HO_8.out) (by decide)) (fun k_ hk => ⟨trivial, hk.2⟩))) (fun _ h_ => h_))); (case aB => exact (zB HB.out)); (case aF => exact (fun _ _ => trivial)); (case aO => exact (by (with_reducible repeat (first | apply Kd.S_alloc | apply Kd.S_drewN | apply Kd.S_drew)); exact Kd.S_mono HO_8.out (fun k_ hk => ⟨trivial, fun e_ => hk.2 e_⟩))); (case aS => exact (below_size (zB HB.out))); (case aL => have := LMc26.out; omega); intro vb6 w29 ho hb hg hat; rw [← Nyb5.out] at ho; replace HO_5 := zk (Kd.R_over' (zR HO_5.out) (Kd.S_typed (zS HO_8.out)) (by decide) hg); replace HB := zk (hb); have HOb7 := zk (ho); clear HO_8 HOb4; clear ho hb hg hat))
   go_roundg k2
   case measure => have := HK1.out; have := HK2.out; omega
   case rel => exact ⟨(yb5), (wrap64 (x9_2 + 1)), zF, H', ⟨zo2 HK1 HK2⟩, ⟨zR HO_5.out⟩, ⟨zS HOb7.out⟩, ⟨zB HB.out⟩⟩
 obtain rfl := Option.some.inj H
 go_wp2
 go_ret
 exact ⟨_, by first | rfl | (simp [errW_none, errW_some] <;> rfl) | (simp only [← hji3]; first | rfl | (simp [errW_none, errW_some] <;> rfl)) | (simp [*, errW_none, errW_some] <;> rfl), zS HO_8.out, zB HB.out⟩
set_option maxHeartbeats 8000000 in
set_option maxRecDepth 100000 in
theorem nat_short.calls (k : Nat) (P0_ : Nat → Prop) (A0 : Option Addr) (c0 : Nat) (l0 : List Int) (r : List Int) (w : World) (hs0 : Kd.V (Kd.int .u32) 97 w w.heap.size (fun k_ => P0_ k_) (.slice A0 l0.length c0) l0) (h : nat_short.f k l0 = some r) :
    Calls Try.prog 118 #[.slice A0 l0.length c0] w fun e w' => ∃ v0_ : Value, e = .returned (v0_) ∧ Kd.V (Kd.int .u32) 97 w' w.heap.size (fun k_ => (P0_ k_ ∨ w.heap.size ≤ k_)) v0_ r ∧ Below w.heap.size w w' := by
 have HO0 := zk (show Kd.V (Kd.int .u32) 97 w w.heap.size (fun k_ => (P0_ k_ ∨ w.heap.size ≤ k_)) (.slice A0 l0.length c0) l0 from Kd.V_mono hs0 (fun k_ hk => .inl hk))
 have HB := zk (Below.refl w.heap.size w)
 have H := h
 clear h
 unfold nat_short.f at H
 have H' := zk H
 clear H
 go_enter Try.func118, Try.ntmps118
 go_wp2
 go_loopg [3] k (fun kq v3 w' => ∃ (x3_1 : Int), v3 = .int .i64 x3_1 ∧ Aside0 (nat_short.l0 kq l0 x3_1 = some r) ∧ Aside0 (kq ≤ k) ∧ Aside0 (Kd.V (Kd.int .u32) 97 w' w.heap.size (fun k_ => (P0_ k_ ∨ w.heap.size ≤ k_)) (.slice A0 l0.length c0) l0) ∧ Aside0 (Below w.heap.size w w'))
 case atStart => exact ⟨((l0.length : Int)), zF, H', ⟨Nat.le_refl _⟩, ⟨zV HO0.out⟩, ⟨zB HB.out⟩⟩
 clear H'
 obtain ⟨x3_1, rfl, HA, HK1, HO_0, HB⟩ := hrel
 cases gk with | zero => exact absurd HA.out (by simp [nat_short.l0]) | succ k1 => ?_
 have H := HA.out
 clear HA
 simp only [nat_short.l0] at H
 replace H := zi H
 rcases H with ⟨c2, H⟩ | ⟨c2, H⟩
 · have c2b0 : decide (0 < x3_1) = true := decide_eq_true c2
   clear c2
   obtain ⟨ji3, hji3⟩ : ∃ j_ : Int, (wrap64 (x3_1 - 1)) = j_ := ⟨_, rfl⟩
   replace H : (if 0 ≤ (ji3) then (if (ji3) < (l0.length : Int) then (if (rd l0 (ji3)) = 0 then (nat_short.l0 k1 l0 ji3) else (if 0 ≤ x3_1 then (if x3_1 ≤ (l0.length : Int) then (some (l0.take (x3_1 : Int).toNat)) else (none)) else (none))) else (none)) else (none)) = some r := by first | (rw [hji3] at H; exact H) | (simp only [hji3] at H ⊢; exact H)
   have hji3w : (IntKind.i64.wrap (x3_1 - 1)) = ji3 := (i64_w _).trans hji3
   replace H := zgd H
   obtain ⟨c4b0, H⟩ := H
   replace H := zgd H
   obtain ⟨c5b0, H⟩ := H
   replace H := zi H
   rcases H with ⟨c6, H⟩ | ⟨c6, H⟩
   · have c6b0 := beq_iff_eq.mpr c6
     have c6b1 := bne_eq_false_iff_eq.mpr c6
     clear c6
     have H' := zk H
     clear H
     have pa1 : 0 ≤ ((ji3) : Int) := zd
     have qa1 : (ji3) < (l0.length : Int) := zd
     obtain ⟨ada1, ea1, hxa1_0⟩ := Kd.at_int (Kd.V_reads' HO_0.out).2.2 (ji3) pa1 qa1
     cases ea1
     replace pa1 := eq_true pa1
     replace qa1 := eq_true qa1
     go_wp2
     go_roundg k1
     case measure => have := HK1.out; omega
     case rel => exact ⟨(ji3), (by first | rfl | (simp; done) | (simp only [← hji3] <;> (first | rfl | simp)) | (simp [*]; done)), H', ⟨zo1 HK1⟩, ⟨zV HO_0.out⟩, ⟨zB HB.out⟩⟩
   have c6b0 := beq_eq_false_iff_ne.mpr c6
   have c6b1 := bne_iff_ne.mpr c6
   replace H := zg H
   obtain ⟨c7, H⟩ := H
   have c7b0 := eq_true c7
   have c7b1 := decide_eq_true c7
   clear c7
   replace H := zg H
   obtain ⟨c8, H⟩ := H
   have c8b0 := eq_true c8
   have c8b1 := decide_eq_true c8
   clear c8
   obtain ⟨ya2, hya2⟩ : ∃ y_ : List Int, y_ = (l0.take (x3_1 : Int).toNat) := ⟨_, rfl⟩
   replace H : (some ya2) = some r := zY hya2 H
   have Nya2 := zk hya2
   clear hya2
   obtain rfl := Option.some.inj H
   have pa1 : 0 ≤ ((ji3) : Int) := zd
   have qa1 : (ji3) < (l0.length : Int) := zd
   obtain ⟨ada1, ea1, hxa1_0⟩ := Kd.at_int (Kd.V_reads' HO_0.out).2.2 (ji3) pa1 qa1
   cases ea1
   replace pa1 := eq_true pa1
   replace qa1 := eq_true qa1
   have q9 : (x3_1 : Int) ≤ ((l0.length : Int) : Int) := zd
   obtain ⟨i09, hi09, _, hsz9, _⟩ := info_parts info97
   have hroom9 : l0.length ≤ c0 := (Kd.V_reads' HO_0.out).2.1
   have hC9 : Kd.F (Kd.int .u32) _ _ (some ada1) l0.length l0 := (Kd.V_at (base := w.heap.size) HO_0.out).2.2
   have hcut9 := Mw.cut_to_max (P := Try.prog) 29 97 .i64 Try.underlying29 hi09 (some ada1) l0.length c0 x3_1 zd q9 hroom9
   have hr9 := Kd.F_take (m := (x3_1 : Int).toNat) hC9 (by omega)
   have hy9 : ya2.length = (x3_1 : Int).toNat := (by rw [Nya2.out, List.length_take]; omega)
   rw [← Nya2.out] at hr9
   rw [← hy9] at hcut9
   have HOa6 := zk (show Kd.V (Kd.int .u32) 97 _ w.heap.size _ (.slice (some ada1) ya2.length ya2.length) ya2 from Kd.V_mk (by omega) hr9)
   have HCa6 := zk (show ya2.length ≤ ya2.length from by omega)
   clear hr9 hC9 hroom9 hi09 hsz9
   have KY9 := zk hy9
   clear hy9
   replace q9 := eq_true q9
   go_wp2
   go_ret
   exact ⟨_, by first | rfl | (simp [errW_none, errW_some] <;> rfl) | (simp only [← hji3]; first | rfl | (simp [errW_none, errW_some] <;> rfl)) | (simp [*, errW_none, errW_some] <;> rfl), zV HOa6.out, zB HB.out⟩
 have c2b0 : decide (0 < x3_1) = false := decide_eq_false c2
 clear c2
 replace H := zg H
 obtain ⟨c10, H⟩ := H
 have c10b0 := eq_true c10
 have c10b1 := decide_eq_true c10
 clear c10
 replace H := zg H
 obtain ⟨c11, H⟩ := H
 have c11b0 := eq_true c11
 have c11b1 := decide_eq_true c11
 clear c11
 obtain ⟨ya7, hya7⟩ : ∃ y_ : List Int, y_ = (l0.take (x3_1 : Int).toNat) := ⟨_, rfl⟩
 replace H : (some ya7) = some r := zY hya7 H
 have Nya7 := zk hya7
 clear hya7
 obtain rfl := Option.some.inj H
 have q12 : (x3_1 : Int) ≤ ((l0.length : Int) : Int) := zd
 obtain ⟨i012, hi012, _, hsz12, _⟩ := info_parts info97
 have hroom12 : l0.length ≤ c0 := (Kd.V_reads' HO_0.out).2.1
 have hC12 : Kd.F (Kd.int .u32) _ _ A0 l0.length l0 := (Kd.V_at (base := w.heap.size) HO_0.out).2.2
 have hcut12 := Mw.cut_to_max (P := Try.prog) 29 97 .i64 Try.underlying29 hi012 A0 l0.length c0 x3_1 zd q12 hroom12
 have hr12 := Kd.F_take (m := (x3_1 : Int).toNat) hC12 (by omega)
 have hy12 : ya7.length = (x3_1 : Int).toNat := (by rw [Nya7.out, List.length_take]; omega)
 rw [← Nya7.out] at hr12
 rw [← hy12] at hcut12
 have HOb1 := zk (show Kd.V (Kd.int .u32) 97 _ w.heap.size _ (.slice A0 ya7.length ya7.length) ya7 from Kd.V_mk (by omega) hr12)
 have HCb1 := zk (show ya7.length ≤ ya7.length from by omega)
 clear hr12 hC12 hroom12 hi012 hsz12
 have KY12 := zk hy12
 clear hy12
 replace q12 := eq_true q12
 go_wp2
 go_ret
 exact ⟨_, zE, zV HOb1.out, zB HB.out⟩
set_option maxHeartbeats 8000000 in
set_option maxRecDepth 100000 in
theorem nat_Trim.calls (k : Nat) (A0 : Option Addr) (c0 : Nat) (l0 : List Int) (r : List Int) (w : World) (hr0 : Kd.C (Kd.int .u32) w A0 l0.length l0) (hc0 : l0.length ≤ c0) (h : nat_Trim.f k l0 = some r) :
    Calls Try.prog 103 #[.slice A0 l0.length c0] w fun e w' => ∃ v0_ : Value, e = .returned (v0_) ∧ Kd.R (Kd.int .u32) 97 w' w.heap.size (fun _ => True) v0_ r ∧ Below w.heap.size w w' := by
 have HR0 := zk hr0
 have HC0 := zk hc0
 clear hr0 hc0
 have HB := zk (Below.refl w.heap.size w)
 have H := h
 clear h
 unfold nat_Trim.f at H
 replace H := zb H
 obtain ⟨ta1, A2, H⟩ := H
 replace H := zg H
 obtain ⟨c3, H⟩ := H
 have LMc3 := zk c3
 clear c3
 obtain ⟨ya4, hya4⟩ : ∃ y_ : List Int, y_ = (([] : List Int) ++ ta1) := ⟨_, rfl⟩
 replace H : (some ya4) = some r := zY hya4 H
 have Nya4 := zk hya4
 clear hya4
 obtain rfl := Option.some.inj H
 go_enter Try.func103, Try.ntmps103
 go_wp2_with (first | ((with_reducible refine gC 118 ?_); refine zG (some 4) Try.func118 #[.slice A0 l0.length c0] ?_; (with_reducible refine (nat_short.calls k (fun k_ => k_ < w.heap.size) _ _ l0 ta1 _ ?side1 A2.out).mono ?_); (case side1 => exact Kd.V_mk HC0.out (Kd.F_below (Kd.C_F (Kd.heap_int .u32) HR0.out) (zB HB.out))); rintro e w4 ⟨va2, rfl, ho0, hb⟩; refine ⟨_, rfl, ?_⟩; have HOa3 := yVm ho0 HB; replace HB := yS HB hb; (try clear hb ho0); obtain ⟨Ao6, co6, rfl⟩ := Kd.V_slice HOa3.out) | ((with_reducible refine gate_builtin (b := .append) (xs := #[.const (.slice none 0 0), .tmp 4]) rfl ?_); at_builtin; refine Kd.R_append_rows (Kd.int .u32) (w0 := w) w.heap.size rfl (.const (.slice none 0 0)) (.tmp 4) 29 97 (.int .u32 0) 4 rfl Try.underlying29 info97 rfl (by decide) (by omega) (.slice none 0 0) ([] : List Int) ta1 _ _ _ (fun _ => True) (fun _ => False) rfl rfl ?aO ?aR (fun _ _ h => h) (fun _ h => h.elim) ?aF ?aB ?aS ?aL ?_; (case aR => repeat (first | exact (Kd.V_reads' HOa3.out).2.2 | (with_reducible refine Kd.C_alloc ?_ _) | (with_reducible refine Kd.C_drewN ?_ _) | (with_reducible refine Kd.C_drew ?_))); (case aB => exact (zB HB.out)); (case aF => exact (fun _ _ => trivial)); (case aO => exact ((Kd.R_nil _ _ _ _ (fun _ => True)))); (case aS => exact (below_size (zB HB.out))); (case aL => have := LMc3.out; omega); intro va5 w5 ho hb hg hat; rw [← Nya4.out] at ho; replace HOa3 := zk (Kd.V_afterv (Kd.V_apart_nil (zV HOa3.out)) hg hat); replace HB := zk (hb); have HOa6 := zk (ho); clear ho hb hg hat))
 go_ret
 exact ⟨_, zE, zR HOa6.out, zB HB.out⟩
set_option maxHeartbeats 8000000 in
set_option maxRecDepth 100000 in
theorem nat_plus.calls (k : Nat) (P0_ : Nat → Prop) (A0 : Option Addr) (c0 : Nat) (l0 : List Int) (P1_ : Nat → Prop) (A1 : Option Addr) (c1 : Nat) (l1 : List Int) (r : List Int) (w : World) (hs0 : Kd.V (Kd.int .u32) 97 w w.heap.size (fun k_ => P0_ k_) (.slice A0 l0.length c0) l0) (hs1 : Kd.V (Kd.int .u32) 97 w w.heap.size (fun k_ => P1_ k_) (.slice A1 l1.length c1) l1) (h : nat_plus.f k l0 l1 = some r) :
    Calls Try.prog 117 #[.slice A0 l0.length c0, .slice A1 l1.length c1] w fun e w' => ∃ v0_ : Value, e = .returned (v0_) ∧ Kd.V (Kd.int .u32) 97 w' w.heap.size (fun k_ => ((P0_ k_ ∨ P1_ k_) ∨ w.heap.size ≤ k_)) v0_ r ∧ Below w.heap.size w w' := by
 have HO0 := zk (show Kd.V (Kd.int .u32) 97 w w.heap.size (fun k_ => ((P0_ k_ ∨ P1_ k_) ∨ w.heap.size ≤ k_)) (.slice A0 l0.length c0) l0 from Kd.V_mono hs0 (fun k_ hk => .inl (.inl hk)))
 have HO1 := zk (show Kd.V (Kd.int .u32) 97 w w.heap.size (fun k_ => ((P0_ k_ ∨ P1_ k_) ∨ w.heap.size ≤ k_)) (.slice A1 l1.length c1) l1 from Kd.V_mono hs1 (fun k_ hk => .inl (.inr hk)))
 have HB := zk (Below.refl w.heap.size w)
 have H := h
 clear h
 unfold nat_plus.f at H
 have HC3 := zk H
 clear H
 go_enter Try.func117, Try.ntmps117
 go_upto_if 13 with (fail)
 go_cut [0, 1] (fun v0 v1 wc => ∃ (kq : Nat) (x0_2 : List Int) (x1_2 : List Int), Aside0 (nat_plus.j0 kq x0_2 x1_2 = some r) ∧ Aside0 (kq ≤ k) ∧ Aside0 (Kd.V (Kd.int .u32) 97 wc w.heap.size (fun k_ => ((P0_ k_ ∨ P1_ k_) ∨ w.heap.size ≤ k_)) v0 x0_2) ∧ Aside0 (Kd.V (Kd.int .u32) 97 wc w.heap.size (fun k_ => ((P0_ k_ ∨ P1_ k_) ∨ w.heap.size ≤ k_)) v1 x1_2) ∧ Aside0 (Below w.heap.size w wc))
 case first =>
  have H := HC3.out
  clear HC3
  replace H := zi H
  rcases H with ⟨c4, H⟩ | ⟨c4, H⟩
  · have c4b0 := decide_eq_true c4
    have c4b1 : decide (l0.length < l1.length) = true := decide_eq_true (Int.ofNat_lt.mp c4)
    clear c4
    (first | rw [c4b0] | (simp only [i64_w, i32_w]; rw [c4b0]) | rw [c4b1] | skip)
    have H' := zk H
    clear H
    go_wp2
    go_meet
    case rel => exact ⟨_, (l1), (l0), H', ⟨zO⟩, ⟨zV HO1.out⟩, ⟨zV HO0.out⟩, ⟨zB HB.out⟩⟩
  have c4b0 := decide_eq_false c4
  have c4b1 : decide (l0.length < l1.length) = false := decide_eq_false (fun h => c4 (Int.ofNat_lt.mpr h))
  clear c4
  (first | rw [c4b0] | (simp only [i64_w, i32_w]; rw [c4b0]) | rw [c4b1] | skip)
  have H' := zk H
  clear H
  go_wp2
  go_meet
  case rel => exact ⟨_, (l0), (l1), H', ⟨zO⟩, ⟨zV HO0.out⟩, ⟨zV HO1.out⟩, ⟨zB HB.out⟩⟩
 clear HC3
 (try clear c4);(try clear c4b0);(try clear c4b1)
 obtain ⟨kq, x0_2, x1_2, HA, HJ2, HO_0, HO_1, HB⟩ := hcut
 cases kq with | zero => exact absurd HA.out (by simp [nat_plus.j0]) | succ kj2 => ?_
 have H := HA.out
 clear HA
 simp only [nat_plus.j0] at H
 obtain ⟨ji5, hji5⟩ : ∃ j_ : Int, (wrap64 ((x0_2.length : Int) + 1)) = j_ := ⟨_, rfl⟩
 replace H : (if 0 ≤ (ji5) then (if (ji5 : Int).toNat ≤ 70368744177664 then (nat_plus.l0 kj2 x0_2 x1_2 (List.replicate (ji5 : Int).toNat 0) 0 (x0_2.length : Int) 0) else (none)) else (none)) = some r := by first | (rw [hji5] at H; exact H) | (simp only [hji5] at H ⊢; exact H)
 have hji5w : (IntKind.i64.wrap ((x0_2.length : Int) + 1)) = ji5 := (i64_w _).trans hji5
 replace H := zg H
 obtain ⟨c6, H⟩ := H
 have c6b0 := eq_true c6
 have c6b1 := decide_eq_true c6
 clear c6
 replace H := zg H
 obtain ⟨c7, H⟩ := H
 have c7b0 := eq_true c7
 have c7b1 := decide_eq_true c7
 clear c7
 obtain ⟨ya1, hya1⟩ : ∃ y_ : List Int, y_ = (List.replicate (ji5 : Int).toNat 0) := ⟨_, rfl⟩
 replace H : (nat_plus.l0 kj2 x0_2 x1_2 ya1 0 (x0_2.length : Int) 0) = some r := zY hya1 H
 have Nya1 := zk hya1
 clear hya1
 have H' := zk H
 clear H
 obtain ⟨Ao8, co8, rfl⟩ := Kd.V_slice HO_0.out
 go_wp2_with (first | ((with_reducible refine gate_dst (N := 19) rfl ?_); refine Kd.R_make (Kd.int .u32) _ 97 rfl (N := 19) rfl 29 _ _ rfl ji5 rfl rfl Try.underlying29 (.int .u32 0) 4 info97 rfl (by decide) (by omega) 0 (ok := fun _ => True) (okp := fun _ => True) rfl (fun _ hk => hk) trivial zd (Nat.le_trans (Nat.mul_le_mul_right _ (zd : ji5.toNat ≤ 70368744177664)) (by omega)) (Below.refl _ _) (Nat.le_refl _) ?_; intro va2 w9 ho10 hb hg_ hnew_; clear hg_ hnew_; (first | rw [← Nya1.out] at ho10 | (simp only [Int.reduceToNat] at ho10; rw [← Nya1.out] at ho10)); replace HO_0 := yVe HO_0 ho10 hb; replace HO_1 := yVe HO_1 ho10 hb; replace ho10 := Kd.R_newM (M := fun k_ => (w.heap.size ≤ k_)) ho10 (below_size (zB HB.out)) (fun k_ h_ => h_); have HOa3 := yRl ho10 HB; replace HB := yS HB hb; clear hb ho10))
 go_loopg [6, 22] kj2 (fun kq v6 v22 w' => ∃ (x5_2 : List Int) (x6_2 : Int) (x22_2 : Int), v6 = .int .u64 x6_2 ∧ v22 = .int .i64 x22_2 ∧ Aside0 (nat_plus.l0 kq x0_2 x1_2 x5_2 x6_2 (x0_2.length : Int) x22_2 = some r) ∧ Aside0 (kq ≤ kj2) ∧ Aside0 (Kd.V (Kd.int .u32) 97 w' w.heap.size (fun k_ => ((P0_ k_ ∨ P1_ k_) ∨ w.heap.size ≤ k_) ∧ some k_ ≠ (va2 : Value).ownBlock) (.slice Ao8 x0_2.length co8) x0_2) ∧ Aside0 (Kd.V (Kd.int .u32) 97 w' w.heap.size (fun k_ => ((P0_ k_ ∨ P1_ k_) ∨ w.heap.size ≤ k_) ∧ some k_ ≠ (va2 : Value).ownBlock) u1 x1_2) ∧ Aside0 (Kd.R (Kd.int .u32) 97 w' w.heap.size (fun k_ => (w.heap.size ≤ k_)) va2 x5_2) ∧ Aside0 (Below w.heap.size w w'))
 case atStart => exact ⟨(ya1), (0), (0), zF, zF, H', ⟨Nat.le_refl _⟩, ⟨zV HO_0.out⟩, ⟨zV HO_1.out⟩, ⟨by (with_reducible repeat (first | apply Kd.R_alloc | apply Kd.R_drewN | apply Kd.R_drew)); exact Kd.R_mono HOa3.out (fun _ hk => hk.1)⟩, ⟨zB HB.out⟩⟩
 clear H'
 (try clear c4);(try clear c4b0);(try clear c4b1);(try clear c6);(try clear c6b0);(try clear c6b1);(try clear c7);(try clear c7b0);(try clear c7b1)
 obtain ⟨x5_2, x6_2, x22_2, rfl, rfl, HA, HK2, HO_0, HO_1, HO_5, HB⟩ := hrel
 cases gk with | zero => exact absurd HA.out (by simp [nat_plus.l0]) | succ k2 => ?_
 have H := HA.out
 clear HA
 simp only [nat_plus.l0] at H
 replace H := zid H
 rcases H with ⟨c11b0, H⟩ | ⟨c11b0, H⟩
 · replace H := zgd H
   obtain ⟨c12b0, H⟩ := H
   replace H := zgd H
   obtain ⟨c13b0, H⟩ := H
   replace H := zid H
   rcases H with ⟨c14b0, H⟩ | ⟨c14b0, H⟩
   · replace H := zgd H
     obtain ⟨c15b0, H⟩ := H
     obtain ⟨ya6, hya6⟩ : ∃ y_ : List Int, y_ = (x5_2.set (x22_2 : Int).toNat ((IntKind.u64.wrap ((IntKind.u64.wrap ((IntKind.u64.wrap (rd x0_2 x22_2)) + x6_2)) + (IntKind.u64.wrap (rd x1_2 x22_2)))) % 4294967296)) := ⟨_, rfl⟩
     replace H : (nat_plus.l0 k2 x0_2 x1_2 ya6 ((IntKind.u64.wrap ((IntKind.u64.wrap ((IntKind.u64.wrap (rd x0_2 x22_2)) + x6_2)) + (IntKind.u64.wrap (rd x1_2 x22_2)))) / 4294967296) (x0_2.length : Int) (wrap64 (x22_2 + 1))) = some r := zY hya6 H
     have Nya6 := zk hya6
     clear hya6
     have H' := zk H
     clear H
     have pa4 : 0 ≤ (x22_2 : Int) := zd
     have qa4 : x22_2 < (x0_2.length : Int) := zd
     obtain ⟨ada4, ea4, hxa4_0⟩ := Kd.at_int (Kd.V_reads' HO_0.out).2.2 x22_2 pa4 qa4
     cases ea4
     replace pa4 := eq_true pa4
     replace qa4 := eq_true qa4
     obtain ⟨Ao17, co17, rfl⟩ := Kd.V_slice HO_1.out
     have pa5 : 0 ≤ (x22_2 : Int) := zd
     have qa5 : x22_2 < (x1_2.length : Int) := zd
     obtain ⟨ada5, ea5, hxa5_0⟩ := Kd.at_int (Kd.V_reads' HO_1.out).2.2 x22_2 pa5 qa5
     cases ea5
     replace pa5 := eq_true pa5
     replace qa5 := eq_true qa5
     have p16 : 0 ≤ (x22_2 : Int) := zd
     have q16 : (x22_2 : Int) < ((x5_2.length : Int) : Int) := zd
     obtain ⟨go16, co16, eo16, gb16, gl16, cl16, HG16⟩ := Kd.R_form HO_5.out (by omega)
     (first | cases eo16 | (injection eo16 with ea_ en_ ec_; (first | subst ea_ | (injection ea_ with ea_; subst ea_)); subst ec_; clear en_))
     have GB16 := zk gb16
     have GG16 := zk HG16
     clear gb16 gl16 HG16
     obtain ⟨hx16_0, hf16_0⟩ := Kd.R_celln 0 HO_5.out (x22_2 : Int) p16 q16
     replace p16 := eq_true p16
     replace q16 := eq_true q16
     have HP18 := Kd.R_putg HO_5.out (x22_2 : Int) ((IntKind.u64.wrap ((IntKind.u64.wrap ((IntKind.u64.wrap (rd x0_2 x22_2)) + x6_2)) + (IntKind.u64.wrap (rd x1_2 x22_2)))) % 4294967296)
     go_wp2_with (first | ((with_reducible refine gate_store (t := 97) (p := 47) rfl ?_); refine store_event (t := 97) (p := 47) (v := ?vo_w19) (w1 := (wr.setCell ⟨go16, (x22_2 : Int).toNat, none⟩ (.int .u32 ((IntKind.u64.wrap ((IntKind.u64.wrap ((IntKind.u64.wrap (rd x0_2 x22_2)) + x6_2)) + (IntKind.u64.wrap (rd x1_2 x22_2)))) % 4294967296)))) ?hg ?ho ?hn ?hr ?_; (case ho => rfl); (case hg => rfl); (case hn => rfl); (case hr => first | (go_simp; done) | (go_simp; rfl)); intro w19 hw; have hg : wr.grownBy w19 (some go16) := (by rw [hw]; exact HP18.2); have hp_ : Kd.R (Kd.int .u32) 97 w19 w.heap.size (fun k_ => (w.heap.size ≤ k_)) (.slice (some ⟨go16, 0, none⟩) x5_2.length co16) ya6 := (by rw [hw, Nya6.out]; exact HP18.1); clear HP18; replace HO_0 := zk (Kd.V_afterv (v := (.slice (some ⟨go16, 0, none⟩) x5_2.length co16)) (v1 := (.slice (some ⟨go16, 0, none⟩) x5_2.length co16)) (ok := (fun k_ => ((P0_ k_ ∨ P1_ k_) ∨ w.heap.size ≤ k_))) (zV HO_0.out) hg (.inl rfl)); replace HO_1 := zk (Kd.V_afterv (v := (.slice (some ⟨go16, 0, none⟩) x5_2.length co16)) (v1 := (.slice (some ⟨go16, 0, none⟩) x5_2.length co16)) (ok := (fun k_ => ((P0_ k_ ∨ P1_ k_) ∨ w.heap.size ≤ k_))) (zV HO_1.out) hg (.inl rfl)); replace HO_5 := zk (hp_); replace HB := zk ((by rw [hw]; exact below_set (HB.out) GB16.out : Below w.heap.size w w19)); clear hg hw hp_))
     go_roundg k2
     case measure => have := HJ2.out; have := HK2.out; omega
     case rel => exact ⟨(ya6), ((IntKind.u64.wrap ((IntKind.u64.wrap ((IntKind.u64.wrap (rd x0_2 x22_2)) + x6_2)) + (IntKind.u64.wrap (rd x1_2 x22_2)))) / 4294967296), (wrap64 (x22_2 + 1)), zF, zF, H', ⟨zo2 HJ2 HK2⟩, ⟨zV HO_0.out⟩, ⟨zV HO_1.out⟩, ⟨zR HO_5.out⟩, ⟨zB HB.out⟩⟩
   replace H := zgd H
   obtain ⟨c20b0, H⟩ := H
   obtain ⟨ya7, hya7⟩ : ∃ y_ : List Int, y_ = (x5_2.set (x22_2 : Int).toNat ((IntKind.u64.wrap ((IntKind.u64.wrap (rd x0_2 x22_2)) + x6_2)) % 4294967296)) := ⟨_, rfl⟩
   replace H : (nat_plus.l0 k2 x0_2 x1_2 ya7 ((IntKind.u64.wrap ((IntKind.u64.wrap (rd x0_2 x22_2)) + x6_2)) / 4294967296) (x0_2.length : Int) (wrap64 (x22_2 + 1))) = some r := zY hya7 H
   have Nya7 := zk hya7
   clear hya7
   have H' := zk H
   clear H
   have pa4 : 0 ≤ (x22_2 : Int) := zd
   have qa4 : x22_2 < (x0_2.length : Int) := zd
   obtain ⟨ada4, ea4, hxa4_0⟩ := Kd.at_int (Kd.V_reads' HO_0.out).2.2 x22_2 pa4 qa4
   cases ea4
   replace pa4 := eq_true pa4
   replace qa4 := eq_true qa4
   obtain ⟨Ao22, co22, rfl⟩ := Kd.V_slice HO_1.out
   have p21 : 0 ≤ (x22_2 : Int) := zd
   have q21 : (x22_2 : Int) < ((x5_2.length : Int) : Int) := zd
   obtain ⟨go21, co21, eo21, gb21, gl21, cl21, HG21⟩ := Kd.R_form HO_5.out (by omega)
   (first | cases eo21 | (injection eo21 with ea_ en_ ec_; (first | subst ea_ | (injection ea_ with ea_; subst ea_)); subst ec_; clear en_))
   have GB21 := zk gb21
   have GG21 := zk HG21
   clear gb21 gl21 HG21
   obtain ⟨hx21_0, hf21_0⟩ := Kd.R_celln 0 HO_5.out (x22_2 : Int) p21 q21
   replace p21 := eq_true p21
   replace q21 := eq_true q21
   have HP23 := Kd.R_putg HO_5.out (x22_2 : Int) ((IntKind.u64.wrap ((IntKind.u64.wrap (rd x0_2 x22_2)) + x6_2)) % 4294967296)
   go_wp2_with (first | ((with_reducible refine gate_store (t := 97) (p := 47) rfl ?_); refine store_event (t := 97) (p := 47) (v := ?vo_w24) (w1 := (wr.setCell ⟨go21, (x22_2 : Int).toNat, none⟩ (.int .u32 ((IntKind.u64.wrap ((IntKind.u64.wrap (rd x0_2 x22_2)) + x6_2)) % 4294967296)))) ?hg ?ho ?hn ?hr ?_; (case ho => rfl); (case hg => rfl); (case hn => rfl); (case hr => first | (go_simp; done) | (go_simp; rfl)); intro w24 hw; have hg : wr.grownBy w24 (some go21) := (by rw [hw]; exact HP23.2); have hp_ : Kd.R (Kd.int .u32) 97 w24 w.heap.size (fun k_ => (w.heap.size ≤ k_)) (.slice (some ⟨go21, 0, none⟩) x5_2.length co21) ya7 := (by rw [hw, Nya7.out]; exact HP23.1); clear HP23; replace HO_0 := zk (Kd.V_afterv (v := (.slice (some ⟨go21, 0, none⟩) x5_2.length co21)) (v1 := (.slice (some ⟨go21, 0, none⟩) x5_2.length co21)) (ok := (fun k_ => ((P0_ k_ ∨ P1_ k_) ∨ w.heap.size ≤ k_))) (zV HO_0.out) hg (.inl rfl)); replace HO_1 := zk (Kd.V_afterv (v := (.slice (some ⟨go21, 0, none⟩) x5_2.length co21)) (v1 := (.slice (some ⟨go21, 0, none⟩) x5_2.length co21)) (ok := (fun k_ => ((P0_ k_ ∨ P1_ k_) ∨ w.heap.size ≤ k_))) (zV HO_1.out) hg (.inl rfl)); replace HO_5 := zk (hp_); replace HB := zk ((by rw [hw]; exact below_set (HB.out) GB21.out : Below w.heap.size w w24)); clear hg hw hp_))
   go_roundg k2
   case measure => have := HJ2.out; have := HK2.out; omega
   case rel => exact ⟨(ya7), ((IntKind.u64.wrap ((IntKind.u64.wrap (rd x0_2 x22_2)) + x6_2)) / 4294967296), (wrap64 (x22_2 + 1)), zF, zF, H', ⟨zo2 HJ2 HK2⟩, ⟨zV HO_0.out⟩, ⟨zV HO_1.out⟩, ⟨zR HO_5.out⟩, ⟨zB HB.out⟩⟩
 replace H := zg H
 obtain ⟨c25, H⟩ := H
 have c25b0 := decide_eq_true c25
 have c25b1 : decide (0 ≤ x0_2.length) = true := decide_eq_true (by omega)
 clear c25
 replace H := zg H
 obtain ⟨c26, H⟩ := H
 have c26b0 := decide_eq_true c26
 have c26b1 : decide (x0_2.length < x5_2.length) = true := decide_eq_true (Int.ofNat_lt.mp c26)
 clear c26
 obtain ⟨ya8, hya8⟩ : ∃ y_ : List Int, y_ = (x5_2.set ((x0_2.length : Int) : Int).toNat ((x6_2) % 4294967296)) := ⟨_, rfl⟩
 replace H : ((nat_short.f k2 ya8).bind fun ta9 => (some ta9)) = some r := zY hya8 H
 have Nya8 := zk hya8
 clear hya8
 replace H := zb H
 obtain ⟨ta9, A28, H⟩ := H
 obtain rfl := Option.some.inj H
 have p27 : 0 ≤ ((x0_2.length : Int) : Int) := zd
 have q27 : ((x0_2.length : Int) : Int) < ((x5_2.length : Int) : Int) := zd
 obtain ⟨go27, co27, eo27, gb27, gl27, cl27, HG27⟩ := Kd.R_form HO_5.out (by omega)
 (first | cases eo27 | (injection eo27 with ea_ en_ ec_; (first | subst ea_ | (injection ea_ with ea_; subst ea_)); subst ec_; clear en_))
 have GB27 := zk gb27
 have GG27 := zk HG27
 clear gb27 gl27 HG27
 obtain ⟨hx27_0, hf27_0⟩ := Kd.R_celln 0 HO_5.out ((x0_2.length : Int) : Int) p27 q27
 replace p27 := eq_true p27
 replace q27 := eq_true q27
 obtain ⟨hy29_, hz29_⟩ := Kd.R_celln 0 HO_5.out ((x0_2.length : Int) : Int) zd zd
 (try simp only [Go.IntWalk.toNatUp] at hy29_ hz29_)
 have HP29 := Kd.R_putg HO_5.out ((x0_2.length : Int) : Int) ((x6_2) % 4294967296)
 go_wp2_with (first | ((with_reducible refine gate_store (t := 97) (p := 56) rfl ?_); refine store_event (t := 97) (p := 56) (v := ?vo_w30) (w1 := (wr.setCell ⟨go27, ((x0_2.length : Int) : Int).toNat, none⟩ (.int .u32 ((x6_2) % 4294967296)))) ?hg ?ho ?hn ?hr ?_; (case ho => rfl); (case hg => rfl); (case hn => rfl); (case hr => first | (go_simp; done) | (go_simp; rfl)); intro w30 hw; have hg : wr.grownBy w30 (some go27) := (by rw [hw]; exact HP29.2); have hp_ : Kd.R (Kd.int .u32) 97 w30 w.heap.size (fun k_ => (w.heap.size ≤ k_)) (.slice (some ⟨go27, 0, none⟩) x5_2.length co27) ya8 := (by rw [hw, Nya8.out]; exact HP29.1); clear HP29; replace HO_0 := zk (Kd.V_afterv (v := (.slice (some ⟨go27, 0, none⟩) x5_2.length co27)) (v1 := (.slice (some ⟨go27, 0, none⟩) x5_2.length co27)) (ok := (fun k_ => ((P0_ k_ ∨ P1_ k_) ∨ w.heap.size ≤ k_))) (zV HO_0.out) hg (.inl rfl)); replace HO_1 := zk (Kd.V_afterv (v := (.slice (some ⟨go27, 0, none⟩) x5_2.length co27)) (v1 := (.slice (some ⟨go27, 0, none⟩) x5_2.length co27)) (ok := (fun k_ => ((P0_ k_ ∨ P1_ k_) ∨ w.heap.size ≤ k_))) (zV HO_1.out) hg (.inl rfl)); replace HO_5 := zk (hp_); replace HB := zk ((by rw [hw]; exact below_set (HB.out) GB27.out : Below w.heap.size w w30)); clear hg hw hp_) | ((with_reducible refine gC 118 ?_); refine goesL_ (some 58) rfl rfl Try.func118 (by kernel_rfl) rfl #[.slice (some ⟨go27, 0, none⟩) ya8.length co27] rfl (by (try simp only [List.map_toArray, List.map_cons, List.map_nil]); first | done | (rw [show ya8.length = x5_2.length from (Kd.R_reads' HO_5.out).1.symm] <;> rfl) | rfl | (simp only [List.length_drop, List.length_take]; rfl)) ?_; (with_reducible refine (nat_short.calls k2 (fun k_ => some k_ = (.slice (some ⟨go27, 0, none⟩) x5_2.length co27 : Value).ownBlock) _ _ ya8 ta9 _ ?side1 A28.out).mono ?_); (case side1 => rw [show ya8.length = x5_2.length from (Kd.R_reads' HO_5.out).1.symm]; exact Kd.R_V (Kd.R_tight rfl (HO_5.out))); rintro e w31 ⟨vb0, rfl, ho0, hb⟩; refine ⟨_, rfl, ?_⟩; replace HO_0 := yVb HO_0 hb; replace HO_1 := yVb HO_1 hb; have HOb1 := zk (Kd.V_lower (Kd.V_mono (ok' := fun k_ => ((P0_ k_ ∨ P1_ k_) ∨ w.heap.size ≤ k_)) ho0 (fun k_ hk_ => Or.elim hk_ (fun hs_ => (.inr (((HO_5.out).1 k_ hs_.symm)))) (fun hn_ => (.inr (Nat.le_trans (below_size (zB HB.out)) hn_))))) (below_size (zB HB.out))); replace HO_5 := yRb HO_5 hb; replace HB := yS HB hb; (try clear hb ho0)))
 go_ret
 exact ⟨_, by first | rfl | (simp [errW_none, errW_some] <;> rfl) | (simp only [← hji5]; first | rfl | (simp [errW_none, errW_some] <;> rfl)) | (simp [*, errW_none, errW_some] <;> rfl), zV HOb1.out, zB HB.out⟩
set_option maxHeartbeats 8000000 in
set_option maxRecDepth 100000 in
theorem nat_Add.calls (k : Nat) (A0 : Option Addr) (c0 : Nat) (l0 : List (List Int)) (r : List Int) (w : World) (hr0 : Kd.C (Kd.slice 97 (Kd.int .u32)) w A0 l0.length l0) (hc0 : l0.length ≤ c0) (h : nat_Add.f k l0 = some r) :
    Calls Try.prog 73 #[.slice A0 l0.length c0] w fun e w' => ∃ v0_ : Value, e = .returned (v0_) ∧ Kd.R (Kd.int .u32) 97 w' w.heap.size (fun _ => True) v0_ r ∧ Below w.heap.size w w' := by
 have HR0 := zk hr0
 have HC0 := zk hc0
 clear hr0 hc0
 have HB := zk (Below.refl w.heap.size w)
 have H := h
 clear h
 unfold nat_Add.f at H
 have H' := zk H
 clear H
 go_enter Try.func73, Try.ntmps73
 go_wp2
 go_loopg [3, 8] k (fun kq v3 v8 w' => ∃ (x3_1 : List Int) (x8_1 : Int), v8 = .int .i64 x8_1 ∧ Aside0 (nat_Add.l0 kq x3_1 l0 (l0.length : Int) x8_1 = some r) ∧ Aside0 (kq ≤ k) ∧ Aside0 (Kd.V (Kd.int .u32) 97 w' w.heap.size (fun _ => True) v3 x3_1) ∧ Aside0 (Below w.heap.size w w'))
 case atStart => exact ⟨(([] : List Int)), (0), zF, H', ⟨Nat.le_refl _⟩, ⟨by exact Kd.V_nil _ _ _ _ _⟩, ⟨zB HB.out⟩⟩
 clear H'
 obtain ⟨x3_1, x8_1, rfl, HA, HK1, HO_3, HB⟩ := hrel
 cases gk with | zero => exact absurd HA.out (by simp [nat_Add.l0]) | succ k1 => ?_
 have H := HA.out
 clear HA
 simp only [nat_Add.l0] at H
 replace H := zid H
 rcases H with ⟨c2b0, H⟩ | ⟨c2b0, H⟩
 · replace H := zgd H
   obtain ⟨c3b0, H⟩ := H
   replace H := zgd H
   obtain ⟨c4b0, H⟩ := H
   replace H := zb H
   obtain ⟨ta2, A5, H⟩ := H
   replace H := zb H
   obtain ⟨ta5, A6, H⟩ := H
   have H' := zk H
   clear H
   have pa1 : 0 ≤ (x8_1 : Int) := zd
   have qa1 : x8_1 < (l0.length : Int) := zd
   obtain ⟨ada1, Aa1_0, ca1_0, ea1, hxa1_0, hla1_0, hia1_0⟩ := at_L3 HR0.out x8_1 pa1 qa1
   cases ea1
   replace hxa1_0 := (HB.out.cell (World.block_lt_of_cell? w _ hxa1_0)).trans hxa1_0
   have HRa1_0 := zk hia1_0
   have HCa1_0 := zk hla1_0
   clear hia1_0 hla1_0
   replace pa1 := eq_true pa1
   replace qa1 := eq_true qa1
   go_wp2_with (first | ((with_reducible refine gC 118 ?_); refine zG (some 14) Try.func118 #[.slice Aa1_0 (rd_L3 l0 x8_1).length ca1_0] ?_; (with_reducible refine (nat_short.calls k1 (fun k_ => k_ < w.heap.size) _ _ (rd_L3 l0 x8_1) ta2 _ ?side1 A5.out).mono ?_); (case side1 => exact Kd.V_mk HCa1_0.out (Kd.F_below (Kd.C_F (Kd.heap_int .u32) HRa1_0.out) (zB HB.out))); rintro e w7 ⟨va3, rfl, ho0, hb⟩; refine ⟨_, rfl, ?_⟩; replace HO_3 := yVb HO_3 hb; have HOa4 := yVm ho0 HB; replace HB := yS HB hb; (try clear hb ho0); obtain ⟨Ao8, co8, rfl⟩ := Kd.V_slice HO_3.out; obtain ⟨Ao9, co9, rfl⟩ := Kd.V_slice HOa4.out) | ((with_reducible refine gC 117 ?_); refine zG (some 15) Try.func117 #[.slice Ao8 x3_1.length co8, .slice Ao9 ta2.length co9] ?_; (with_reducible refine (nat_plus.calls k1 (fun k_ => True) _ _ x3_1 (fun k_ => True) _ _ ta2 ta5 _ ?side1 ?side2 A6.out).mono ?_); (case side1 => exact HO_3.out); (case side2 => exact HOa4.out); rintro e w10 ⟨va6, rfl, ho0, hb⟩; refine ⟨_, rfl, ?_⟩; replace HO_3 := yVb HO_3 hb; replace HOa4 := yVb HOa4 hb; have HOa7 := yVm ho0 HB; replace HB := yS HB hb; (try clear hb ho0)))
   go_roundg k1
   case measure => have := HK1.out; omega
   case rel => exact ⟨(ta5), (wrap64 (x8_1 + 1)), zF, H', ⟨zo1 HK1⟩, ⟨zV HOa7.out⟩, ⟨zB HB.out⟩⟩
 replace H := zb H
 obtain ⟨ta8, A11, H⟩ := H
 obtain rfl := Option.some.inj H
 obtain ⟨Ao12, co12, rfl⟩ := Kd.V_slice HO_3.out
 go_wp2_with (first | ((with_reducible refine gC 103 ?_); refine zG (some 18) Try.func103 #[.slice Ao12 x3_1.length co12] ?_; (with_reducible refine (nat_Trim.calls k1 _ _ x3_1 ta8 _ ?side1 ?side2 A11.out).mono ?_); (case side1 => exact zC (Kd.V_reads' HO_3.out).2.2); (case side2 => exact (Kd.V_reads' HO_3.out).2.1); rintro e w13 ⟨va9, rfl, ho0, hb⟩; refine ⟨_, rfl, ?_⟩; replace HO_3 := yVe HO_3 ho0 hb; have HOb0 := yRl ho0 HB; replace HB := yS HB hb; (try clear hb ho0)))
 go_ret
 exact ⟨_, zE, zR HOb0.out, zB HB.out⟩
set_option maxHeartbeats 8000000 in
set_option maxRecDepth 100000 in
theorem mw_shape.calls (a0 : Int) (r : Int) (w : World) (h : mw_shape.f a0 = some r) :
    Calls Try.prog 71 #[.int .i64 a0] w fun e w' => e = .returned (.int .i64 r) ∧ Drawn0 w w' := by
 have H := h
 clear h
 unfold mw_shape.f at H
 replace H := zid H
 rcases H with ⟨c2b0, H⟩ | ⟨c2b0, H⟩
 · obtain rfl := Option.some.inj H
   go_enter Try.func71, Try.ntmps71
   go_wp2
   go_ret
   exact ⟨zF, by repeat (first | exact Drawn0.refl _ | apply Drawn0.step)⟩
 replace H := zi H
 rcases H with ⟨c3, H⟩ | ⟨c3, H⟩
 · have c3b0 : decide (65 < a0) = true := decide_eq_true c3
   clear c3
   obtain rfl := Option.some.inj H
   go_enter Try.func71, Try.ntmps71
   go_wp2
   go_ret
   exact ⟨zF, by repeat (first | exact Drawn0.refl _ | apply Drawn0.step)⟩
 have c3b0 : decide (65 < a0) = false := decide_eq_false c3
 clear c3
 obtain rfl := Option.some.inj H
 go_enter Try.func71, Try.ntmps71
 go_wp2
 go_ret
 exact ⟨zF, by repeat (first | exact Drawn0.refl _ | apply Drawn0.step)⟩
set_option maxHeartbeats 8000000 in
set_option maxRecDepth 100000 in
theorem mw_wrong.calls (a0 : Int) (a1 : Int) (r : Int) (w : World) (h : mw_wrong.f a0 a1 = some r) :
    Calls Try.prog 102 #[.int .i64 a0, .int .i64 a1] w fun e w' => e = .returned (.int .i64 r) ∧ Drawn0 w w' := by
 have H := h
 clear h
 unfold mw_wrong.f at H
 replace H := zid H
 rcases H with ⟨c3b0, H⟩ | ⟨c3b0, H⟩
 · obtain rfl := Option.some.inj H
   go_enter Try.func102, Try.ntmps102
   go_wp2
   go_ret
   exact ⟨zF, by repeat (first | exact Drawn0.refl _ | apply Drawn0.step)⟩
 replace H := zi H
 rcases H with ⟨c4, H⟩ | ⟨c4, H⟩
 · have c4b0 : decide (256 < a0) = true := decide_eq_true c4
   clear c4
   obtain rfl := Option.some.inj H
   go_enter Try.func102, Try.ntmps102
   go_wp2
   go_ret
   exact ⟨zF, by repeat (first | exact Drawn0.refl _ | apply Drawn0.step)⟩
 have c4b0 : decide (256 < a0) = false := decide_eq_false c4
 clear c4
 replace H := zb H
 obtain ⟨ta1, A5, H⟩ := H
 obtain rfl := Option.some.inj H
 go_enter Try.func102, Try.ntmps102
 go_wp2_with (first | ((with_reducible refine gC 71 ?_); refine zG (some 12) Try.func71 #[.int .i64 a1] ?_; (with_reducible refine (mw_shape.calls a1 ta1 _ A5.out).mono ?_); rintro e w' ⟨rfl, ⟨nd, rfl⟩⟩; refine ⟨_, rfl, ?_⟩))
 go_ret
 exact ⟨zF, by repeat (first | exact Drawn0.refl _ | apply Drawn0.step)⟩
set_option maxHeartbeats 8000000 in
set_option maxRecDepth 100000 in
theorem nat_Cmp.calls (k : Nat) (A0 : Option Addr) (c0 : Nat) (l0 : List Int) (A1 : Option Addr) (c1 : Nat) (l1 : List Int) (r : Int) (w : World) (hr0 : Kd.C (Kd.int .u32) w A0 l0.length l0) (hc0 : l0.length ≤ c0) (hr1 : Kd.C (Kd.int .u32) w A1 l1.length l1) (hc1 : l1.length ≤ c1) (h : nat_Cmp.f k l0 l1 = some r) :
    Calls Try.prog 79 #[.slice A0 l0.length c0, .slice A1 l1.length c1] w fun e w' => e = .returned (.int .i64 r) ∧ Below w.heap.size w w' := by
 have HR0 := zk hr0
 have HC0 := zk hc0
 clear hr0 hc0
 have HR1 := zk hr1
 have HC1 := zk hc1
 clear hr1 hc1
 have HB := zk (Below.refl w.heap.size w)
 have H := h
 clear h
 unfold nat_Cmp.f at H
 replace H := zb H
 obtain ⟨ta1, A3, H⟩ := H
 replace H := zb H
 obtain ⟨ta4, A4, H⟩ := H
 replace H := zi H
 rcases H with ⟨c5, H⟩ | ⟨c5, H⟩
 · have c5b0 := beq_iff_eq.mpr c5
   have c5b1 := bne_eq_false_iff_eq.mpr c5
   have c5b2 : (ta1.length == ta4.length) = true := by first | simpa using c5 | (simp at c5 ⊢; omega)
   clear c5
   have H' := zk H
   clear H
   go_enter Try.func79, Try.ntmps79
   go_wp2_with (first | (go_at_call 118; (with_reducible refine (nat_short.calls k (fun k_ => k_ < w.heap.size) _ _ l0 ta1 _ ?side1 A3.out).mono ?_); (case side1 => exact Kd.V_mk HC0.out (Kd.F_below (Kd.C_F (Kd.heap_int .u32) HR0.out) (zB HB.out))); rintro e w6 ⟨va2, rfl, ho0, hb⟩; have HOa3 := yVm ho0 HB; replace HB := yS HB hb; (try clear hb ho0)) | (go_at_call 118; (with_reducible refine (nat_short.calls k (fun k_ => k_ < w.heap.size) _ _ l1 ta4 _ ?side1 A4.out).mono ?_); (case side1 => exact Kd.V_mk HC1.out (Kd.F_below (Kd.C_F (Kd.heap_int .u32) HR1.out) (zB HB.out))); rintro e w7 ⟨va5, rfl, ho0, hb⟩; replace HOa3 := yVb HOa3 hb; have HOa6 := yVm ho0 HB; replace HB := yS HB hb; (try clear hb ho0); obtain ⟨Ao8, co8, rfl⟩ := Kd.V_slice HOa3.out; obtain ⟨Ao9, co9, rfl⟩ := Kd.V_slice HOa6.out))
   repeat (go_quiet (first | (go_at_call 118; (with_reducible refine (nat_short.calls k (fun k_ => k_ < w.heap.size) _ _ l0 ta1 _ ?side1 A3.out).mono ?_); (case side1 => exact Kd.V_mk HC0.out (Kd.F_below (Kd.C_F (Kd.heap_int .u32) HR0.out) (zB HB.out))); rintro e w6 ⟨va2, rfl, ho0, hb⟩; have HOa3 := yVm ho0 HB; replace HB := yS HB hb; (try clear hb ho0)) | (go_at_call 118; (with_reducible refine (nat_short.calls k (fun k_ => k_ < w.heap.size) _ _ l1 ta4 _ ?side1 A4.out).mono ?_); (case side1 => exact Kd.V_mk HC1.out (Kd.F_below (Kd.C_F (Kd.heap_int .u32) HR1.out) (zB HB.out))); rintro e w7 ⟨va5, rfl, ho0, hb⟩; replace HOa3 := yVb HOa3 hb; have HOa6 := yVm ho0 HB; replace HB := yS HB hb; (try clear hb ho0); obtain ⟨Ao8, co8, rfl⟩ := Kd.V_slice HOa3.out; obtain ⟨Ao9, co9, rfl⟩ := Kd.V_slice HOa6.out)); try go_wp2_with (first | (go_at_call 118; (with_reducible refine (nat_short.calls k (fun k_ => k_ < w.heap.size) _ _ l0 ta1 _ ?side1 A3.out).mono ?_); (case side1 => exact Kd.V_mk HC0.out (Kd.F_below (Kd.C_F (Kd.heap_int .u32) HR0.out) (zB HB.out))); rintro e w6 ⟨va2, rfl, ho0, hb⟩; have n0_ := yVm ho0 HB; have n1_ := yS HB hb; clear HB; have HOa3 := n0_; have HB := n1_; clear n0_ n1_; (try clear hb); (try clear hb2); (try clear hk); (try clear hi); (try clear ho0)) | (go_at_call 118; (with_reducible refine (nat_short.calls k (fun k_ => k_ < w.heap.size) _ _ l1 ta4 _ ?side1 A4.out).mono ?_); (case side1 => exact Kd.V_mk HC1.out (Kd.F_below (Kd.C_F (Kd.heap_int .u32) HR1.out) (zB HB.out))); rintro e w7 ⟨va5, rfl, ho0, hb⟩; have n0_ := yVb HOa3 hb; have n1_ := yVm ho0 HB; have n2_ := yS HB hb; clear HOa3; clear HB; have HOa3 := n0_; have HOa6 := n1_; have HB := n2_; clear n0_ n1_ n2_; (try clear hb); (try clear hb2); (try clear hk); (try clear hi); (try clear ho0); obtain ⟨Ao8, co8, eo8⟩ := Kd.V_slice HOa3.out; subst eo8; obtain ⟨Ao9, co9, eo9⟩ := Kd.V_slice HOa6.out; subst eo9)))
   go_loopg [5] k (fun kq v5 w' => ∃ (x5_1 : Int), v5 = .int .i64 x5_1 ∧ Aside0 (nat_Cmp.l0 kq ta1 ta4 x5_1 = some r) ∧ Aside0 (kq ≤ k) ∧ Aside0 (Kd.V (Kd.int .u32) 97 w' w.heap.size (fun _ => True) (.slice Ao8 ta1.length co8) ta1) ∧ Aside0 (Kd.V (Kd.int .u32) 97 w' w.heap.size (fun _ => True) (.slice Ao9 ta4.length co9) ta4) ∧ Aside0 (Below w.heap.size w w'))
   case atStart => exact ⟨(wrap64 ((ta1.length : Int) - 1)), zF, H', ⟨Nat.le_refl _⟩, ⟨zV HOa3.out⟩, ⟨zV HOa6.out⟩, ⟨zB HB.out⟩⟩
   clear H'
   (try clear c5);(try clear c5b0);(try clear c5b1);(try clear c5b2)
   obtain ⟨x5_1, rfl, HA, HK1, HO_0, HO_1, HB⟩ := hrel
   cases gk with | zero => exact absurd HA.out (by simp [nat_Cmp.l0]) | succ k1 => ?_
   have H := HA.out
   clear HA
   simp only [nat_Cmp.l0] at H
   replace H := zi H
   rcases H with ⟨c10, H⟩ | ⟨c10, H⟩
   · have c10b0 : decide (0 ≤ x5_1) = true := decide_eq_true c10
     clear c10
     replace H := zgd H
     obtain ⟨c11b0, H⟩ := H
     replace H := zgd H
     obtain ⟨c12b0, H⟩ := H
     replace H := zgd H
     obtain ⟨c13b0, H⟩ := H
     replace H := zid H
     rcases H with ⟨c14b0, H⟩ | ⟨c14b0, H⟩
     · obtain rfl := Option.some.inj H
       have pa7 : 0 ≤ (x5_1 : Int) := zd
       have qa7 : x5_1 < (ta1.length : Int) := zd
       obtain ⟨ada7, ea7, hxa7_0⟩ := Kd.at_int (Kd.V_reads' HO_0.out).2.2 x5_1 pa7 qa7
       cases ea7
       replace pa7 := eq_true pa7
       replace qa7 := eq_true qa7
       have pa8 : 0 ≤ (x5_1 : Int) := zd
       have qa8 : x5_1 < (ta4.length : Int) := zd
       obtain ⟨ada8, ea8, hxa8_0⟩ := Kd.at_int (Kd.V_reads' HO_1.out).2.2 x5_1 pa8 qa8
       cases ea8
       replace pa8 := eq_true pa8
       replace qa8 := eq_true qa8
       go_wp2
       repeat (go_quiet (fail); try go_wp2)
       go_ret
       exact ⟨zE, zB HB.out⟩
     replace H := zi H
     rcases H with ⟨c15, H⟩ | ⟨c15, H⟩
     · have c15b0 : decide ((rd ta4 x5_1) < (rd ta1 x5_1)) = true := decide_eq_true c15
       clear c15
       obtain rfl := Option.some.inj H
       have pa7 : 0 ≤ (x5_1 : Int) := zd
       have qa7 : x5_1 < (ta1.length : Int) := zd
       obtain ⟨ada7, ea7, hxa7_0⟩ := Kd.at_int (Kd.V_reads' HO_0.out).2.2 x5_1 pa7 qa7
       cases ea7
       replace pa7 := eq_true pa7
       replace qa7 := eq_true qa7
       have pa8 : 0 ≤ (x5_1 : Int) := zd
       have qa8 : x5_1 < (ta4.length : Int) := zd
       obtain ⟨ada8, ea8, hxa8_0⟩ := Kd.at_int (Kd.V_reads' HO_1.out).2.2 x5_1 pa8 qa8
       cases ea8
       replace pa8 := eq_true pa8
       replace qa8 := eq_true qa8
       have pa9 : 0 ≤ (x5_1 : Int) := zd
       have qa9 : x5_1 < (ta1.length : Int) := zd
       obtain ⟨ada9, ea9, hxa9_0⟩ := Kd.at_int (Kd.V_reads' HO_0.out).2.2 x5_1 pa9 qa9
       obtain rfl : ada7 = ada9 := (by injection ea9)
       replace pa9 := eq_true pa9
       replace qa9 := eq_true qa9
       have pb0 : 0 ≤ (x5_1 : Int) := zd
       have qb0 : x5_1 < (ta4.length : Int) := zd
       obtain ⟨adb0, eb0, hxb0_0⟩ := Kd.at_int (Kd.V_reads' HO_1.out).2.2 x5_1 pb0 qb0
       obtain rfl : ada8 = adb0 := (by injection eb0)
       replace pb0 := eq_true pb0
       replace qb0 := eq_true qb0
       go_wp2
       repeat (go_quiet (fail); try go_wp2)
       go_ret
       exact ⟨zE, zB HB.out⟩
     have c15b0 : decide ((rd ta4 x5_1) < (rd ta1 x5_1)) = false := decide_eq_false c15
     clear c15
     have H' := zk H
     clear H
     have pa7 : 0 ≤ (x5_1 : Int) := zd
     have qa7 : x5_1 < (ta1.length : Int) := zd
     obtain ⟨ada7, ea7, hxa7_0⟩ := Kd.at_int (Kd.V_reads' HO_0.out).2.2 x5_1 pa7 qa7
     cases ea7
     replace pa7 := eq_true pa7
     replace qa7 := eq_true qa7
     have pa8 : 0 ≤ (x5_1 : Int) := zd
     have qa8 : x5_1 < (ta4.length : Int) := zd
     obtain ⟨ada8, ea8, hxa8_0⟩ := Kd.at_int (Kd.V_reads' HO_1.out).2.2 x5_1 pa8 qa8
     cases ea8
     replace pa8 := eq_true pa8
     replace qa8 := eq_true qa8
     have pa9 : 0 ≤ (x5_1 : Int) := zd
     have qa9 : x5_1 < (ta1.length : Int) := zd
     obtain ⟨ada9, ea9, hxa9_0⟩ := Kd.at_int (Kd.V_reads' HO_0.out).2.2 x5_1 pa9 qa9
     obtain rfl : ada7 = ada9 := (by injection ea9)
     replace pa9 := eq_true pa9
     replace qa9 := eq_true qa9
     have pb0 : 0 ≤ (x5_1 : Int) := zd
     have qb0 : x5_1 < (ta4.length : Int) := zd
     obtain ⟨adb0, eb0, hxb0_0⟩ := Kd.at_int (Kd.V_reads' HO_1.out).2.2 x5_1 pb0 qb0
     obtain rfl : ada8 = adb0 := (by injection eb0)
     replace pb0 := eq_true pb0
     replace qb0 := eq_true qb0
     go_wp2
     repeat (go_quiet (fail); try go_wp2)
     go_roundg k1
     case measure => have := HK1.out; omega
     case rel => exact ⟨(wrap64 (x5_1 - 1)), zF, H', ⟨zo1 HK1⟩, ⟨zV HO_0.out⟩, ⟨zV HO_1.out⟩, ⟨zB HB.out⟩⟩
   have c10b0 : decide (0 ≤ x5_1) = false := decide_eq_false c10
   clear c10
   obtain rfl := Option.some.inj H
   go_wp2
   repeat (go_quiet (fail); try go_wp2)
   go_ret
   exact ⟨zE, zB HB.out⟩
 have c5b0 := beq_eq_false_iff_ne.mpr c5
 have c5b1 := bne_iff_ne.mpr c5
 have c5b2 : (ta1.length == ta4.length) = false := by first | simpa using c5 | (simp at c5 ⊢; omega)
 replace H := zi H
 rcases H with ⟨c16, H⟩ | ⟨c16, H⟩
 · have c16b0 := decide_eq_true c16
   have c16b1 : decide (ta1.length < ta4.length) = true := decide_eq_true (Int.ofNat_lt.mp c16)
   clear c16
   obtain rfl := Option.some.inj H
   go_enter Try.func79, Try.ntmps79
   go_wp2_with (first | (go_at_call 118; (with_reducible refine (nat_short.calls k (fun k_ => k_ < w.heap.size) _ _ l0 ta1 _ ?side1 A3.out).mono ?_); (case side1 => exact Kd.V_mk HC0.out (Kd.F_below (Kd.C_F (Kd.heap_int .u32) HR0.out) (zB HB.out))); rintro e w17 ⟨va2, rfl, ho0, hb⟩; have HOa3 := yVm ho0 HB; replace HB := yS HB hb; (try clear hb ho0)) | (go_at_call 118; (with_reducible refine (nat_short.calls k (fun k_ => k_ < w.heap.size) _ _ l1 ta4 _ ?side1 A4.out).mono ?_); (case side1 => exact Kd.V_mk HC1.out (Kd.F_below (Kd.C_F (Kd.heap_int .u32) HR1.out) (zB HB.out))); rintro e w18 ⟨va5, rfl, ho0, hb⟩; replace HOa3 := yVb HOa3 hb; have HOa6 := yVm ho0 HB; replace HB := yS HB hb; (try clear hb ho0); obtain ⟨Ao19, co19, rfl⟩ := Kd.V_slice HOa3.out; obtain ⟨Ao20, co20, rfl⟩ := Kd.V_slice HOa6.out))
   repeat (go_quiet (first | (go_at_call 118; (with_reducible refine (nat_short.calls k (fun k_ => k_ < w.heap.size) _ _ l0 ta1 _ ?side1 A3.out).mono ?_); (case side1 => exact Kd.V_mk HC0.out (Kd.F_below (Kd.C_F (Kd.heap_int .u32) HR0.out) (zB HB.out))); rintro e w17 ⟨va2, rfl, ho0, hb⟩; have HOa3 := yVm ho0 HB; replace HB := yS HB hb; (try clear hb ho0)) | (go_at_call 118; (with_reducible refine (nat_short.calls k (fun k_ => k_ < w.heap.size) _ _ l1 ta4 _ ?side1 A4.out).mono ?_); (case side1 => exact Kd.V_mk HC1.out (Kd.F_below (Kd.C_F (Kd.heap_int .u32) HR1.out) (zB HB.out))); rintro e w18 ⟨va5, rfl, ho0, hb⟩; replace HOa3 := yVb HOa3 hb; have HOa6 := yVm ho0 HB; replace HB := yS HB hb; (try clear hb ho0); obtain ⟨Ao19, co19, rfl⟩ := Kd.V_slice HOa3.out; obtain ⟨Ao20, co20, rfl⟩ := Kd.V_slice HOa6.out)); try go_wp2_with (first | (go_at_call 118; (with_reducible refine (nat_short.calls k (fun k_ => k_ < w.heap.size) _ _ l0 ta1 _ ?side1 A3.out).mono ?_); (case side1 => exact Kd.V_mk HC0.out (Kd.F_below (Kd.C_F (Kd.heap_int .u32) HR0.out) (zB HB.out))); rintro e w17 ⟨va2, rfl, ho0, hb⟩; have n0_ := yVm ho0 HB; have n1_ := yS HB hb; clear HB; have HOa3 := n0_; have HB := n1_; clear n0_ n1_; (try clear hb); (try clear hb2); (try clear hk); (try clear hi); (try clear ho0)) | (go_at_call 118; (with_reducible refine (nat_short.calls k (fun k_ => k_ < w.heap.size) _ _ l1 ta4 _ ?side1 A4.out).mono ?_); (case side1 => exact Kd.V_mk HC1.out (Kd.F_below (Kd.C_F (Kd.heap_int .u32) HR1.out) (zB HB.out))); rintro e w18 ⟨va5, rfl, ho0, hb⟩; have n0_ := yVb HOa3 hb; have n1_ := yVm ho0 HB; have n2_ := yS HB hb; clear HOa3; clear HB; have HOa3 := n0_; have HOa6 := n1_; have HB := n2_; clear n0_ n1_ n2_; (try clear hb); (try clear hb2); (try clear hk); (try clear hi); (try clear ho0); obtain ⟨Ao19, co19, eo19⟩ := Kd.V_slice HOa3.out; subst eo19; obtain ⟨Ao20, co20, eo20⟩ := Kd.V_slice HOa6.out; subst eo20)))
   go_ret
   exact ⟨zE, zB HB.out⟩
 have c16b0 := decide_eq_false c16
 have c16b1 : decide (ta1.length < ta4.length) = false := decide_eq_false (fun h => c16 (Int.ofNat_lt.mpr h))
 clear c16
 obtain rfl := Option.some.inj H
 go_enter Try.func79, Try.ntmps79
 go_wp2_with (first | (go_at_call 118; (with_reducible refine (nat_short.calls k (fun k_ => k_ < w.heap.size) _ _ l0 ta1 _ ?side1 A3.out).mono ?_); (case side1 => exact Kd.V_mk HC0.out (Kd.F_below (Kd.C_F (Kd.heap_int .u32) HR0.out) (zB HB.out))); rintro e w21 ⟨va2, rfl, ho0, hb⟩; have HOa3 := yVm ho0 HB; replace HB := yS HB hb; (try clear hb ho0)) | (go_at_call 118; (with_reducible refine (nat_short.calls k (fun k_ => k_ < w.heap.size) _ _ l1 ta4 _ ?side1 A4.out).mono ?_); (case side1 => exact Kd.V_mk HC1.out (Kd.F_below (Kd.C_F (Kd.heap_int .u32) HR1.out) (zB HB.out))); rintro e w22 ⟨va5, rfl, ho0, hb⟩; replace HOa3 := yVb HOa3 hb; have HOa6 := yVm ho0 HB; replace HB := yS HB hb; (try clear hb ho0); obtain ⟨Ao23, co23, rfl⟩ := Kd.V_slice HOa3.out; obtain ⟨Ao24, co24, rfl⟩ := Kd.V_slice HOa6.out))
 repeat (go_quiet (first | (go_at_call 118; (with_reducible refine (nat_short.calls k (fun k_ => k_ < w.heap.size) _ _ l0 ta1 _ ?side1 A3.out).mono ?_); (case side1 => exact Kd.V_mk HC0.out (Kd.F_below (Kd.C_F (Kd.heap_int .u32) HR0.out) (zB HB.out))); rintro e w21 ⟨va2, rfl, ho0, hb⟩; have HOa3 := yVm ho0 HB; replace HB := yS HB hb; (try clear hb ho0)) | (go_at_call 118; (with_reducible refine (nat_short.calls k (fun k_ => k_ < w.heap.size) _ _ l1 ta4 _ ?side1 A4.out).mono ?_); (case side1 => exact Kd.V_mk HC1.out (Kd.F_below (Kd.C_F (Kd.heap_int .u32) HR1.out) (zB HB.out))); rintro e w22 ⟨va5, rfl, ho0, hb⟩; replace HOa3 := yVb HOa3 hb; have HOa6 := yVm ho0 HB; replace HB := yS HB hb; (try clear hb ho0); obtain ⟨Ao23, co23, rfl⟩ := Kd.V_slice HOa3.out; obtain ⟨Ao24, co24, rfl⟩ := Kd.V_slice HOa6.out)); try go_wp2_with (first | (go_at_call 118; (with_reducible refine (nat_short.calls k (fun k_ => k_ < w.heap.size) _ _ l0 ta1 _ ?side1 A3.out).mono ?_); (case side1 => exact Kd.V_mk HC0.out (Kd.F_below (Kd.C_F (Kd.heap_int .u32) HR0.out) (zB HB.out))); rintro e w21 ⟨va2, rfl, ho0, hb⟩; have n0_ := yVm ho0 HB; have n1_ := yS HB hb; clear HB; have HOa3 := n0_; have HB := n1_; clear n0_ n1_; (try clear hb); (try clear hb2); (try clear hk); (try clear hi); (try clear ho0)) | (go_at_call 118; (with_reducible refine (nat_short.calls k (fun k_ => k_ < w.heap.size) _ _ l1 ta4 _ ?side1 A4.out).mono ?_); (case side1 => exact Kd.V_mk HC1.out (Kd.F_below (Kd.C_F (Kd.heap_int .u32) HR1.out) (zB HB.out))); rintro e w22 ⟨va5, rfl, ho0, hb⟩; have n0_ := yVb HOa3 hb; have n1_ := yVm ho0 HB; have n2_ := yS HB hb; clear HOa3; clear HB; have HOa3 := n0_; have HOa6 := n1_; have HB := n2_; clear n0_ n1_ n2_; (try clear hb); (try clear hb2); (try clear hk); (try clear hi); (try clear ho0); obtain ⟨Ao23, co23, eo23⟩ := Kd.V_slice HOa3.out; subst eo23; obtain ⟨Ao24, co24, eo24⟩ := Kd.V_slice HOa6.out; subst eo24)))
 go_ret
 exact ⟨zE, zB HB.out⟩
set_option maxHeartbeats 8000000 in
set_option maxRecDepth 100000 in
theorem nat_Sub.calls (k : Nat) (A0 : Option Addr) (c0 : Nat) (l0 : List Int) (A1 : Option Addr) (c1 : Nat) (l1 : List Int) (r1 : List Int) (r2 : Int) (w : World) (hr0 : Kd.C (Kd.int .u32) w A0 l0.length l0) (hc0 : l0.length ≤ c0) (hr1 : Kd.C (Kd.int .u32) w A1 l1.length l1) (hc1 : l1.length ≤ c1) (h : nat_Sub.f k l0 l1 = some (r1, r2)) :
    Calls Try.prog 137 #[.slice A0 l0.length c0, .slice A1 l1.length c1] w fun e w' => ∃ v0_ : Value, e = .returned (.tuple #[v0_, .int .i64 r2]) ∧ Kd.V (Kd.int .u32) 97 w' w.heap.size (fun k_ => (w.heap.size ≤ k_)) v0_ r1 ∧ Below w.heap.size w w' := by
 have HR0 := zk hr0
 have HC0 := zk hc0
 clear hr0 hc0
 have HR1 := zk hr1
 have HC1 := zk hc1
 clear hr1 hc1
 have HB := zk (Below.refl w.heap.size w)
 have H := h
 clear h
 unfold nat_Sub.f at H
 replace H := zb H
 obtain ⟨ta1, A3, H⟩ := H
 replace H := zid H
 rcases H with ⟨c4b0, H⟩ | ⟨c4b0, H⟩
 · simp only [Option.some.injEq, Prod.mk.injEq] at H
   obtain ⟨rfl, rfl⟩ := H
   go_enter Try.func137, Try.ntmps137
   go_wp2_with (first | ((with_reducible refine gC 79 ?_); refine zG (some 12) Try.func79 #[.slice A0 l0.length c0, .slice A1 l1.length c1] ?_; (with_reducible refine (nat_Cmp.calls k _ _ l0 _ _ l1 ta1 _ ?side1 ?side2 ?side3 ?side4 A3.out).mono ?_); (case side1 => exact zC HR0.out); (case side2 => exact HC0.out); (case side3 => exact zC HR1.out); (case side4 => exact HC1.out); rintro e w5 ⟨rfl, hb⟩; refine ⟨_, rfl, ?_⟩; replace HB := yS HB hb; (try clear hb); (try clear hb2); (try clear hk); (try clear hi)))
   go_ret2
   exact ⟨_, zE, by exact Kd.V_nil _ _ _ _ _, zB HB.out⟩
 replace H := zb H
 obtain ⟨ta2, A6, H⟩ := H
 have H' := zk H
 clear H
 go_enter Try.func137, Try.ntmps137
 go_wp2_with (first | ((with_reducible refine gC 79 ?_); refine zG (some 12) Try.func79 #[.slice A0 l0.length c0, .slice A1 l1.length c1] ?_; (with_reducible refine (nat_Cmp.calls k _ _ l0 _ _ l1 ta1 _ ?side1 ?side2 ?side3 ?side4 A3.out).mono ?_); (case side1 => exact zC HR0.out); (case side2 => exact HC0.out); (case side3 => exact zC HR1.out); (case side4 => exact HC1.out); rintro e w7 ⟨rfl, hb⟩; refine ⟨_, rfl, ?_⟩; replace HB := yS HB hb; (try clear hb); (try clear hb2); (try clear hk); (try clear hi)) | ((with_reducible refine gC 103 ?_); refine zG (some 15) Try.func103 #[.slice A0 l0.length c0] ?_; (with_reducible refine (nat_Trim.calls k _ _ l0 ta2 _ ?side1 ?side2 A6.out).mono ?_); (case side1 => exact zC (Kd.C_below HR0.out HB.out)); (case side2 => exact HC0.out); rintro e w8 ⟨va3, rfl, ho0, hb⟩; refine ⟨_, rfl, ?_⟩; replace ho0 := Kd.R_newM (M := fun k_ => (w.heap.size ≤ k_)) ho0 (below_size (zB HB.out)) (fun k_ h_ => h_); have HOa4 := yRl ho0 HB; replace HB := yS HB hb; (try clear hb ho0); obtain ⟨Ao9, co9, rfl⟩ := Kd.R_slice HOa4.out))
 go_loopg [7, 18] k (fun kq v7 v18 w' => ∃ (x6_1 : List Int) (x7_1 : Int) (x18_1 : Int), v7 = .int .u64 x7_1 ∧ v18 = .int .i64 x18_1 ∧ Aside0 (nat_Sub.l0 kq l1 x6_1 x7_1 (ta2.length : Int) x18_1 = some (r1, r2)) ∧ Aside0 (kq ≤ k) ∧ Aside0 (Kd.R (Kd.int .u32) 97 w' w.heap.size (fun k_ => (w.heap.size ≤ k_)) (.slice Ao9 ta2.length co9) x6_1) ∧ Aside0 (Below w.heap.size w w'))
 case atStart => exact ⟨(ta2), (0), (0), zF, zF, H', ⟨Nat.le_refl _⟩, ⟨by (with_reducible repeat (first | apply Kd.R_alloc | apply Kd.R_drewN | apply Kd.R_drew)); exact Kd.R_mono HOa4.out (fun _ hk => hk.1)⟩, ⟨zB HB.out⟩⟩
 clear H'
 (try clear c4b0)
 obtain ⟨x6_1, x7_1, x18_1, rfl, rfl, HA, HK1, HO_6, HB⟩ := hrel
 have hl6_1 := (Kd.R_reads' HO_6.out).1
 rw [hl6_1] at HO_6
 (try simp only [hl6_1])
 cases gk with | zero => exact absurd HA.out (by simp [nat_Sub.l0]) | succ k1 => ?_
 have H := HA.out
 clear HA
 simp only [nat_Sub.l0] at H
 replace H := zi H
 rcases H with ⟨c10, H⟩ | ⟨c10, H⟩
 · have c10b0 := decide_eq_true c10
   (try (have c10h0 := c10b0; simp only [hl6_1] at c10h0))
   clear c10
   replace H := zgd H
   obtain ⟨c11b0, H⟩ := H
   replace H := zg H
   obtain ⟨c12, H⟩ := H
   have c12b0 := decide_eq_true c12
   (try (have c12h0 := c12b0; simp only [hl6_1] at c12h0))
   clear c12
   replace H := zi H
   rcases H with ⟨c13, H⟩ | ⟨c13, H⟩
   · have c13b0 := decide_eq_true c13
     (try (have c13h0 := c13b0; simp only [hl6_1] at c13h0))
     clear c13
     obtain ⟨ya7, hya7⟩ : ∃ y_ : List Int, y_ = (x6_1.set (x18_1 : Int).toNat ((IntKind.u64.wrap ((IntKind.u64.wrap ((IntKind.u64.wrap (rd x6_1 x18_1)) - x7_1)) - (IntKind.u64.wrap (rd l1 x18_1)))) % 4294967296)) := ⟨_, rfl⟩
     replace H : (nat_Sub.l0 k1 l1 ya7 ((IntKind.u64.wrap ((IntKind.u64.wrap ((IntKind.u64.wrap (rd x6_1 x18_1)) - x7_1)) - (IntKind.u64.wrap (rd l1 x18_1)))) / 9223372036854775808) (ta2.length : Int) (wrap64 (x18_1 + 1))) = some (r1, r2) := zY hya7 H
     have Nya7 := zk hya7
     clear hya7
     have H' := zk H
     clear H
     have pa5 : 0 ≤ (x18_1 : Int) := zd
     have qa5 : x18_1 < (x6_1.length : Int) := zd
     obtain ⟨ada5, ea5, hxa5_0⟩ := Kd.at_int (Kd.R_reads' HO_6.out).2.2 x18_1 pa5 qa5
     cases ea5
     replace pa5 := eq_true pa5
     replace qa5 := eq_true qa5
     have pa6 : 0 ≤ (x18_1 : Int) := zd
     have qa6 : x18_1 < (l1.length : Int) := zd
     obtain ⟨ada6, ea6, hxa6_0⟩ := Kd.at_int HR1.out x18_1 pa6 qa6
     cases ea6
     replace hxa6_0 := (HB.out.cell (World.block_lt_of_cell? w _ hxa6_0)).trans hxa6_0
     replace pa6 := eq_true pa6
     replace qa6 := eq_true qa6
     have p14 : 0 ≤ (x18_1 : Int) := zd
     have q14 : (x18_1 : Int) < ((x6_1.length : Int) : Int) := zd
     obtain ⟨go14, co14, eo14, gb14, gl14, cl14, HG14⟩ := Kd.R_form HO_6.out (by omega)
     (first | cases eo14 | (injection eo14 with ea_ en_ ec_; (first | subst ea_ | (injection ea_ with ea_; subst ea_)); subst ec_; clear en_))
     have GB14 := zk gb14
     have GG14 := zk HG14
     clear gb14 gl14 HG14
     (first | simp only [add_plain] at hxa5_0 | skip)
     obtain ⟨hx14_0, hf14_0⟩ := Kd.R_celln 0 HO_6.out (x18_1 : Int) p14 q14
     replace p14 := eq_true p14
     replace q14 := eq_true q14
     have HP15 := Kd.R_putg HO_6.out (x18_1 : Int) ((IntKind.u64.wrap ((IntKind.u64.wrap ((IntKind.u64.wrap (rd x6_1 x18_1)) - x7_1)) - (IntKind.u64.wrap (rd l1 x18_1)))) % 4294967296)
     go_wp2_with (first | ((with_reducible refine gate_store (t := 97) (p := 43) rfl ?_); refine store_event (t := 97) (p := 43) (v := ?vo_w16) (w1 := (wr.setCell ⟨go14, (x18_1 : Int).toNat, none⟩ (.int .u32 ((IntKind.u64.wrap ((IntKind.u64.wrap ((IntKind.u64.wrap (rd x6_1 x18_1)) - x7_1)) - (IntKind.u64.wrap (rd l1 x18_1)))) % 4294967296)))) ?hg ?ho ?hn ?hr ?_; (case ho => rfl); (case hg => rfl); (case hn => rfl); (case hr => first | (go_simp; done) | (go_simp; rfl)); intro w16 hw; have hg : wr.grownBy w16 (some go14) := (by rw [hw]; exact HP15.2); have hp_ : Kd.R (Kd.int .u32) 97 w16 w.heap.size (fun k_ => (w.heap.size ≤ k_)) (.slice (some ⟨go14, 0, none⟩) x6_1.length co9) ya7 := (by rw [hw, Nya7.out]; exact HP15.1); clear HP15; replace HO_6 := zk (hp_); replace HB := zk ((by rw [hw]; exact below_set (HB.out) GB14.out : Below w.heap.size w w16)); clear hg hw hp_))
     (try simp only [← hl6_1])
     go_roundg k1
     case measure => have := HK1.out; omega
     case rel => exact ⟨(ya7), ((IntKind.u64.wrap ((IntKind.u64.wrap ((IntKind.u64.wrap (rd x6_1 x18_1)) - x7_1)) - (IntKind.u64.wrap (rd l1 x18_1)))) / 9223372036854775808), (wrap64 (x18_1 + 1)), zF, zF, H', ⟨zo1 HK1⟩, ⟨by (try simp only [hl6_1]); (with_reducible repeat (first | apply Kd.R_alloc | apply Kd.R_drewN | apply Kd.R_drew)); exact HO_6.out⟩, ⟨zB HB.out⟩⟩
   have c13b0 := decide_eq_false c13
   (try (have c13h0 := c13b0; simp only [hl6_1] at c13h0))
   clear c13
   obtain ⟨ya8, hya8⟩ : ∃ y_ : List Int, y_ = (x6_1.set (x18_1 : Int).toNat ((IntKind.u64.wrap ((IntKind.u64.wrap (rd x6_1 x18_1)) - x7_1)) % 4294967296)) := ⟨_, rfl⟩
   replace H : (nat_Sub.l0 k1 l1 ya8 ((IntKind.u64.wrap ((IntKind.u64.wrap (rd x6_1 x18_1)) - x7_1)) / 9223372036854775808) (ta2.length : Int) (wrap64 (x18_1 + 1))) = some (r1, r2) := zY hya8 H
   have Nya8 := zk hya8
   clear hya8
   have H' := zk H
   clear H
   have pa5 : 0 ≤ (x18_1 : Int) := zd
   have qa5 : x18_1 < (x6_1.length : Int) := zd
   obtain ⟨ada5, ea5, hxa5_0⟩ := Kd.at_int (Kd.R_reads' HO_6.out).2.2 x18_1 pa5 qa5
   cases ea5
   replace pa5 := eq_true pa5
   replace qa5 := eq_true qa5
   have p17 : 0 ≤ (x18_1 : Int) := zd
   have q17 : (x18_1 : Int) < ((x6_1.length : Int) : Int) := zd
   obtain ⟨go17, co17, eo17, gb17, gl17, cl17, HG17⟩ := Kd.R_form HO_6.out (by omega)
   (first | cases eo17 | (injection eo17 with ea_ en_ ec_; (first | subst ea_ | (injection ea_ with ea_; subst ea_)); subst ec_; clear en_))
   have GB17 := zk gb17
   have GG17 := zk HG17
   clear gb17 gl17 HG17
   (first | simp only [add_plain] at hxa5_0 | skip)
   obtain ⟨hx17_0, hf17_0⟩ := Kd.R_celln 0 HO_6.out (x18_1 : Int) p17 q17
   replace p17 := eq_true p17
   replace q17 := eq_true q17
   have HP18 := Kd.R_putg HO_6.out (x18_1 : Int) ((IntKind.u64.wrap ((IntKind.u64.wrap (rd x6_1 x18_1)) - x7_1)) % 4294967296)
   go_wp2_with (first | ((with_reducible refine gate_store (t := 97) (p := 43) rfl ?_); refine store_event (t := 97) (p := 43) (v := ?vo_w19) (w1 := (wr.setCell ⟨go17, (x18_1 : Int).toNat, none⟩ (.int .u32 ((IntKind.u64.wrap ((IntKind.u64.wrap (rd x6_1 x18_1)) - x7_1)) % 4294967296)))) ?hg ?ho ?hn ?hr ?_; (case ho => rfl); (case hg => rfl); (case hn => rfl); (case hr => first | (go_simp; done) | (go_simp; rfl)); intro w19 hw; have hg : wr.grownBy w19 (some go17) := (by rw [hw]; exact HP18.2); have hp_ : Kd.R (Kd.int .u32) 97 w19 w.heap.size (fun k_ => (w.heap.size ≤ k_)) (.slice (some ⟨go17, 0, none⟩) x6_1.length co9) ya8 := (by rw [hw, Nya8.out]; exact HP18.1); clear HP18; replace HO_6 := zk (hp_); replace HB := zk ((by rw [hw]; exact below_set (HB.out) GB17.out : Below w.heap.size w w19)); clear hg hw hp_))
   (try simp only [← hl6_1])
   go_roundg k1
   case measure => have := HK1.out; omega
   case rel => exact ⟨(ya8), ((IntKind.u64.wrap ((IntKind.u64.wrap (rd x6_1 x18_1)) - x7_1)) / 9223372036854775808), (wrap64 (x18_1 + 1)), zF, zF, H', ⟨zo1 HK1⟩, ⟨by (try simp only [hl6_1]); (with_reducible repeat (first | apply Kd.R_alloc | apply Kd.R_drewN | apply Kd.R_drew)); exact HO_6.out⟩, ⟨zB HB.out⟩⟩
 have c10b0 := decide_eq_false c10
 (try (have c10h0 := c10b0; simp only [hl6_1] at c10h0))
 clear c10
 replace H := zb H
 obtain ⟨ta9, A20, H⟩ := H
 simp only [Option.some.injEq, Prod.mk.injEq] at H
 obtain ⟨rfl, rfl⟩ := H
 go_wp2_with (first | ((with_reducible refine gC 118 ?_); refine zG (some 48) Try.func118 #[.slice Ao9 x6_1.length co9] ?_; (with_reducible refine (nat_short.calls k1 (fun k_ => some k_ = (.slice Ao9 x6_1.length co9 : Value).ownBlock) _ _ x6_1 ta9 _ ?side1 A20.out).mono ?_); (case side1 => exact Kd.R_V (Kd.R_tight rfl (HO_6.out))); rintro e w21 ⟨vb0, rfl, ho0, hb⟩; refine ⟨_, rfl, ?_⟩; have HOb1 := zk (Kd.V_lower (Kd.V_mono (ok' := fun k_ => (w.heap.size ≤ k_)) ho0 (fun k_ hk_ => Or.elim hk_ (fun hs_ => ((HO_6.out).1 k_ hs_.symm)) (fun hn_ => (Nat.le_trans (below_size (zB HB.out)) hn_)))) (below_size (zB HB.out))); replace HO_6 := yRb HO_6 hb; replace HB := yS HB hb; (try clear hb ho0)))
 go_ret2
 exact ⟨_, zE, zV HOb1.out, zB HB.out⟩
def mw_plus.T2 : Bool × List (List Nat × List Nat) := (true, [([], []), ([0], [0]), ([], []), ([2], [2]), ([], []), ([4], [4]), ([3, 5], [3, 5]), ([6], [6]), ([1, 7], [1, 7]), ([8, 7, 0, 1, 2, 3, 4, 5, 6, 7, 8], [8])])
def mw_plus.B2 : List Nat := [0, 1, 0, 4, 0, 16, 60, 124, 255, 511]
theorem mw_plus.tab2 : rtab .any (opsOf Try.f128 2) = mw_plus.T2 := by kernel_rfl
theorem mw_plus.bits2 : waitsOk mw_plus.T2.2 mw_plus.B2 = true := by kernel_rfl
set_option maxHeartbeats 8000000 in
set_option maxRecDepth 100000 in
theorem mw_plus.calls (k : Nat) (a0_0 : Bool) (P0_1_ : Nat → Prop) (A0_1 : Option Addr) (c0_1 : Nat) (l0_1 : List Int) (a1_0 : Bool) (P1_1_ : Nat → Prop) (A1_1 : Option Addr) (c1_1 : Nat) (l1_1 : List Int) (r1 : Bool) (r2 : List Int) (w : World) (hs0_1 : Kd.V (Kd.int .u32) 97 w w.heap.size (fun k_ => P0_1_ k_) (.slice A0_1 l0_1.length c0_1) l0_1) (hs1_1 : Kd.V (Kd.int .u32) 97 w w.heap.size (fun k_ => P1_1_ k_) (.slice A1_1 l1_1.length c1_1) l1_1) (h : mw_plus.f k a0_0 l0_1 a1_0 l1_1 = some (r1, r2)) :
    Calls Try.prog 128 #[.agg #[.bool a0_0, .slice A0_1 l0_1.length c0_1], .agg #[.bool a1_0, .slice A1_1 l1_1.length c1_1]] w fun e w' => ∃ v1_ : Value, e = .returned (.agg #[.bool r1, v1_]) ∧ Kd.V (Kd.int .u32) 97 w' w.heap.size (fun k_ => ((P0_1_ k_ ∨ P1_1_ k_) ∨ w.heap.size ≤ k_)) v1_ r2 ∧ Below w.heap.size w w' := by
 have hu113 := Try.underlying113
 have HO0_1 := zk (show Kd.V (Kd.int .u32) 97 w w.heap.size (fun k_ => ((P0_1_ k_ ∨ P1_1_ k_) ∨ w.heap.size ≤ k_)) (.slice A0_1 l0_1.length c0_1) l0_1 from Kd.V_mono hs0_1 (fun k_ hk => .inl (.inl hk)))
 have HO1_1 := zk (show Kd.V (Kd.int .u32) 97 w w.heap.size (fun k_ => ((P0_1_ k_ ∨ P1_1_ k_) ∨ w.heap.size ≤ k_)) (.slice A1_1 l1_1.length c1_1) l1_1 from Kd.V_mono hs1_1 (fun k_ hk => .inl (.inr hk)))
 have HB := zk (Below.refl w.heap.size w)
 have H := h
 clear h
 unfold mw_plus.f at H
 replace H := zi H
 rcases H with ⟨c3, H⟩ | ⟨c3, H⟩
 · have c3b0 : (a0_0 == a1_0) = true := c3
   (try (have c3b1 : decide (a0_0 = a1_0) = true := by simpa using c3))
   (try (have c3b2 : (a0_0 == a1_0) = true := by simpa using c3))
   clear c3
   obtain ⟨ya4, hya4⟩ : ∃ y_ : List (List Int), y_ = (([l0_1, l1_1] : List (List Int))) := ⟨_, rfl⟩
   replace H : ((nat_Add.f k ya4).bind fun ta7 => (some (a0_0, ta7))) = some (r1, r2) := zY hya4 H
   have Nya4 := zk hya4
   clear hya4
   replace H := zb H
   obtain ⟨ta7, A4, H⟩ := H
   simp only [Option.some.injEq, Prod.mk.injEq] at H
   obtain ⟨rfl, rfl⟩ := H
   go_enter Try.func128, Try.ntmps128
   try go_wp2_with (first | ((with_reducible refine gate_dst (N := 2) rfl ?_); refine box_event ?hg (N := 2) ?hd (cs := #[.bool a0_0, .slice A0_1 l0_1.length c0_1]) (t := 113) ?hr ?_; (case hd => rfl); (case hg => rfl); (case hr => first | (go_simp; done) | (go_simp; rfl)); intro gba1 hg w5 hbox hb; replace HO0_1 := yVB HO0_1 hg hb; replace HO1_1 := yVB HO1_1 hg hb; have BKa1 := zk (hbox); have GWa1 := yg hg HB; have GEa1 := yg hg HB; replace HB := yS HB hb; clear hb hbox hg) | ((with_reducible refine gate_dst (N := 3) rfl ?_); refine box_event ?hg (N := 3) ?hd (cs := #[.bool a1_0, .slice A1_1 l1_1.length c1_1]) (t := 113) ?hr ?_; (case hd => rfl); (case hg => rfl); (case hr => first | (go_simp; done) | (go_simp; rfl)); intro gba2 hg w6 hbox hb; replace HO0_1 := yVB HO0_1 hg hb; replace HO1_1 := yVB HO1_1 hg hb; have BKa2 := zk (hbox); have GWa2 := yg1 hg HB GEa1; have GEa2 := yg1 hg HB GEa1; replace HB := yS1 HB GEa1 hb; have NBa1_102 := ynl hg BKa1; have NBa2_101 := yng hg BKa1; replace BKa1 := yK BKa1 hb; clear hb hbox hg) | ((with_reducible refine gate_dst (N := 4) rfl ?_); refine box_event ?hg (N := 4) ?hd (cs := #[.bool false, .slice none 0 0]) (t := 113) ?hr ?_; (case hd => rfl); (case hg => rfl); (case hr => first | (go_simp; done) | (go_simp; rfl)); intro gba3 hg w7 hbox hb; replace HO0_1 := yVB HO0_1 hg hb; replace HO1_1 := yVB HO1_1 hg hb; have BKa3 := zk (hbox); have GWa3 := yg2 hg HB GEa1 GEa2; have GEa3 := yg2 hg HB GEa1 GEa2; replace HB := yS2 HB GEa1 GEa2 hb; have NBa1_103 := ynl hg BKa1; have NBa3_101 := yng hg BKa1; replace BKa1 := yK BKa1 hb; have NBa2_103 := ynl hg BKa2; have NBa3_102 := yng hg BKa2; replace BKa2 := yK BKa2 hb; clear hb hbox hg; have hnb8 := NBa1_102.out; have hnc8 := NBa2_101.out; have hnb9 := NBa1_103.out; have hnc9 := NBa3_101.out; obtain ⟨hcz10_0, hcz10_1, hfz10_0, hfz10_1⟩ := zz2 BKa1; have hnb11 := NBa2_103.out; have hnc11 := NBa3_102.out; obtain ⟨hcz12_0, hcz12_1, hfz12_0, hfz12_1⟩ := zz2 BKa2))
   replace HO0_1 := zk (Kd.V_drew HO0_1.out)
   replace HO1_1 := zk (Kd.V_drew HO1_1.out)
   replace BKa1 := zk (blk_drew BKa1.out)
   replace BKa2 := zk (blk_drew BKa2.out)
   replace BKa3 := zk (blk_drew BKa3.out)
   replace HB := zk (below_drew1 HB.out)
   refine start_ (n := 10) (S := fun w' => w'.cell? ⟨gba1, 0, none⟩ = some (.bool a0_0) ∧ w'.cell? ⟨gba1, 1, none⟩ = some (.slice A0_1 l0_1.length c0_1) ∧ w'.cell? ⟨gba2, 0, none⟩ = some (.bool a1_0) ∧ w'.cell? ⟨gba2, 1, none⟩ = some (.slice A1_1 l1_1.length c1_1)) (ds := []) #[false, false, false, false, false, false, false, false, false, false] (by kernel_rfl) rfl rfl ⟨(blk_cell BKa1.out 0).trans rfl, (blk_cell BKa1.out 1).trans rfl, (blk_cell BKa2.out 0).trans rfl, (blk_cell BKa2.out 1).trans rfl⟩ (fun hHeld => ?_); refine with_tabW mw_plus.tab2 mw_plus.bits2 (fun HT_ HW_ => ?_)
   generalize w7.drew = w13 at HO0_1 HO1_1 BKa1 BKa2 BKa3 HB hHeld ⊢
   refine zp (i := 0) (N := some 12) HT_ ?_
   refine zp (i := 2) (N := some 14) HT_ ?_
   refine zp (i := 4) (N := some 16) HT_ ?_
   refine take_ (i := 1) (N := some 13) (v := ?_) (a' := ?_) #[true, true, true, false, true, false, false, false, false, false] rfl rfl (take_ofW HT_.out HW_.out (by kernel_rfl)) (fun _ _ _ h => h) (Or.inl ⟨by rfl, ?_⟩) hHeld ?_ ?_
   rotate_left
   · rintro w' ⟨s0, s1, s2, s3⟩
     go_simp
     with_reducible rfl
   rotate_left
   · simp only [Act.put, List.setIfInBounds_toArray, List.set_cons_zero, List.set_cons_succ, i64_w, i32_w]
     rfl
   refine take_ (i := 3) (N := some 15) (v := ?_) (a' := ?_) #[true, true, true, true, true, false, false, false, false, false] rfl rfl (take_ofW HT_.out HW_.out (by kernel_rfl)) (fun _ _ _ h => h) (Or.inl ⟨by rfl, ?_⟩) hHeld ?_ ?_
   rotate_left
   · rintro w' ⟨s0, s1, s2, s3⟩
     go_simp
     with_reducible rfl
   rotate_left
   · simp only [Act.put, List.setIfInBounds_toArray, List.set_cons_zero, List.set_cons_succ, i64_w, i32_w]
     rfl
   refine take_ (i := 5) (N := some 17) (v := ?_) (a' := ?_) #[true, true, true, true, true, true, false, false, false, false] rfl rfl (take_ofW HT_.out HW_.out (by kernel_rfl)) (fun _ _ _ h => h) (Or.inl ⟨by rfl, ?_⟩) hHeld ?_ ?_
   rotate_left
   · rintro w' ⟨s0, s1, s2, s3⟩
     go_simp
     with_reducible rfl
   rotate_left
   · simp only [Act.put, List.setIfInBounds_toArray, List.set_cons_zero, List.set_cons_succ, i64_w, i32_w]
     rfl
   refine one_ (i := 6) (N := some 18) #[true, true, true, true, true, true, true, false, false, false] rfl rfl (one_of HT_.out (by kernel_rfl)) (by decide) (fun K hK => ?_)
   refine Kd.N_lit_step (Kd.slice 97 (Kd.int .u32)) _ 29 ?hg (N' := 18) ?hd (xs := ([l0_1, l1_1] : List (List Int))) (inner := [.slice A0_1 l0_1.length c0_1, .slice A1_1 l1_1.length c1_1]) (ok := (fun k_ => ((P0_1_ k_ ∨ P1_1_ k_) ∨ w.heap.size ≤ k_) ∧ k_ ≠ gba1 ∧ k_ ≠ gba2 ∧ k_ ≠ gba3)) (okp := (fun k_ => ((P0_1_ k_ ∨ P1_1_ k_) ∨ w.heap.size ≤ k_) ∧ k_ ≠ gba1 ∧ k_ ≠ gba2 ∧ k_ ≠ gba3)) ?hr ?hp (fun _ hk => hk) ((show ∀ k_, w13.heap.size ≤ k_ → (fun k_ => ((P0_1_ k_ ∨ P1_1_ k_) ∨ w.heap.size ≤ k_) ∧ k_ ≠ gba1 ∧ k_ ≠ gba2 ∧ k_ ≠ gba3) k_ from fun k_ hk => ⟨(.inr (Nat.le_trans (below_size (zB3 HB.out GEa1.out GEa2.out GEa3.out)) hk)), Kd.freshB (g := gba1) (o := .cells #[.bool a0_0, .slice A0_1 l0_1.length c0_1] 113 (0, 0)) (zK BKa1.out) k_ hk, Kd.freshB (g := gba2) (o := .cells #[.bool a1_0, .slice A1_1 l1_1.length c1_1] 113 (0, 0)) (zK BKa2.out) k_ hk, Kd.freshB (g := gba3) (o := .cells #[.bool false, .slice none 0 0] 113 (0, 0)) (zK BKa3.out) k_ hk⟩) _ (Nat.le_refl _)) (Below.refl _ _) (Nat.le_refl _) (by simp) ?_; (case hd => rfl); (case hg => rfl); (case hr => first | (go_simp; done) | (go_simp; rfl)); (case hp => exact (Reps.one (show Kd.FK (Kd.slice 97 (Kd.int .u32)) _ _ l0_1 [.slice A0_1 l0_1.length c0_1] from (Kd.FK_slice_mk (Kd.V_reads' (Kd.V_mono (ok' := (fun k_ => ((P0_1_ k_ ∨ P1_1_ k_) ∨ w.heap.size ≤ k_) ∧ k_ ≠ gba1 ∧ k_ ≠ gba2 ∧ k_ ≠ gba3)) (HO0_1.out) (fun k_ hk => by exact ⟨hk.1.1.1, ⟨hk.1.1.2, ⟨hk.1.2, hk.2⟩⟩⟩))).2.1 (Kd.V_F (Kd.V_mono (ok' := (fun k_ => ((P0_1_ k_ ∨ P1_1_ k_) ∨ w.heap.size ≤ k_) ∧ k_ ≠ gba1 ∧ k_ ≠ gba2 ∧ k_ ≠ gba3)) (HO0_1.out) (fun k_ hk => by exact ⟨hk.1.1.1, ⟨hk.1.1.2, ⟨hk.1.2, hk.2⟩⟩⟩))))) (Reps.one (show Kd.FK (Kd.slice 97 (Kd.int .u32)) _ _ l1_1 [.slice A1_1 l1_1.length c1_1] from (Kd.FK_slice_mk (Kd.V_reads' (Kd.V_mono (ok' := (fun k_ => ((P0_1_ k_ ∨ P1_1_ k_) ∨ w.heap.size ≤ k_) ∧ k_ ≠ gba1 ∧ k_ ≠ gba2 ∧ k_ ≠ gba3)) (HO1_1.out) (fun k_ hk => by exact ⟨hk.1.1.1, ⟨hk.1.1.2, ⟨hk.1.2, hk.2⟩⟩⟩))).2.1 (Kd.V_F (Kd.V_mono (ok' := (fun k_ => ((P0_1_ k_ ∨ P1_1_ k_) ∨ w.heap.size ≤ k_) ∧ k_ ≠ gba1 ∧ k_ ≠ gba2 ∧ k_ ≠ gba3)) (HO1_1.out) (fun k_ hk => by exact ⟨hk.1.1.1, ⟨hk.1.1.2, ⟨hk.1.2, hk.2⟩⟩⟩))))) (Reps.none _ _))))
   intro va5 w14 ho15 hb hg_ hnew_
   clear hg_ hnew_
   (first | rw [← Nya4.out] at ho15 | (simp only [Int.reduceToNat] at ho15; rw [← Nya4.out] at ho15))
   replace HO0_1 := zk (Kd.V_elder' (zV HO0_1.out) (Kd.N_base ho15) hb)
   replace HO1_1 := zk (Kd.V_elder' (zV HO1_1.out) (Kd.N_base ho15) hb)
   have HOa6 := zk (Kd.N_lower ho15 (below_size (zB3 HB.out GEa1.out GEa2.out GEa3.out)))
   replace BKa1 := yK BKa1 hb
   replace BKa2 := yK BKa2 hb
   replace BKa3 := yK BKa3 hb
   replace HB := yS3 HB GEa1 GEa2 GEa3 hb
   clear hb ho15
   obtain ⟨Ao16, co16, eo16⟩ := Kd.N_slice HOa6.out
   (first | subst eo16 | (injection eo16 with f1_ f2_ f3_; have f4_ := f1_.symm; have f5_ := f3_.symm; clear f1_ f2_ f3_; subst f4_; subst f5_))
   refine hK.out _ _ ⟨(blk_cell BKa1.out 0).trans rfl, (blk_cell BKa1.out 1).trans rfl, (blk_cell BKa2.out 0).trans rfl, (blk_cell BKa2.out 1).trans rfl⟩ (fun hHeld => ?_)
   clear hK K
   refine norm_ (a' := ?_) ?_ ?_
   rotate_left
   · show Act.put _ (some 18) _ = _
     simp only [Act.put, List.setIfInBounds_toArray, List.set_cons_zero, List.set_cons_succ, i64_w, i32_w]
     rfl
   refine one_ (i := 7) (N := some 19) #[true, true, true, true, true, true, true, true, false, false] rfl rfl (one_of HT_.out (by kernel_rfl)) (by decide) (fun K hK => ?_)
   refine goes_ Try.func73 (by kernel_rfl) rfl #[.slice Ao16 ya4.length co16] (by rfl) rfl rfl (by (try simp only [List.map_toArray, List.map_cons, List.map_nil]); first | done | rfl | (simp only [List.length_drop, List.length_take]; rfl)) ?_
   with_reducible refine (nat_Add.calls k _ _ ya4 ta7 _ ?side1 ?side2 A4.out).mono ?_
   (case side1 => exact zC (Kd.N_reads' HOa6.out).2.2)
   (case side2 => exact (Kd.N_reads' HOa6.out).2.1)
   rintro e w17 ⟨va8, rfl, ho0, hb⟩
   refine ⟨_, rfl, ?_⟩
   replace HO0_1 := yVe HO0_1 ho0 hb
   replace HO1_1 := yVe HO1_1 ho0 hb
   replace HOa6 := yNe HOa6 ho0 hb
   replace ho0 := Kd.R_newM (M := fun k_ => (w.heap.size ≤ k_)) ho0 (below_size (zB3 HB.out GEa1.out GEa2.out GEa3.out)) (fun k_ h_ => h_)
   have HOa9 := yRl3 ho0 HB GEa1 GEa2 GEa3
   replace BKa1 := yK BKa1 hb
   replace BKa2 := yK BKa2 hb
   replace BKa3 := yK BKa3 hb
   replace HB := yS3 HB GEa1 GEa2 GEa3 hb
   (try clear hb)
   (try clear ho0)
   obtain ⟨Ao18, co18, eo18⟩ := Kd.R_slice HOa9.out
   (first | subst eo18 | (injection eo18 with f1_ f2_ f3_; have f4_ := f1_.symm; have f5_ := f3_.symm; clear f1_ f2_ f3_; subst f4_; subst f5_))
   refine hK.out _ _ ⟨(blk_cell BKa1.out 0).trans rfl, (blk_cell BKa1.out 1).trans rfl, (blk_cell BKa2.out 0).trans rfl, (blk_cell BKa2.out 1).trans rfl⟩ (fun hHeld => ?_)
   clear hK K
   refine norm_ (a' := ?_) ?_ ?_
   rotate_left
   · show Act.put _ (some 19) _ = _
     simp only [Act.put, List.setIfInBounds_toArray, List.set_cons_zero, List.set_cons_succ, i64_w, i32_w]
     rfl
   refine zp (i := 8) (N := some 20) HT_ ?_
   refine one_ (i := 9) (N := none) #[true, true, true, true, true, true, true, true, true, true] rfl rfl (one_of HT_.out (by kernel_rfl)) (by decide) (fun K hK => ?_)
   have hs19 : w17.cell? ⟨gba3, 0, none⟩ = some (.bool false) := (blk_cell BKa3.out 0).trans rfl
   have hfs19 := blk_frozen BKa3.out 0
   have hns19_0 := NBa1_103.out
   have hns19_1 := NBa2_103.out
   have hms19_0 := NBa3_101.out
   have hms19_1 := NBa3_102.out
   have hs20 : w17.cell? ⟨gba3, 1, none⟩ = some (.slice none 0 0) := (blk_cell BKa3.out 1).trans rfl
   have hfs20 := blk_frozen BKa3.out 1
   have hns20_0 := NBa1_103.out
   have hns20_1 := NBa2_103.out
   have hms20_0 := NBa3_101.out
   have hms20_1 := NBa3_102.out
   refine skip_ (w1 := ?_) (by rfl) rfl ?_ ?_
   rotate_left
   · go_simp
     rfl
   refine hK.out _ _ ⟨((cell_far (p := ⟨gba3, _, none⟩) NBa1_103.out _).trans (((cell_far (p := ⟨gba3, _, none⟩) NBa1_103.out _).trans (hHeld.1)))), ((cell_far (p := ⟨gba3, _, none⟩) NBa1_103.out _).trans (((cell_far (p := ⟨gba3, _, none⟩) NBa1_103.out _).trans (hHeld.2.1)))), ((cell_far (p := ⟨gba3, _, none⟩) NBa2_103.out _).trans (((cell_far (p := ⟨gba3, _, none⟩) NBa2_103.out _).trans (hHeld.2.2.1)))), ((cell_far (p := ⟨gba3, _, none⟩) NBa2_103.out _).trans (((cell_far (p := ⟨gba3, _, none⟩) NBa2_103.out _).trans (hHeld.2.2.2))))⟩ (fun hHeld => ?_)
   clear hK K
   refine done_ (done_of HT_.out (by kernel_rfl)) ?_
   try go_wp2
   refine bodyPost_ret (results_cell_row rfl _ _ gba3 113 #[.bool a0_0, .slice Ao18 ta7.length co18] (0, 0) _ rfl (zP2 BKa3.out) Try.underlying113 rfl (by kernel_rfl)) rfl ?_
   exact ⟨_, zE, Kd.V_mono (Kd.R_V (by (with_reducible repeat (first | apply Kd.R_alloc | apply Kd.R_drewN | apply Kd.R_drew)); exact Kd.R_mono (Kd.R_far (p := ⟨gba3, 1, none⟩) (Kd.R_far (p := ⟨gba3, 0, none⟩) (Kd.R_types HOa9.out BKa3.out (by decide)) (fun _ hk => hk.2) (.bool a0_0)) (fun _ hk => hk.2) (.slice Ao18 ta7.length co18)) (fun _ hk => hk.1.1))) (fun k_ hk => by first | exact ⟨(.inr (hk.1)), hk.2⟩ | exact (.inr (hk))), zB3 HB.out GEa1.out GEa2.out GEa3.out⟩
 have c3b0 : (a0_0 == a1_0) = false := by simpa using c3
 (try (have c3b1 : decide (a0_0 = a1_0) = false := by simpa using c3))
 (try (have c3b2 : (a0_0 == a1_0) = false := by simpa using c3))
 (try (have c3b3 : ¬ (a0_0 = a1_0) := by simpa using c3))
 clear c3
 replace H := zb H
 obtain ⟨tb0, A21, H⟩ := H
 replace H := zid H
 rcases H with ⟨c22b0, H⟩ | ⟨c22b0, H⟩
 · replace H := zb H
   obtain ⟨⟨tb1, tb4⟩, A23, H⟩ := H
   dsimp only at H
   simp only [Option.some.injEq, Prod.mk.injEq] at H
   obtain ⟨rfl, rfl⟩ := H
   go_enter Try.func128, Try.ntmps128
   go_wp2_with (first | ((with_reducible refine gate_dst (N := 2) rfl ?_); refine box_event ?hg (N := 2) ?hd (cs := #[.bool a0_0, .slice A0_1 l0_1.length c0_1]) (t := 113) ?hr ?_; (case hd => rfl); (case hg => rfl); (case hr => first | (go_simp; done) | (go_simp; rfl)); intro gba1 hg w24 hbox hb; replace HO0_1 := yVB HO0_1 hg hb; replace HO1_1 := yVB HO1_1 hg hb; have BKa1 := zk (hbox); have GWa1 := yg hg HB; have GEa1 := yg hg HB; replace HB := yS HB hb; clear hb hbox hg) | ((with_reducible refine gate_dst (N := 3) rfl ?_); refine box_event ?hg (N := 3) ?hd (cs := #[.bool a1_0, .slice A1_1 l1_1.length c1_1]) (t := 113) ?hr ?_; (case hd => rfl); (case hg => rfl); (case hr => first | (go_simp; done) | (go_simp; rfl)); intro gba2 hg w25 hbox hb; replace HO0_1 := yVB HO0_1 hg hb; replace HO1_1 := yVB HO1_1 hg hb; have BKa2 := zk (hbox); have GWa2 := yg1 hg HB GEa1; have GEa2 := yg1 hg HB GEa1; replace HB := yS1 HB GEa1 hb; have NBa1_102 := ynl hg BKa1; have NBa2_101 := yng hg BKa1; replace BKa1 := yK BKa1 hb; clear hb hbox hg) | ((with_reducible refine gate_dst (N := 4) rfl ?_); refine box_event ?hg (N := 4) ?hd (cs := #[.bool false, .slice none 0 0]) (t := 113) ?hr ?_; (case hd => rfl); (case hg => rfl); (case hr => first | (go_simp; done) | (go_simp; rfl)); intro gba3 hg w26 hbox hb; replace HO0_1 := yVB HO0_1 hg hb; replace HO1_1 := yVB HO1_1 hg hb; have BKa3 := zk (hbox); have GWa3 := yg2 hg HB GEa1 GEa2; have GEa3 := yg2 hg HB GEa1 GEa2; replace HB := yS2 HB GEa1 GEa2 hb; have NBa1_103 := ynl hg BKa1; have NBa3_101 := yng hg BKa1; replace BKa1 := yK BKa1 hb; have NBa2_103 := ynl hg BKa2; have NBa3_102 := yng hg BKa2; replace BKa2 := yK BKa2 hb; clear hb hbox hg; have hnb27 := NBa1_102.out; have hnc27 := NBa2_101.out; have hnb28 := NBa1_103.out; have hnc28 := NBa3_101.out; obtain ⟨hcz29_0, hcz29_1, hfz29_0, hfz29_1⟩ := zz2 BKa1; have hnb30 := NBa2_103.out; have hnc30 := NBa3_102.out; obtain ⟨hcz31_0, hcz31_1, hfz31_0, hfz31_1⟩ := zz2 BKa2) | ((with_reducible refine gC 79 ?_); refine zG (some 25) Try.func79 #[.slice A0_1 l0_1.length c0_1, .slice A1_1 l1_1.length c1_1] ?_; (with_reducible refine (nat_Cmp.calls k _ _ l0_1 _ _ l1_1 tb0 _ ?side1 ?side2 ?side3 ?side4 A21.out).mono ?_); (case side1 => exact zC (Kd.V_reads' HO0_1.out).2.2); (case side2 => exact (Kd.V_reads' HO0_1.out).2.1); (case side3 => exact zC (Kd.V_reads' HO1_1.out).2.2); (case side4 => exact (Kd.V_reads' HO1_1.out).2.1); rintro e w32 ⟨rfl, hb⟩; refine ⟨_, rfl, ?_⟩; replace HO0_1 := yVb HO0_1 hb; replace HO1_1 := yVb HO1_1 hb; replace BKa1 := yK BKa1 hb; replace BKa2 := yK BKa2 hb; replace BKa3 := yK BKa3 hb; replace HB := yS3 HB GEa1 GEa2 GEa3 hb; (try clear hb); (try clear hb2); (try clear hk); (try clear hi); obtain ⟨hcz33_0, hcz33_1, hfz33_0, hfz33_1⟩ := zz2 BKa2; obtain ⟨hcz34_0, hcz34_1, hfz34_0, hfz34_1⟩ := zz2 BKa1) | ((with_reducible refine gC 137 ?_); refine zG (some 34) Try.func137 #[.slice A1_1 l1_1.length c1_1, .slice A0_1 l0_1.length c0_1] ?_; (with_reducible refine (nat_Sub.calls k _ _ l1_1 _ _ l0_1 tb1 tb4 _ ?side1 ?side2 ?side3 ?side4 A23.out).mono ?_); (case side1 => refine (Kd.V_reads' (e := 97) (base := w.heap.size) (ok := fun k_ => (((((P0_1_ k_ ∨ P1_1_ k_) ∨ w.heap.size ≤ k_) ∧ k_ ≠ gba1) ∧ k_ ≠ gba2) ∧ k_ ≠ gba3)) (n := l1_1.length) (c := c1_1) ?_).2.2; exact (by (with_reducible repeat (first | apply Kd.V_alloc | apply Kd.V_drewN | apply Kd.V_drew)); exact (Kd.V_mono (Kd.V_mono (Kd.V_far (p := ⟨gba2, 1, none⟩) (Kd.V_far (p := ⟨gba2, 0, none⟩) (Kd.V_far (p := ⟨gba1, 1, none⟩) (Kd.V_far (p := ⟨gba1, 0, none⟩) (Kd.V_mono (Kd.V_mono HO1_1.out (fun k_ hk => (⟨hk, hk.1.1.2⟩ : _ ∧ k_ ≠ gba1))) (fun k_ hk => (⟨hk, hk.1.1.2⟩ : _ ∧ k_ ≠ gba2))) (fun _ hk => hk.1.2) (.bool a1_0)) (fun _ hk => hk.1.2) (.slice A1_1 l1_1.length c1_1)) (fun _ hk => hk.2) (.bool a0_0)) (fun _ hk => hk.2) (.slice A0_1 l0_1.length c0_1)) (fun _ h_ => h_.1)) (fun _ h_ => h_.1)))); (case side2 => exact (Kd.V_reads' HO1_1.out).2.1); (case side3 => refine (Kd.V_reads' (e := 97) (base := w.heap.size) (ok := fun k_ => (((((P0_1_ k_ ∨ P1_1_ k_) ∨ w.heap.size ≤ k_) ∧ k_ ≠ gba1) ∧ k_ ≠ gba2) ∧ k_ ≠ gba3)) (n := l0_1.length) (c := c0_1) ?_).2.2; exact (by (with_reducible repeat (first | apply Kd.V_alloc | apply Kd.V_drewN | apply Kd.V_drew)); exact (Kd.V_mono (Kd.V_mono (Kd.V_far (p := ⟨gba2, 1, none⟩) (Kd.V_far (p := ⟨gba2, 0, none⟩) (Kd.V_far (p := ⟨gba1, 1, none⟩) (Kd.V_far (p := ⟨gba1, 0, none⟩) (Kd.V_mono (Kd.V_mono HO0_1.out (fun k_ hk => (⟨hk, hk.1.1.2⟩ : _ ∧ k_ ≠ gba1))) (fun k_ hk => (⟨hk, hk.1.1.2⟩ : _ ∧ k_ ≠ gba2))) (fun _ hk => hk.1.2) (.bool a1_0)) (fun _ hk => hk.1.2) (.slice A1_1 l1_1.length c1_1)) (fun _ hk => hk.2) (.bool a0_0)) (fun _ hk => hk.2) (.slice A0_1 l0_1.length c0_1)) (fun _ h_ => h_.1)) (fun _ h_ => h_.1)))); (case side4 => exact (Kd.V_reads' HO0_1.out).2.1); rintro e w35 ⟨vb2, rfl, ho0, hb⟩; refine ⟨_, rfl, ?_⟩; replace HO0_1 := zk (Kd.V_below (by (with_reducible repeat (first | apply Kd.V_alloc | apply Kd.V_drewN | apply Kd.V_drew)); exact (Kd.V_mono (Kd.V_mono (Kd.V_far (p := ⟨gba2, 1, none⟩) (Kd.V_far (p := ⟨gba2, 0, none⟩) (Kd.V_far (p := ⟨gba1, 1, none⟩) (Kd.V_far (p := ⟨gba1, 0, none⟩) (Kd.V_mono (Kd.V_mono HO0_1.out (fun k_ hk => (⟨hk, hk.1.1.2⟩ : _ ∧ k_ ≠ gba1))) (fun k_ hk => (⟨hk, hk.1.1.2⟩ : _ ∧ k_ ≠ gba2))) (fun _ hk => hk.1.2) (.bool a1_0)) (fun _ hk => hk.1.2) (.slice A1_1 l1_1.length c1_1)) (fun _ hk => hk.2) (.bool a0_0)) (fun _ hk => hk.2) (.slice A0_1 l0_1.length c0_1)) (fun _ h_ => h_.1)) (fun _ h_ => h_.1))) hb); replace HO1_1 := zk (Kd.V_below (by (with_reducible repeat (first | apply Kd.V_alloc | apply Kd.V_drewN | apply Kd.V_drew)); exact (Kd.V_mono (Kd.V_mono (Kd.V_far (p := ⟨gba2, 1, none⟩) (Kd.V_far (p := ⟨gba2, 0, none⟩) (Kd.V_far (p := ⟨gba1, 1, none⟩) (Kd.V_far (p := ⟨gba1, 0, none⟩) (Kd.V_mono (Kd.V_mono HO1_1.out (fun k_ hk => (⟨hk, hk.1.1.2⟩ : _ ∧ k_ ≠ gba1))) (fun k_ hk => (⟨hk, hk.1.1.2⟩ : _ ∧ k_ ≠ gba2))) (fun _ hk => hk.1.2) (.bool a1_0)) (fun _ hk => hk.1.2) (.slice A1_1 l1_1.length c1_1)) (fun _ hk => hk.2) (.bool a0_0)) (fun _ hk => hk.2) (.slice A0_1 l0_1.length c0_1)) (fun _ h_ => h_.1)) (fun _ h_ => h_.1))) hb); have HOb3 := zk (Kd.V_lower (Kd.V_mono (ok' := fun k_ => ((P0_1_ k_ ∨ P1_1_ k_) ∨ w.heap.size ≤ k_) ∧ k_ ≠ gba1 ∧ k_ ≠ gba2 ∧ k_ ≠ gba3) ho0 (fun k_ hk_ => ⟨(.inr (Nat.le_trans (below_size (zB3 HB.out GEa1.out GEa2.out GEa3.out)) hk_)), (Kd.freshB (g := gba1) (o := .cells #[.bool a1_0, .slice A1_1 l1_1.length c1_1] 113 (0, 0)) (by (with_reducible repeat (first | refine blk_drewN ?_ _ | refine blk_drew ?_ | refine blk_alloc ?_ _)); refine blk_far ?_ NBa1_102.out _; (with_reducible repeat (first | refine blk_drewN ?_ _ | refine blk_drew ?_ | refine blk_alloc ?_ _)); refine blk_far ?_ NBa1_102.out _; (with_reducible repeat (first | refine blk_drewN ?_ _ | refine blk_drew ?_ | refine blk_alloc ?_ _)); refine blk_put (cs := #[.bool a1_0, .slice A0_1 l0_1.length c0_1]) ?_ 1 _ rfl; (with_reducible repeat (first | refine blk_drewN ?_ _ | refine blk_drew ?_ | refine blk_alloc ?_ _)); refine blk_put (cs := #[.bool a0_0, .slice A0_1 l0_1.length c0_1]) ?_ 0 _ rfl; (with_reducible repeat (first | refine blk_drewN ?_ _ | refine blk_drew ?_ | refine blk_alloc ?_ _)); exact BKa1.out) k_ hk_), (Kd.freshB (g := gba2) (o := .cells #[.bool a0_0, .slice A0_1 l0_1.length c0_1] 113 (0, 0)) (by (with_reducible repeat (first | refine blk_drewN ?_ _ | refine blk_drew ?_ | refine blk_alloc ?_ _)); refine blk_put (cs := #[.bool a0_0, .slice A1_1 l1_1.length c1_1]) ?_ 1 _ rfl; (with_reducible repeat (first | refine blk_drewN ?_ _ | refine blk_drew ?_ | refine blk_alloc ?_ _)); refine blk_put (cs := #[.bool a1_0, .slice A1_1 l1_1.length c1_1]) ?_ 0 _ rfl; (with_reducible repeat (first | refine blk_drewN ?_ _ | refine blk_drew ?_ | refine blk_alloc ?_ _)); refine blk_far ?_ NBa2_101.out _; (with_reducible repeat (first | refine blk_drewN ?_ _ | refine blk_drew ?_ | refine blk_alloc ?_ _)); refine blk_far ?_ NBa2_101.out _; (with_reducible repeat (first | refine blk_drewN ?_ _ | refine blk_drew ?_ | refine blk_alloc ?_ _)); exact BKa2.out) k_ hk_), (Kd.freshB (g := gba3) (o := .cells #[.bool false, .slice none 0 0] 113 (0, 0)) (by (with_reducible repeat (first | refine blk_drewN ?_ _ | refine blk_drew ?_ | refine blk_alloc ?_ _)); refine blk_far ?_ NBa3_102.out _; (with_reducible repeat (first | refine blk_drewN ?_ _ | refine blk_drew ?_ | refine blk_alloc ?_ _)); refine blk_far ?_ NBa3_102.out _; (with_reducible repeat (first | refine blk_drewN ?_ _ | refine blk_drew ?_ | refine blk_alloc ?_ _)); refine blk_far ?_ NBa3_101.out _; (with_reducible repeat (first | refine blk_drewN ?_ _ | refine blk_drew ?_ | refine blk_alloc ?_ _)); refine blk_far ?_ NBa3_101.out _; (with_reducible repeat (first | refine blk_drewN ?_ _ | refine blk_drew ?_ | refine blk_alloc ?_ _)); exact BKa3.out) k_ hk_)⟩)) (below_size (zB3 HB.out GEa1.out GEa2.out GEa3.out))); replace BKa1 := zk (blk_below (g := gba1) (o := .cells #[.bool a1_0, .slice A1_1 l1_1.length c1_1] 113 (0, 0)) (by (with_reducible repeat (first | refine blk_drewN ?_ _ | refine blk_drew ?_ | refine blk_alloc ?_ _)); refine blk_far ?_ NBa1_102.out _; (with_reducible repeat (first | refine blk_drewN ?_ _ | refine blk_drew ?_ | refine blk_alloc ?_ _)); refine blk_far ?_ NBa1_102.out _; (with_reducible repeat (first | refine blk_drewN ?_ _ | refine blk_drew ?_ | refine blk_alloc ?_ _)); refine blk_put (cs := #[.bool a1_0, .slice A0_1 l0_1.length c0_1]) ?_ 1 _ rfl; (with_reducible repeat (first | refine blk_drewN ?_ _ | refine blk_drew ?_ | refine blk_alloc ?_ _)); refine blk_put (cs := #[.bool a0_0, .slice A0_1 l0_1.length c0_1]) ?_ 0 _ rfl; (with_reducible repeat (first | refine blk_drewN ?_ _ | refine blk_drew ?_ | refine blk_alloc ?_ _)); exact BKa1.out) hb); replace BKa2 := zk (blk_below (g := gba2) (o := .cells #[.bool a0_0, .slice A0_1 l0_1.length c0_1] 113 (0, 0)) (by (with_reducible repeat (first | refine blk_drewN ?_ _ | refine blk_drew ?_ | refine blk_alloc ?_ _)); refine blk_put (cs := #[.bool a0_0, .slice A1_1 l1_1.length c1_1]) ?_ 1 _ rfl; (with_reducible repeat (first | refine blk_drewN ?_ _ | refine blk_drew ?_ | refine blk_alloc ?_ _)); refine blk_put (cs := #[.bool a1_0, .slice A1_1 l1_1.length c1_1]) ?_ 0 _ rfl; (with_reducible repeat (first | refine blk_drewN ?_ _ | refine blk_drew ?_ | refine blk_alloc ?_ _)); refine blk_far ?_ NBa2_101.out _; (with_reducible repeat (first | refine blk_drewN ?_ _ | refine blk_drew ?_ | refine blk_alloc ?_ _)); refine blk_far ?_ NBa2_101.out _; (with_reducible repeat (first | refine blk_drewN ?_ _ | refine blk_drew ?_ | refine blk_alloc ?_ _)); exact BKa2.out) hb); replace BKa3 := zk (blk_below (g := gba3) (o := .cells #[.bool false, .slice none 0 0] 113 (0, 0)) (by (with_reducible repeat (first | refine blk_drewN ?_ _ | refine blk_drew ?_ | refine blk_alloc ?_ _)); refine blk_far ?_ NBa3_102.out _; (with_reducible repeat (first | refine blk_drewN ?_ _ | refine blk_drew ?_ | refine blk_alloc ?_ _)); refine blk_far ?_ NBa3_102.out _; (with_reducible repeat (first | refine blk_drewN ?_ _ | refine blk_drew ?_ | refine blk_alloc ?_ _)); refine blk_far ?_ NBa3_101.out _; (with_reducible repeat (first | refine blk_drewN ?_ _ | refine blk_drew ?_ | refine blk_alloc ?_ _)); refine blk_far ?_ NBa3_101.out _; (with_reducible repeat (first | refine blk_drewN ?_ _ | refine blk_drew ?_ | refine blk_alloc ?_ _)); exact BKa3.out) hb); replace HB := yS3 HB GEa1 GEa2 GEa3 hb; (try clear hb ho0); obtain ⟨hcz36_0, hcz36_1, hfz36_0, hfz36_1⟩ := zz2 BKa1; obtain ⟨Ao37, co37, rfl⟩ := Kd.V_slice HOb3.out; obtain ⟨hcz38_0, hcz38_1, hfz38_0, hfz38_1⟩ := zz2 BKa3))
   refine bodyPost_ret (results_cell_row rfl _ _ gba3 113 #[.bool a1_0, .slice Ao37 tb1.length co37] (0, 0) _ rfl (zP2 BKa3.out) Try.underlying113 rfl (by kernel_rfl)) rfl ?_
   exact ⟨_, zE, by (with_reducible repeat (first | apply Kd.V_alloc | apply Kd.V_drewN | apply Kd.V_drew)); exact Kd.V_mono (Kd.V_far (p := ⟨gba3, 1, none⟩) (Kd.V_far (p := ⟨gba3, 0, none⟩) (Kd.V_mono HOb3.out (fun k_ hk => (⟨hk, hk.2.2.2⟩ : _ ∧ k_ ≠ gba3))) (fun _ hk => hk.2) (.bool a1_0)) (fun _ hk => hk.2) (.slice Ao37 tb1.length co37)) (fun _ hk => hk.1.1), zB3 HB.out GEa1.out GEa2.out GEa3.out⟩
 replace H := zb H
 obtain ⟨⟨tb5, tb8⟩, A39, H⟩ := H
 dsimp only at H
 simp only [Option.some.injEq, Prod.mk.injEq] at H
 obtain ⟨rfl, rfl⟩ := H
 go_enter Try.func128, Try.ntmps128
 go_wp2_with (first | ((with_reducible refine gate_dst (N := 2) rfl ?_); refine box_event ?hg (N := 2) ?hd (cs := #[.bool a0_0, .slice A0_1 l0_1.length c0_1]) (t := 113) ?hr ?_; (case hd => rfl); (case hg => rfl); (case hr => first | (go_simp; done) | (go_simp; rfl)); intro gba1 hg w40 hbox hb; replace HO0_1 := yVB HO0_1 hg hb; replace HO1_1 := yVB HO1_1 hg hb; have BKa1 := zk (hbox); have GWa1 := yg hg HB; have GEa1 := yg hg HB; replace HB := yS HB hb; clear hb hbox hg) | ((with_reducible refine gate_dst (N := 3) rfl ?_); refine box_event ?hg (N := 3) ?hd (cs := #[.bool a1_0, .slice A1_1 l1_1.length c1_1]) (t := 113) ?hr ?_; (case hd => rfl); (case hg => rfl); (case hr => first | (go_simp; done) | (go_simp; rfl)); intro gba2 hg w41 hbox hb; replace HO0_1 := yVB HO0_1 hg hb; replace HO1_1 := yVB HO1_1 hg hb; have BKa2 := zk (hbox); have GWa2 := yg1 hg HB GEa1; have GEa2 := yg1 hg HB GEa1; replace HB := yS1 HB GEa1 hb; have NBa1_102 := ynl hg BKa1; have NBa2_101 := yng hg BKa1; replace BKa1 := yK BKa1 hb; clear hb hbox hg) | ((with_reducible refine gate_dst (N := 4) rfl ?_); refine box_event ?hg (N := 4) ?hd (cs := #[.bool false, .slice none 0 0]) (t := 113) ?hr ?_; (case hd => rfl); (case hg => rfl); (case hr => first | (go_simp; done) | (go_simp; rfl)); intro gba3 hg w42 hbox hb; replace HO0_1 := yVB HO0_1 hg hb; replace HO1_1 := yVB HO1_1 hg hb; have BKa3 := zk (hbox); have GWa3 := yg2 hg HB GEa1 GEa2; have GEa3 := yg2 hg HB GEa1 GEa2; replace HB := yS2 HB GEa1 GEa2 hb; have NBa1_103 := ynl hg BKa1; have NBa3_101 := yng hg BKa1; replace BKa1 := yK BKa1 hb; have NBa2_103 := ynl hg BKa2; have NBa3_102 := yng hg BKa2; replace BKa2 := yK BKa2 hb; clear hb hbox hg; have hnb43 := NBa1_102.out; have hnc43 := NBa2_101.out; have hnb44 := NBa1_103.out; have hnc44 := NBa3_101.out; obtain ⟨hcz45_0, hcz45_1, hfz45_0, hfz45_1⟩ := zz2 BKa1; have hnb46 := NBa2_103.out; have hnc46 := NBa3_102.out; obtain ⟨hcz47_0, hcz47_1, hfz47_0, hfz47_1⟩ := zz2 BKa2) | ((with_reducible refine gC 79 ?_); refine zG (some 25) Try.func79 #[.slice A0_1 l0_1.length c0_1, .slice A1_1 l1_1.length c1_1] ?_; (with_reducible refine (nat_Cmp.calls k _ _ l0_1 _ _ l1_1 tb0 _ ?side1 ?side2 ?side3 ?side4 A21.out).mono ?_); (case side1 => exact zC (Kd.V_reads' HO0_1.out).2.2); (case side2 => exact (Kd.V_reads' HO0_1.out).2.1); (case side3 => exact zC (Kd.V_reads' HO1_1.out).2.2); (case side4 => exact (Kd.V_reads' HO1_1.out).2.1); rintro e w48 ⟨rfl, hb⟩; refine ⟨_, rfl, ?_⟩; replace HO0_1 := yVb HO0_1 hb; replace HO1_1 := yVb HO1_1 hb; replace BKa1 := yK BKa1 hb; replace BKa2 := yK BKa2 hb; replace BKa3 := yK BKa3 hb; replace HB := yS3 HB GEa1 GEa2 GEa3 hb; (try clear hb); (try clear hb2); (try clear hk); (try clear hi); obtain ⟨hcz49_0, hcz49_1, hfz49_0, hfz49_1⟩ := zz2 BKa1; obtain ⟨hcz50_0, hcz50_1, hfz50_0, hfz50_1⟩ := zz2 BKa2) | ((with_reducible refine gC 137 ?_); refine zG (some 34) Try.func137 #[.slice A0_1 l0_1.length c0_1, .slice A1_1 l1_1.length c1_1] ?_; (with_reducible refine (nat_Sub.calls k _ _ l0_1 _ _ l1_1 tb5 tb8 _ ?side1 ?side2 ?side3 ?side4 A39.out).mono ?_); (case side1 => exact zC (Kd.V_reads' HO0_1.out).2.2); (case side2 => exact (Kd.V_reads' HO0_1.out).2.1); (case side3 => exact zC (Kd.V_reads' HO1_1.out).2.2); (case side4 => exact (Kd.V_reads' HO1_1.out).2.1); rintro e w51 ⟨vb6, rfl, ho0, hb⟩; refine ⟨_, rfl, ?_⟩; replace HO0_1 := yVb HO0_1 hb; replace HO1_1 := yVb HO1_1 hb; have HOb7 := zk (Kd.V_lower (Kd.V_mono (ok' := fun k_ => ((P0_1_ k_ ∨ P1_1_ k_) ∨ w.heap.size ≤ k_) ∧ k_ ≠ gba1 ∧ k_ ≠ gba2 ∧ k_ ≠ gba3) ho0 (fun k_ hk_ => ⟨(.inr (Nat.le_trans (below_size (zB3 HB.out GEa1.out GEa2.out GEa3.out)) hk_)), (Kd.freshB (g := gba1) (o := .cells #[.bool a0_0, .slice A0_1 l0_1.length c0_1] 113 (0, 0)) (zK BKa1.out) k_ hk_), (Kd.freshB (g := gba2) (o := .cells #[.bool a1_0, .slice A1_1 l1_1.length c1_1] 113 (0, 0)) (zK BKa2.out) k_ hk_), (Kd.freshB (g := gba3) (o := .cells #[.bool false, .slice none 0 0] 113 (0, 0)) (zK BKa3.out) k_ hk_)⟩)) (below_size (zB3 HB.out GEa1.out GEa2.out GEa3.out))); replace BKa1 := yK BKa1 hb; replace BKa2 := yK BKa2 hb; replace BKa3 := yK BKa3 hb; replace HB := yS3 HB GEa1 GEa2 GEa3 hb; (try clear hb ho0); obtain ⟨hcz52_0, hcz52_1, hfz52_0, hfz52_1⟩ := zz2 BKa1; obtain ⟨Ao53, co53, rfl⟩ := Kd.V_slice HOb7.out; obtain ⟨hcz54_0, hcz54_1, hfz54_0, hfz54_1⟩ := zz2 BKa3))
 refine bodyPost_ret (results_cell_row rfl _ _ gba3 113 #[.bool a0_0, .slice Ao53 tb5.length co53] (0, 0) _ rfl (zP2 BKa3.out) Try.underlying113 rfl (by kernel_rfl)) rfl ?_
 exact ⟨_, zE, by (with_reducible repeat (first | apply Kd.V_alloc | apply Kd.V_drewN | apply Kd.V_drew)); exact Kd.V_mono (Kd.V_far (p := ⟨gba3, 1, none⟩) (Kd.V_far (p := ⟨gba3, 0, none⟩) (Kd.V_mono HOb7.out (fun k_ hk => (⟨hk, hk.2.2.2⟩ : _ ∧ k_ ≠ gba3))) (fun _ hk => hk.2) (.bool a0_0)) (fun _ hk => hk.2) (.slice Ao53 tb5.length co53)) (fun _ hk => hk.1.1), zB3 HB.out GEa1.out GEa2.out GEa3.out⟩
set_option maxHeartbeats 8000000 in
set_option maxRecDepth 100000 in
theorem nat_times.calls (k : Nat) (A0 : Option Addr) (c0 : Nat) (l0 : List Int) (A1 : Option Addr) (c1 : Nat) (l1 : List Int) (r : List Int) (w : World) (hr0 : Kd.C (Kd.int .u32) w A0 l0.length l0) (hc0 : l0.length ≤ c0) (hr1 : Kd.C (Kd.int .u32) w A1 l1.length l1) (hc1 : l1.length ≤ c1) (h : nat_times.f k l0 l1 = some r) :
    Calls Try.prog 116 #[.slice A0 l0.length c0, .slice A1 l1.length c1] w fun e w' => ∃ v0_ : Value, e = .returned (v0_) ∧ Kd.V (Kd.int .u32) 97 w' w.heap.size (fun k_ => (w.heap.size ≤ k_)) v0_ r ∧ Below w.heap.size w w' := by
 have HR0 := zk hr0
 have HC0 := zk hc0
 clear hr0 hc0
 have HR1 := zk hr1
 have HC1 := zk hc1
 clear hr1 hc1
 have HB := zk (Below.refl w.heap.size w)
 have H := h
 clear h
 unfold nat_times.f at H
 obtain ⟨ji3, hji3⟩ : ∃ j_ : Int, (wrap64 ((l0.length : Int) + (l1.length : Int))) = j_ := ⟨_, rfl⟩
 replace H : (if 0 ≤ (ji3) then (if (ji3 : Int).toNat ≤ 70368744177664 then (nat_times.l0 k l1 (List.replicate (ji3 : Int).toNat 0) l0 (l0.length : Int) 0) else (none)) else (none)) = some r := by first | (rw [hji3] at H; exact H) | (simp only [hji3] at H ⊢; exact H)
 have hji3w : (IntKind.i64.wrap ((l0.length : Int) + (l1.length : Int))) = ji3 := (i64_w _).trans hji3
 replace H := zg H
 obtain ⟨c4, H⟩ := H
 have c4b0 := eq_true c4
 have c4b1 := decide_eq_true c4
 clear c4
 replace H := zg H
 obtain ⟨c5, H⟩ := H
 have c5b0 := eq_true c5
 have c5b1 := decide_eq_true c5
 clear c5
 obtain ⟨ya1, hya1⟩ : ∃ y_ : List Int, y_ = (List.replicate (ji3 : Int).toNat 0) := ⟨_, rfl⟩
 replace H : (nat_times.l0 k l1 ya1 l0 (l0.length : Int) 0) = some r := zY hya1 H
 have Nya1 := zk hya1
 clear hya1
 have H' := zk H
 clear H
 go_enter Try.func116, Try.ntmps116
 go_wp2_with (first | ((with_reducible refine gate_dst (N := 17) rfl ?_); refine Kd.R_make (Kd.int .u32) _ 97 rfl (N := 17) rfl 29 _ _ rfl ji3 rfl rfl Try.underlying29 (.int .u32 0) 4 info97 rfl (by decide) (by omega) 0 (ok := fun _ => True) (okp := fun _ => True) rfl (fun _ hk => hk) trivial zd (Nat.le_trans (Nat.mul_le_mul_right _ (zd : ji3.toNat ≤ 70368744177664)) (by omega)) (Below.refl _ _) (Nat.le_refl _) ?_; intro va2 w6 ho7 hb hg_ hnew_; clear hg_ hnew_; (first | rw [← Nya1.out] at ho7 | (simp only [Int.reduceToNat] at ho7; rw [← Nya1.out] at ho7)); replace ho7 := Kd.R_newM (M := fun k_ => (w.heap.size ≤ k_)) ho7 (below_size (zB HB.out)) (fun k_ h_ => h_); have HOa3 := yRl ho7 HB; replace HB := yS HB hb; clear hb ho7))
 go_loopg [20] k (fun kq v20 w' => ∃ (x5_1 : List Int) (x20_1 : Int), v20 = .int .i64 x20_1 ∧ Aside0 (nat_times.l0 kq l1 x5_1 l0 (l0.length : Int) x20_1 = some r) ∧ Aside0 (kq ≤ k) ∧ Aside0 (Kd.R (Kd.int .u32) 97 w' w.heap.size (fun k_ => (w.heap.size ≤ k_)) va2 x5_1) ∧ Aside0 (Below w.heap.size w w'))
 case atStart => exact ⟨(ya1), (0), zF, H', ⟨Nat.le_refl _⟩, ⟨by (with_reducible repeat (first | apply Kd.R_alloc | apply Kd.R_drewN | apply Kd.R_drew)); exact Kd.R_mono HOa3.out (fun _ hk => hk.1)⟩, ⟨zB HB.out⟩⟩
 clear H'
 (try clear c4);(try clear c4b0);(try clear c4b1);(try clear c5);(try clear c5b0);(try clear c5b1)
 obtain ⟨x5_1, x20_1, rfl, HA, HK1, HO_5, HB⟩ := hrel
 cases gk with | zero => exact absurd HA.out (by simp [nat_times.l0]) | succ k1 => ?_
 have H := HA.out
 clear HA
 simp only [nat_times.l0] at H
 replace H := zid H
 rcases H with ⟨c8b0, H⟩ | ⟨c8b0, H⟩
 · replace H := zgd H
   obtain ⟨c9b0, H⟩ := H
   replace H := zgd H
   obtain ⟨c10b0, H⟩ := H
   have H' := zk H
   clear H
   have pa7 : 0 ≤ (x20_1 : Int) := zd
   have qa7 : x20_1 < (l0.length : Int) := zd
   obtain ⟨ada7, ea7, hxa7_0⟩ := Kd.at_int HR0.out x20_1 pa7 qa7
   cases ea7
   replace hxa7_0 := (HB.out.cell (World.block_lt_of_cell? w _ hxa7_0)).trans hxa7_0
   replace pa7 := eq_true pa7
   replace qa7 := eq_true qa7
   go_wp2
   go_loopg [8, 27] k1 (fun kq v8 v27 w' => ∃ (x5_2 : List Int) (x8_2 : Int) (x27_2 : Int), v8 = .int .u64 x8_2 ∧ v27 = .int .i64 x27_2 ∧ Aside0 (nat_times.l1 kq l1 x5_2 x20_1 (rd l0 x20_1) x8_2 l0 (l0.length : Int) x20_1 l1 (l1.length : Int) x27_2 = some r) ∧ Aside0 (kq ≤ k1) ∧ Aside0 (Kd.R (Kd.int .u32) 97 w' w.heap.size (fun k_ => (w.heap.size ≤ k_)) va2 x5_2) ∧ Aside0 (Below w.heap.size w w'))
   case atStart => exact ⟨(x5_1), (0), (0), zF, zF, H', ⟨Nat.le_refl _⟩, ⟨zR HO_5.out⟩, ⟨zB HB.out⟩⟩
   clear H'
   (try clear c4);(try clear c4b0);(try clear c4b1);(try clear c5);(try clear c5b0);(try clear c5b1);(try clear c8b0);(try clear c9b0);(try clear c10b0);(try clear hxa7_0);(try clear pa7);(try clear qa7)
   obtain ⟨x5_2, x8_2, x27_2, rfl, rfl, HA, HK2, HO_5, HB⟩ := hrel
   cases gk with | zero => exact absurd HA.out (by simp [nat_times.l1]) | succ k2 => ?_
   have H := HA.out
   clear HA
   simp only [nat_times.l1] at H
   replace H := zid H
   rcases H with ⟨c11b0, H⟩ | ⟨c11b0, H⟩
   · replace H := zgd H
     obtain ⟨c12b0, H⟩ := H
     replace H := zgd H
     obtain ⟨c13b0, H⟩ := H
     obtain ⟨ji14, hji14⟩ : ∃ j_ : Int, (wrap64 (x20_1 + x27_2)) = j_ := ⟨_, rfl⟩
     replace H : (if 0 ≤ (ji14) then (if (ji14) < (x5_2.length : Int) then (nat_times.l1 k2 l1 (x5_2.set ((ji14) : Int).toNat ((IntKind.u64.wrap ((IntKind.u64.wrap ((IntKind.u64.wrap ((IntKind.u64.wrap ((rd l0 x20_1))) * (IntKind.u64.wrap (rd l1 x27_2)))) + (IntKind.u64.wrap (rd x5_2 (ji14))))) + x8_2)) % 4294967296)) x20_1 (rd l0 x20_1) ((IntKind.u64.wrap ((IntKind.u64.wrap ((IntKind.u64.wrap ((IntKind.u64.wrap ((rd l0 x20_1))) * (IntKind.u64.wrap (rd l1 x27_2)))) + (IntKind.u64.wrap (rd x5_2 (ji14))))) + x8_2)) / 4294967296) l0 (l0.length : Int) x20_1 l1 (l1.length : Int) (wrap64 (x27_2 + 1))) else (none)) else (none)) = some r := by first | (rw [hji14] at H; exact H) | (simp only [hji14] at H ⊢; exact H)
     have hji14w : (IntKind.i64.wrap (x20_1 + x27_2)) = ji14 := (i64_w _).trans hji14
     replace H := zgd H
     obtain ⟨c15b0, H⟩ := H
     replace H := zgd H
     obtain ⟨c16b0, H⟩ := H
     obtain ⟨yb0, hyb0⟩ : ∃ y_ : List Int, y_ = (x5_2.set ((ji14) : Int).toNat ((IntKind.u64.wrap ((IntKind.u64.wrap ((IntKind.u64.wrap ((IntKind.u64.wrap ((rd l0 x20_1))) * (IntKind.u64.wrap (rd l1 x27_2)))) + (IntKind.u64.wrap (rd x5_2 (ji14))))) + x8_2)) % 4294967296)) := ⟨_, rfl⟩
     replace H : (nat_times.l1 k2 l1 yb0 x20_1 (rd l0 x20_1) ((IntKind.u64.wrap ((IntKind.u64.wrap ((IntKind.u64.wrap ((IntKind.u64.wrap ((rd l0 x20_1))) * (IntKind.u64.wrap (rd l1 x27_2)))) + (IntKind.u64.wrap (rd x5_2 (ji14))))) + x8_2)) / 4294967296) l0 (l0.length : Int) x20_1 l1 (l1.length : Int) (wrap64 (x27_2 + 1))) = some r := zY hyb0 H
     have Nyb0 := zk hyb0
     clear hyb0
     have H' := zk H
     clear H
     have pa8 : 0 ≤ (x27_2 : Int) := zd
     have qa8 : x27_2 < (l1.length : Int) := zd
     obtain ⟨ada8, ea8, hxa8_0⟩ := Kd.at_int HR1.out x27_2 pa8 qa8
     cases ea8
     replace hxa8_0 := (HB.out.cell (World.block_lt_of_cell? w _ hxa8_0)).trans hxa8_0
     replace pa8 := eq_true pa8
     replace qa8 := eq_true qa8
     obtain ⟨Ao18, co18, rfl⟩ := Kd.R_slice HO_5.out
     have pa9 : 0 ≤ ((ji14) : Int) := zd
     have qa9 : (ji14) < (x5_2.length : Int) := zd
     obtain ⟨ada9, ea9, hxa9_0⟩ := Kd.at_int (Kd.R_reads' HO_5.out).2.2 (ji14) pa9 qa9
     cases ea9
     replace pa9 := eq_true pa9
     replace qa9 := eq_true qa9
     have p17 : 0 ≤ ((ji14) : Int) := zd
     have q17 : ((ji14) : Int) < ((x5_2.length : Int) : Int) := zd
     obtain ⟨go17, co17, eo17, gb17, gl17, cl17, HG17⟩ := Kd.R_form HO_5.out (by omega)
     (first | cases eo17 | (injection eo17 with ea_ en_ ec_; (first | subst ea_ | (injection ea_ with ea_; subst ea_)); subst ec_; clear en_))
     have GB17 := zk gb17
     have GG17 := zk HG17
     clear gb17 gl17 HG17
     (first | simp only [add_plain] at hxa9_0 | skip)
     obtain ⟨hx17_0, hf17_0⟩ := Kd.R_celln 0 HO_5.out ((ji14) : Int) p17 q17
     replace p17 := eq_true p17
     replace q17 := eq_true q17
     have HP19 := Kd.R_putg HO_5.out ((ji14) : Int) ((IntKind.u64.wrap ((IntKind.u64.wrap ((IntKind.u64.wrap ((IntKind.u64.wrap ((rd l0 x20_1))) * (IntKind.u64.wrap (rd l1 x27_2)))) + (IntKind.u64.wrap (rd x5_2 (ji14))))) + x8_2)) % 4294967296)
     go_wp2_with (first | ((with_reducible refine gate_store (t := 97) (p := 53) rfl ?_); refine store_event (t := 97) (p := 53) (v := ?vo_w20) (w1 := (wr.setCell ⟨go17, ((ji14) : Int).toNat, none⟩ (.int .u32 ((IntKind.u64.wrap ((IntKind.u64.wrap ((IntKind.u64.wrap ((IntKind.u64.wrap ((rd l0 x20_1))) * (IntKind.u64.wrap (rd l1 x27_2)))) + (IntKind.u64.wrap (rd x5_2 (ji14))))) + x8_2)) % 4294967296)))) ?hg ?ho ?hn ?hr ?_; (case ho => rfl); (case hg => rfl); (case hn => rfl); (case hr => first | (go_simp; done) | (go_simp; rfl)); intro w20 hw; have hg : wr.grownBy w20 (some go17) := (by rw [hw]; exact HP19.2); have hp_ : Kd.R (Kd.int .u32) 97 w20 w.heap.size (fun k_ => (w.heap.size ≤ k_)) (.slice (some ⟨go17, 0, none⟩) x5_2.length co18) yb0 := (by rw [hw, Nyb0.out]; exact HP19.1); clear HP19; replace HO_5 := zk (hp_); replace HB := zk ((by rw [hw]; exact below_set (HB.out) GB17.out : Below w.heap.size w w20)); clear hg hw hp_))
     go_roundg k2
     case measure => have := HK1.out; have := HK2.out; omega
     case rel => exact ⟨(yb0), ((IntKind.u64.wrap ((IntKind.u64.wrap ((IntKind.u64.wrap ((IntKind.u64.wrap ((rd l0 x20_1))) * (IntKind.u64.wrap (rd l1 x27_2)))) + (IntKind.u64.wrap (rd x5_2 (ji14))))) + x8_2)) / 4294967296), (wrap64 (x27_2 + 1)), (by first | rfl | (simp; done) | (simp only [← hji14] <;> (first | rfl | simp)) | (simp [*]; done)), zF, H', ⟨zo2 HK1 HK2⟩, ⟨zR HO_5.out⟩, ⟨zB HB.out⟩⟩
   obtain ⟨ji21, hji21⟩ : ∃ j_ : Int, (wrap64 (x20_1 + (l1.length : Int))) = j_ := ⟨_, rfl⟩
   replace H : (if 0 ≤ (ji21) then (if (ji21) < (x5_2.length : Int) then (nat_times.l0 k2 l1 (x5_2.set ((ji21) : Int).toNat ((x8_2) % 4294967296)) l0 (l0.length : Int) (wrap64 (x20_1 + 1))) else (none)) else (none)) = some r := by first | (rw [hji21] at H; exact H) | (simp only [hji21] at H ⊢; exact H)
   have hji21w : (IntKind.i64.wrap (x20_1 + (l1.length : Int))) = ji21 := (i64_w _).trans hji21
   replace H := zgd H
   obtain ⟨c22b0, H⟩ := H
   replace H := zgd H
   obtain ⟨c23b0, H⟩ := H
   obtain ⟨yb1, hyb1⟩ : ∃ y_ : List Int, y_ = (x5_2.set ((ji21) : Int).toNat ((x8_2) % 4294967296)) := ⟨_, rfl⟩
   replace H : (nat_times.l0 k2 l1 yb1 l0 (l0.length : Int) (wrap64 (x20_1 + 1))) = some r := zY hyb1 H
   have Nyb1 := zk hyb1
   clear hyb1
   have H' := zk H
   clear H
   have p24 : 0 ≤ ((ji21) : Int) := zd
   have q24 : ((ji21) : Int) < ((x5_2.length : Int) : Int) := zd
   obtain ⟨go24, co24, eo24, gb24, gl24, cl24, HG24⟩ := Kd.R_form HO_5.out (by omega)
   (first | cases eo24 | (injection eo24 with ea_ en_ ec_; (first | subst ea_ | (injection ea_ with ea_; subst ea_)); subst ec_; clear en_))
   have GB24 := zk gb24
   have GG24 := zk HG24
   clear gb24 gl24 HG24
   obtain ⟨hx24_0, hf24_0⟩ := Kd.R_celln 0 HO_5.out ((ji21) : Int) p24 q24
   replace p24 := eq_true p24
   replace q24 := eq_true q24
   have HP25 := Kd.R_putg HO_5.out ((ji21) : Int) ((x8_2) % 4294967296)
   go_wp2_with (first | ((with_reducible refine gate_store (t := 97) (p := 64) rfl ?_); refine store_event (t := 97) (p := 64) (v := ?vo_w26) (w1 := (wr.setCell ⟨go24, ((ji21) : Int).toNat, none⟩ (.int .u32 ((x8_2) % 4294967296)))) ?hg ?ho ?hn ?hr ?_; (case ho => rfl); (case hg => rfl); (case hn => rfl); (case hr => first | (go_simp; done) | (go_simp; rfl)); intro w26 hw; have hg : wr.grownBy w26 (some go24) := (by rw [hw]; exact HP25.2); have hp_ : Kd.R (Kd.int .u32) 97 w26 w.heap.size (fun k_ => (w.heap.size ≤ k_)) (.slice (some ⟨go24, 0, none⟩) x5_2.length co24) yb1 := (by rw [hw, Nyb1.out]; exact HP25.1); clear HP25; replace HO_5 := zk (hp_); replace HB := zk ((by rw [hw]; exact below_set (HB.out) GB24.out : Below w.heap.size w w26)); clear hg hw hp_))
   go_roundg k2
   case measure => have := HK1.out; have := HK2.out; omega
   case rel => exact ⟨(yb1), (wrap64 (x20_1 + 1)), zF, H', ⟨zo2 HK1 HK2⟩, ⟨zR HO_5.out⟩, ⟨zB HB.out⟩⟩
 replace H := zb H
 obtain ⟨ta4, A27, H⟩ := H
 obtain rfl := Option.some.inj H
 obtain ⟨Ao28, co28, rfl⟩ := Kd.R_slice HO_5.out
 go_wp2_with (first | ((with_reducible refine gC 118 ?_); refine zG (some 67) Try.func118 #[.slice Ao28 x5_1.length co28] ?_; (with_reducible refine (nat_short.calls k1 (fun k_ => some k_ = (.slice Ao28 x5_1.length co28 : Value).ownBlock) _ _ x5_1 ta4 _ ?side1 A27.out).mono ?_); (case side1 => exact Kd.R_V (Kd.R_tight rfl (HO_5.out))); rintro e w29 ⟨va5, rfl, ho0, hb⟩; refine ⟨_, rfl, ?_⟩; have HOa6 := zk (Kd.V_lower (Kd.V_mono (ok' := fun k_ => (w.heap.size ≤ k_)) ho0 (fun k_ hk_ => Or.elim hk_ (fun hs_ => ((HO_5.out).1 k_ hs_.symm)) (fun hn_ => (Nat.le_trans (below_size (zB HB.out)) hn_)))) (below_size (zB HB.out))); replace HO_5 := yRb HO_5 hb; replace HB := yS HB hb; (try clear hb ho0)))
 go_ret
 exact ⟨_, by first | rfl | (simp [errW_none, errW_some] <;> rfl) | (simp only [← hji3]; first | rfl | (simp [errW_none, errW_some] <;> rfl)) | (simp [*, errW_none, errW_some] <;> rfl), zV HOa6.out, zB HB.out⟩
set_option maxHeartbeats 8000000 in
set_option maxRecDepth 100000 in
theorem nat_Mul.calls (k : Nat) (A0 : Option Addr) (c0 : Nat) (l0 : List (List Int)) (r : List Int) (w : World) (hr0 : Kd.C (Kd.slice 97 (Kd.int .u32)) w A0 l0.length l0) (hc0 : l0.length ≤ c0) (h : nat_Mul.f k l0 = some r) :
    Calls Try.prog 74 #[.slice A0 l0.length c0] w fun e w' => ∃ v0_ : Value, e = .returned (v0_) ∧ Kd.R (Kd.int .u32) 97 w' w.heap.size (fun _ => True) v0_ r ∧ Below w.heap.size w w' := by
 have HR0 := zk hr0
 have HC0 := zk hc0
 clear hr0 hc0
 have HB := zk (Below.refl w.heap.size w)
 have H := h
 clear h
 unfold nat_Mul.f at H
 obtain ⟨ya1, hya1⟩ : ∃ y_ : List Int, y_ = (([1] : List Int)) := ⟨_, rfl⟩
 replace H : (nat_Mul.l0 k ya1 l0 (l0.length : Int) 0) = some r := zY hya1 H
 have Nya1 := zk hya1
 clear hya1
 have H' := zk H
 clear H
 go_enter Try.func74, Try.ntmps74
 go_wp2_with (first | ((with_reducible refine gate_dst (N := 6) rfl ?_); refine Kd.R_lit (Kd.int .u32) _ 97 ?hg (N := 6) ?hd (xs := ([1] : List Int)) (inner := [.int .u32 1]) (ok := fun _ => True) (okp := fun _ => True) ?hr ?hp (fun _ hk => hk) trivial (Below.refl _ _) (Nat.le_refl _) (by simp) ?_; (case hd => rfl); (case hg => rfl); (case hr => first | (go_simp; done) | (go_simp; rfl)); (case hp => exact (Reps.one (show Kd.M (Kd.int .u32) _ _ _ 1 [.int .u32 1] from rfl) (Reps.none _ _))); intro va2 w2 ho3 hb hg_ hnew_; clear hg_ hnew_; (first | rw [← Nya1.out] at ho3 | (simp only [Int.reduceToNat] at ho3; rw [← Nya1.out] at ho3)); have HOa3 := yRl ho3 HB; replace HB := yS HB hb; clear hb ho3))
 go_loopg [3, 9] k (fun kq v3 v9 w' => ∃ (x3_1 : List Int) (x9_1 : Int), v9 = .int .i64 x9_1 ∧ Aside0 (nat_Mul.l0 kq x3_1 l0 (l0.length : Int) x9_1 = some r) ∧ Aside0 (kq ≤ k) ∧ Aside0 (Kd.V (Kd.int .u32) 97 w' w.heap.size (fun _ => True) v3 x3_1) ∧ Aside0 (Below w.heap.size w w'))
 case atStart => exact ⟨(ya1), (0), zF, H', ⟨Nat.le_refl _⟩, ⟨Kd.R_V (zR HOa3.out)⟩, ⟨zB HB.out⟩⟩
 clear H'
 obtain ⟨x3_1, x9_1, rfl, HA, HK1, HO_3, HB⟩ := hrel
 cases gk with | zero => exact absurd HA.out (by simp [nat_Mul.l0]) | succ k1 => ?_
 have H := HA.out
 clear HA
 simp only [nat_Mul.l0] at H
 replace H := zid H
 rcases H with ⟨c4b0, H⟩ | ⟨c4b0, H⟩
 · replace H := zgd H
   obtain ⟨c5b0, H⟩ := H
   replace H := zgd H
   obtain ⟨c6b0, H⟩ := H
   replace H := zb H
   obtain ⟨ta5, A7, H⟩ := H
   replace H := zb H
   obtain ⟨ta8, A8, H⟩ := H
   have H' := zk H
   clear H
   have pa4 : 0 ≤ (x9_1 : Int) := zd
   have qa4 : x9_1 < (l0.length : Int) := zd
   obtain ⟨ada4, Aa4_0, ca4_0, ea4, hxa4_0, hla4_0, hia4_0⟩ := at_L3 HR0.out x9_1 pa4 qa4
   cases ea4
   replace hxa4_0 := (HB.out.cell (World.block_lt_of_cell? w _ hxa4_0)).trans hxa4_0
   have HRa4_0 := zk hia4_0
   have HCa4_0 := zk hla4_0
   clear hia4_0 hla4_0
   replace pa4 := eq_true pa4
   replace qa4 := eq_true qa4
   go_wp2_with (first | ((with_reducible refine gC 118 ?_); refine zG (some 15) Try.func118 #[.slice Aa4_0 (rd_L3 l0 x9_1).length ca4_0] ?_; (with_reducible refine (nat_short.calls k1 (fun k_ => k_ < w.heap.size) _ _ (rd_L3 l0 x9_1) ta5 _ ?side1 A7.out).mono ?_); (case side1 => exact Kd.V_mk HCa4_0.out (Kd.F_below (Kd.C_F (Kd.heap_int .u32) HRa4_0.out) (zB HB.out))); rintro e w9 ⟨va6, rfl, ho0, hb⟩; refine ⟨_, rfl, ?_⟩; replace HO_3 := yVb HO_3 hb; have HOa7 := yVm ho0 HB; replace HB := yS HB hb; (try clear hb ho0); obtain ⟨Ao10, co10, rfl⟩ := Kd.V_slice HO_3.out; obtain ⟨Ao11, co11, rfl⟩ := Kd.V_slice HOa7.out) | ((with_reducible refine gC 116 ?_); refine zG (some 16) Try.func116 #[.slice Ao10 x3_1.length co10, .slice Ao11 ta5.length co11] ?_; (with_reducible refine (nat_times.calls k1 _ _ x3_1 _ _ ta5 ta8 _ ?side1 ?side2 ?side3 ?side4 A8.out).mono ?_); (case side1 => exact zC (Kd.V_reads' HO_3.out).2.2); (case side2 => exact (Kd.V_reads' HO_3.out).2.1); (case side3 => exact zC (Kd.V_reads' HOa7.out).2.2); (case side4 => exact (Kd.V_reads' HOa7.out).2.1); rintro e w12 ⟨va9, rfl, ho0, hb⟩; refine ⟨_, rfl, ?_⟩; replace HO_3 := yVb HO_3 hb; replace HOa7 := yVb HOa7 hb; have HOb0 := yVm ho0 HB; replace HB := yS HB hb; (try clear hb ho0)))
   go_roundg k1
   case measure => have := HK1.out; omega
   case rel => exact ⟨(ta8), (wrap64 (x9_1 + 1)), zF, H', ⟨zo1 HK1⟩, ⟨zV HOb0.out⟩, ⟨zB HB.out⟩⟩
 replace H := zb H
 obtain ⟨tb1, A13, H⟩ := H
 obtain rfl := Option.some.inj H
 obtain ⟨Ao14, co14, rfl⟩ := Kd.V_slice HO_3.out
 go_wp2_with (first | ((with_reducible refine gC 103 ?_); refine zG (some 19) Try.func103 #[.slice Ao14 x3_1.length co14] ?_; (with_reducible refine (nat_Trim.calls k1 _ _ x3_1 tb1 _ ?side1 ?side2 A13.out).mono ?_); (case side1 => exact zC (Kd.V_reads' HO_3.out).2.2); (case side2 => exact (Kd.V_reads' HO_3.out).2.1); rintro e w15 ⟨vb2, rfl, ho0, hb⟩; refine ⟨_, rfl, ?_⟩; replace HO_3 := yVe HO_3 ho0 hb; have HOb3 := yRl ho0 HB; replace HB := yS HB hb; (try clear hb ho0)))
 go_ret
 exact ⟨_, zE, zR HOb3.out, zB HB.out⟩
def mw_times.T1 : Bool × List (List Nat × List Nat) := (true, [([], []), ([0], [0]), ([], []), ([2], [2]), ([1, 3], [1, 3]), ([], []), ([5], [5]), ([], []), ([7], [7]), ([6, 8], [6, 8]), ([9], [9]), ([4, 10], [4, 10]), ([11, 10, 0, 1, 2, 3, 4, 5, 6, 7, 8, 9, 10, 11], [11])])
def mw_times.B1 : List Nat := [0, 1, 0, 4, 15, 0, 32, 0, 128, 480, 992, 2047, 4095]
theorem mw_times.tab1 : rtab .any (opsOf Try.f126 1) = mw_times.T1 := by kernel_rfl
theorem mw_times.bits1 : waitsOk mw_times.T1.2 mw_times.B1 = true := by kernel_rfl
set_option maxHeartbeats 8000000 in
set_option maxRecDepth 100000 in
theorem mw_times.calls (k : Nat) (a0_0 : Bool) (P0_1_ : Nat → Prop) (A0_1 : Option Addr) (c0_1 : Nat) (l0_1 : List Int) (a1_0 : Bool) (P1_1_ : Nat → Prop) (A1_1 : Option Addr) (c1_1 : Nat) (l1_1 : List Int) (r1 : Bool) (r2 : List Int) (w : World) (hs0_1 : Kd.V (Kd.int .u32) 97 w w.heap.size (fun k_ => P0_1_ k_) (.slice A0_1 l0_1.length c0_1) l0_1) (hs1_1 : Kd.V (Kd.int .u32) 97 w w.heap.size (fun k_ => P1_1_ k_) (.slice A1_1 l1_1.length c1_1) l1_1) (h : mw_times.f k a0_0 l0_1 a1_0 l1_1 = some (r1, r2)) :
    Calls Try.prog 126 #[.agg #[.bool a0_0, .slice A0_1 l0_1.length c0_1], .agg #[.bool a1_0, .slice A1_1 l1_1.length c1_1]] w fun e w' => ∃ v1_ : Value, e = .returned (.agg #[.bool r1, v1_]) ∧ Kd.R (Kd.int .u32) 97 w' w.heap.size (fun k_ => (w.heap.size ≤ k_)) v1_ r2 ∧ Below w.heap.size w w' := by
 have hu113 := Try.underlying113
 have HO0_1 := zk (show Kd.V (Kd.int .u32) 97 w w.heap.size (fun k_ => ((P0_1_ k_ ∨ P1_1_ k_) ∨ w.heap.size ≤ k_)) (.slice A0_1 l0_1.length c0_1) l0_1 from Kd.V_mono hs0_1 (fun k_ hk => .inl (.inl hk)))
 have HO1_1 := zk (show Kd.V (Kd.int .u32) 97 w w.heap.size (fun k_ => ((P0_1_ k_ ∨ P1_1_ k_) ∨ w.heap.size ≤ k_)) (.slice A1_1 l1_1.length c1_1) l1_1 from Kd.V_mono hs1_1 (fun k_ hk => .inl (.inr hk)))
 have HB := zk (Below.refl w.heap.size w)
 have H := h
 clear h
 unfold mw_times.f at H
 obtain ⟨ya4, hya4⟩ : ∃ y_ : List (List Int), y_ = (([l0_1, l1_1] : List (List Int))) := ⟨_, rfl⟩
 replace H : ((nat_Mul.f k ya4).bind fun ta7 => (some ((a0_0 != a1_0), ta7))) = some (r1, r2) := zY hya4 H
 have Nya4 := zk hya4
 clear hya4
 replace H := zb H
 obtain ⟨ta7, A3, H⟩ := H
 simp only [Option.some.injEq, Prod.mk.injEq] at H
 obtain ⟨rfl, rfl⟩ := H
 go_enter Try.func126, Try.ntmps126
 try go_wp2_with (first | ((with_reducible refine gate_dst (N := 2) rfl ?_); refine box_event ?hg (N := 2) ?hd (cs := #[.bool a0_0, .slice A0_1 l0_1.length c0_1]) (t := 113) ?hr ?_; (case hd => rfl); (case hg => rfl); (case hr => first | (go_simp; done) | (go_simp; rfl)); intro gba1 hg w4 hbox hb; replace HO0_1 := yVB HO0_1 hg hb; replace HO1_1 := yVB HO1_1 hg hb; have BKa1 := zk (hbox); have GWa1 := yg hg HB; have GEa1 := yg hg HB; replace HB := yS HB hb; clear hb hbox hg) | ((with_reducible refine gate_dst (N := 3) rfl ?_); refine box_event ?hg (N := 3) ?hd (cs := #[.bool a1_0, .slice A1_1 l1_1.length c1_1]) (t := 113) ?hr ?_; (case hd => rfl); (case hg => rfl); (case hr => first | (go_simp; done) | (go_simp; rfl)); intro gba2 hg w5 hbox hb; replace HO0_1 := yVB HO0_1 hg hb; replace HO1_1 := yVB HO1_1 hg hb; have BKa2 := zk (hbox); have GWa2 := yg1 hg HB GEa1; have GEa2 := yg1 hg HB GEa1; replace HB := yS1 HB GEa1 hb; have NBa1_102 := ynl hg BKa1; have NBa2_101 := yng hg BKa1; replace BKa1 := yK BKa1 hb; clear hb hbox hg) | ((with_reducible refine gate_dst (N := 4) rfl ?_); refine box_event ?hg (N := 4) ?hd (cs := #[.bool false, .slice none 0 0]) (t := 113) ?hr ?_; (case hd => rfl); (case hg => rfl); (case hr => first | (go_simp; done) | (go_simp; rfl)); intro gba3 hg w6 hbox hb; replace HO0_1 := yVB HO0_1 hg hb; replace HO1_1 := yVB HO1_1 hg hb; have BKa3 := zk (hbox); have GWa3 := yg2 hg HB GEa1 GEa2; have GEa3 := yg2 hg HB GEa1 GEa2; replace HB := yS2 HB GEa1 GEa2 hb; have NBa1_103 := ynl hg BKa1; have NBa3_101 := yng hg BKa1; replace BKa1 := yK BKa1 hb; have NBa2_103 := ynl hg BKa2; have NBa3_102 := yng hg BKa2; replace BKa2 := yK BKa2 hb; clear hb hbox hg))
 replace HO0_1 := zk (Kd.V_drew HO0_1.out)
 replace HO1_1 := zk (Kd.V_drew HO1_1.out)
 replace BKa1 := zk (blk_drew BKa1.out)
 replace BKa2 := zk (blk_drew BKa2.out)
 replace BKa3 := zk (blk_drew BKa3.out)
 replace HB := zk (below_drew1 HB.out)
 refine start_ (n := 13) (S := fun w' => w'.cell? ⟨gba1, 0, none⟩ = some (.bool a0_0) ∧ w'.cell? ⟨gba1, 1, none⟩ = some (.slice A0_1 l0_1.length c0_1) ∧ w'.cell? ⟨gba2, 0, none⟩ = some (.bool a1_0) ∧ w'.cell? ⟨gba2, 1, none⟩ = some (.slice A1_1 l1_1.length c1_1)) (ds := []) #[false, false, false, false, false, false, false, false, false, false, false, false, false] (by kernel_rfl) rfl rfl ⟨(blk_cell BKa1.out 0).trans rfl, (blk_cell BKa1.out 1).trans rfl, (blk_cell BKa2.out 0).trans rfl, (blk_cell BKa2.out 1).trans rfl⟩ (fun hHeld => ?_); refine with_tabW mw_times.tab1 mw_times.bits1 (fun HT_ HW_ => ?_)
 generalize w6.drew = w7 at HO0_1 HO1_1 BKa1 BKa2 BKa3 HB hHeld ⊢
 refine zp (i := 0) (N := some 5) HT_ ?_
 refine zp (i := 2) (N := some 7) HT_ ?_
 refine zp (i := 5) (N := some 10) HT_ ?_
 refine zp (i := 7) (N := some 12) HT_ ?_
 refine take_ (i := 1) (N := some 6) (v := ?_) (a' := ?_) #[true, true, true, false, false, true, false, true, false, false, false, false, false] rfl rfl (take_ofW HT_.out HW_.out (by kernel_rfl)) (fun _ _ _ h => h) (Or.inl ⟨by rfl, ?_⟩) hHeld ?_ ?_
 rotate_left
 · rintro w' ⟨s0, s1, s2, s3⟩
   go_simp
   with_reducible rfl
 rotate_left
 · simp only [Act.put, List.setIfInBounds_toArray, List.set_cons_zero, List.set_cons_succ, i64_w, i32_w]
   rfl
 refine take_ (i := 3) (N := some 8) (v := ?_) (a' := ?_) #[true, true, true, true, false, true, false, true, false, false, false, false, false] rfl rfl (take_ofW HT_.out HW_.out (by kernel_rfl)) (fun _ _ _ h => h) (Or.inl ⟨by rfl, ?_⟩) hHeld ?_ ?_
 rotate_left
 · rintro w' ⟨s0, s1, s2, s3⟩
   go_simp
   with_reducible rfl
 rotate_left
 · simp only [Act.put, List.setIfInBounds_toArray, List.set_cons_zero, List.set_cons_succ, i64_w, i32_w]
   rfl
 refine zp (i := 4) (N := some 9) HT_ ?_
 refine take_ (i := 6) (N := some 11) (v := ?_) (a' := ?_) #[true, true, true, true, true, true, true, true, false, false, false, false, false] rfl rfl (take_ofW HT_.out HW_.out (by kernel_rfl)) (fun _ _ _ h => h) (Or.inl ⟨by rfl, ?_⟩) hHeld ?_ ?_
 rotate_left
 · rintro w' ⟨s0, s1, s2, s3⟩
   go_simp
   with_reducible rfl
 rotate_left
 · simp only [Act.put, List.setIfInBounds_toArray, List.set_cons_zero, List.set_cons_succ, i64_w, i32_w]
   rfl
 refine take_ (i := 8) (N := some 13) (v := ?_) (a' := ?_) #[true, true, true, true, true, true, true, true, true, false, false, false, false] rfl rfl (take_ofW HT_.out HW_.out (by kernel_rfl)) (fun _ _ _ h => h) (Or.inl ⟨by rfl, ?_⟩) hHeld ?_ ?_
 rotate_left
 · rintro w' ⟨s0, s1, s2, s3⟩
   go_simp
   with_reducible rfl
 rotate_left
 · simp only [Act.put, List.setIfInBounds_toArray, List.set_cons_zero, List.set_cons_succ, i64_w, i32_w]
   rfl
 refine one_ (i := 9) (N := some 14) #[true, true, true, true, true, true, true, true, true, true, false, false, false] rfl rfl (one_of HT_.out (by kernel_rfl)) (by decide) (fun K hK => ?_)
 refine Kd.N_lit_step (Kd.slice 97 (Kd.int .u32)) _ 29 ?hg (N' := 14) ?hd (xs := ([l0_1, l1_1] : List (List Int))) (inner := [.slice A0_1 l0_1.length c0_1, .slice A1_1 l1_1.length c1_1]) (ok := (fun k_ => ((P0_1_ k_ ∨ P1_1_ k_) ∨ w.heap.size ≤ k_) ∧ k_ ≠ gba1 ∧ k_ ≠ gba2 ∧ k_ ≠ gba3)) (okp := (fun k_ => ((P0_1_ k_ ∨ P1_1_ k_) ∨ w.heap.size ≤ k_) ∧ k_ ≠ gba1 ∧ k_ ≠ gba2 ∧ k_ ≠ gba3)) ?hr ?hp (fun _ hk => hk) ((show ∀ k_, w7.heap.size ≤ k_ → (fun k_ => ((P0_1_ k_ ∨ P1_1_ k_) ∨ w.heap.size ≤ k_) ∧ k_ ≠ gba1 ∧ k_ ≠ gba2 ∧ k_ ≠ gba3) k_ from fun k_ hk => ⟨(.inr (Nat.le_trans (below_size (zB3 HB.out GEa1.out GEa2.out GEa3.out)) hk)), Kd.freshB (g := gba1) (o := .cells #[.bool a0_0, .slice A0_1 l0_1.length c0_1] 113 (0, 0)) (zK BKa1.out) k_ hk, Kd.freshB (g := gba2) (o := .cells #[.bool a1_0, .slice A1_1 l1_1.length c1_1] 113 (0, 0)) (zK BKa2.out) k_ hk, Kd.freshB (g := gba3) (o := .cells #[.bool false, .slice none 0 0] 113 (0, 0)) (zK BKa3.out) k_ hk⟩) _ (Nat.le_refl _)) (Below.refl _ _) (Nat.le_refl _) (by simp) ?_; (case hd => rfl); (case hg => rfl); (case hr => first | (go_simp; done) | (go_simp; rfl)); (case hp => exact (Reps.one (show Kd.FK (Kd.slice 97 (Kd.int .u32)) _ _ l0_1 [.slice A0_1 l0_1.length c0_1] from (Kd.FK_slice_mk (Kd.V_reads' (Kd.V_mono (ok' := (fun k_ => ((P0_1_ k_ ∨ P1_1_ k_) ∨ w.heap.size ≤ k_) ∧ k_ ≠ gba1 ∧ k_ ≠ gba2 ∧ k_ ≠ gba3)) (HO0_1.out) (fun k_ hk => by exact ⟨hk.1.1.1, ⟨hk.1.1.2, ⟨hk.1.2, hk.2⟩⟩⟩))).2.1 (Kd.V_F (Kd.V_mono (ok' := (fun k_ => ((P0_1_ k_ ∨ P1_1_ k_) ∨ w.heap.size ≤ k_) ∧ k_ ≠ gba1 ∧ k_ ≠ gba2 ∧ k_ ≠ gba3)) (HO0_1.out) (fun k_ hk => by exact ⟨hk.1.1.1, ⟨hk.1.1.2, ⟨hk.1.2, hk.2⟩⟩⟩))))) (Reps.one (show Kd.FK (Kd.slice 97 (Kd.int .u32)) _ _ l1_1 [.slice A1_1 l1_1.length c1_1] from (Kd.FK_slice_mk (Kd.V_reads' (Kd.V_mono (ok' := (fun k_ => ((P0_1_ k_ ∨ P1_1_ k_) ∨ w.heap.size ≤ k_) ∧ k_ ≠ gba1 ∧ k_ ≠ gba2 ∧ k_ ≠ gba3)) (HO1_1.out) (fun k_ hk => by exact ⟨hk.1.1.1, ⟨hk.1.1.2, ⟨hk.1.2, hk.2⟩⟩⟩))).2.1 (Kd.V_F (Kd.V_mono (ok' := (fun k_ => ((P0_1_ k_ ∨ P1_1_ k_) ∨ w.heap.size ≤ k_) ∧ k_ ≠ gba1 ∧ k_ ≠ gba2 ∧ k_ ≠ gba3)) (HO1_1.out) (fun k_ hk => by exact ⟨hk.1.1.1, ⟨hk.1.1.2, ⟨hk.1.2, hk.2⟩⟩⟩))))) (Reps.none _ _))))
 intro va5 w8 ho9 hb hg_ hnew_
 clear hg_ hnew_
 (first | rw [← Nya4.out] at ho9 | (simp only [Int.reduceToNat] at ho9; rw [← Nya4.out] at ho9))
 replace HO0_1 := zk (Kd.V_elder' (zV HO0_1.out) (Kd.N_base ho9) hb)
 replace HO1_1 := zk (Kd.V_elder' (zV HO1_1.out) (Kd.N_base ho9) hb)
 have HOa6 := zk (Kd.N_lower ho9 (below_size (zB3 HB.out GEa1.out GEa2.out GEa3.out)))
 replace BKa1 := yK BKa1 hb
 replace BKa2 := yK BKa2 hb
 replace BKa3 := yK BKa3 hb
 replace HB := yS3 HB GEa1 GEa2 GEa3 hb
 clear hb ho9
 obtain ⟨Ao10, co10, eo10⟩ := Kd.N_slice HOa6.out
 (first | subst eo10 | (injection eo10 with f1_ f2_ f3_; have f4_ := f1_.symm; have f5_ := f3_.symm; clear f1_ f2_ f3_; subst f4_; subst f5_))
 refine hK.out _ _ ⟨(blk_cell BKa1.out 0).trans rfl, (blk_cell BKa1.out 1).trans rfl, (blk_cell BKa2.out 0).trans rfl, (blk_cell BKa2.out 1).trans rfl⟩ (fun hHeld => ?_)
 clear hK K
 refine norm_ (a' := ?_) ?_ ?_
 rotate_left
 · show Act.put _ (some 14) _ = _
   simp only [Act.put, List.setIfInBounds_toArray, List.set_cons_zero, List.set_cons_succ, i64_w, i32_w]
   rfl
 refine one_ (i := 10) (N := some 15) #[true, true, true, true, true, true, true, true, true, true, true, false, false] rfl rfl (one_of HT_.out (by kernel_rfl)) (by decide) (fun K hK => ?_)
 refine goes_ Try.func74 (by kernel_rfl) rfl #[.slice Ao10 ya4.length co10] (by rfl) rfl rfl (by (try simp only [List.map_toArray, List.map_cons, List.map_nil]); first | done | rfl | (simp only [List.length_drop, List.length_take]; rfl)) ?_
 with_reducible refine (nat_Mul.calls k _ _ ya4 ta7 _ ?side1 ?side2 A3.out).mono ?_
 (case side1 => exact zC (Kd.N_reads' HOa6.out).2.2)
 (case side2 => exact (Kd.N_reads' HOa6.out).2.1)
 rintro e w11 ⟨va8, rfl, ho0, hb⟩
 refine ⟨_, rfl, ?_⟩
 replace HO0_1 := yVe HO0_1 ho0 hb
 replace HO1_1 := yVe HO1_1 ho0 hb
 replace HOa6 := yNe HOa6 ho0 hb
 replace ho0 := Kd.R_newM (M := fun k_ => (w.heap.size ≤ k_)) ho0 (below_size (zB3 HB.out GEa1.out GEa2.out GEa3.out)) (fun k_ h_ => h_)
 have HOa9 := yRl3 ho0 HB GEa1 GEa2 GEa3
 replace BKa1 := yK BKa1 hb
 replace BKa2 := yK BKa2 hb
 replace BKa3 := yK BKa3 hb
 replace HB := yS3 HB GEa1 GEa2 GEa3 hb
 (try clear hb)
 (try clear ho0)
 obtain ⟨Ao12, co12, eo12⟩ := Kd.R_slice HOa9.out
 (first | subst eo12 | (injection eo12 with f1_ f2_ f3_; have f4_ := f1_.symm; have f5_ := f3_.symm; clear f1_ f2_ f3_; subst f4_; subst f5_))
 refine hK.out _ _ ⟨(blk_cell BKa1.out 0).trans rfl, (blk_cell BKa1.out 1).trans rfl, (blk_cell BKa2.out 0).trans rfl, (blk_cell BKa2.out 1).trans rfl⟩ (fun hHeld => ?_)
 clear hK K
 refine norm_ (a' := ?_) ?_ ?_
 rotate_left
 · show Act.put _ (some 15) _ = _
   simp only [Act.put, List.setIfInBounds_toArray, List.set_cons_zero, List.set_cons_succ, i64_w, i32_w]
   rfl
 refine zp (i := 11) (N := some 16) HT_ ?_
 refine one_ (i := 12) (N := none) #[true, true, true, true, true, true, true, true, true, true, true, true, true] rfl rfl (one_of HT_.out (by kernel_rfl)) (by decide) (fun K hK => ?_)
 have hs13 : w11.cell? ⟨gba3, 0, none⟩ = some (.bool false) := (blk_cell BKa3.out 0).trans rfl
 have hfs13 := blk_frozen BKa3.out 0
 have hns13_0 := NBa1_103.out
 have hns13_1 := NBa2_103.out
 have hms13_0 := NBa3_101.out
 have hms13_1 := NBa3_102.out
 have hs14 : w11.cell? ⟨gba3, 1, none⟩ = some (.slice none 0 0) := (blk_cell BKa3.out 1).trans rfl
 have hfs14 := blk_frozen BKa3.out 1
 have hns14_0 := NBa1_103.out
 have hns14_1 := NBa2_103.out
 have hms14_0 := NBa3_101.out
 have hms14_1 := NBa3_102.out
 refine skip_ (w1 := ?_) (by rfl) rfl ?_ ?_
 rotate_left
 · go_simp
   rfl
 refine hK.out _ _ ⟨((cell_far (p := ⟨gba3, _, none⟩) NBa1_103.out _).trans (((cell_far (p := ⟨gba3, _, none⟩) NBa1_103.out _).trans (hHeld.1)))), ((cell_far (p := ⟨gba3, _, none⟩) NBa1_103.out _).trans (((cell_far (p := ⟨gba3, _, none⟩) NBa1_103.out _).trans (hHeld.2.1)))), ((cell_far (p := ⟨gba3, _, none⟩) NBa2_103.out _).trans (((cell_far (p := ⟨gba3, _, none⟩) NBa2_103.out _).trans (hHeld.2.2.1)))), ((cell_far (p := ⟨gba3, _, none⟩) NBa2_103.out _).trans (((cell_far (p := ⟨gba3, _, none⟩) NBa2_103.out _).trans (hHeld.2.2.2))))⟩ (fun hHeld => ?_)
 clear hK K
 refine done_ (done_of HT_.out (by kernel_rfl)) ?_
 try go_wp2
 refine bodyPost_ret (results_cell_row rfl _ _ gba3 113 #[.bool (a0_0 != a1_0), .slice Ao12 ta7.length co12] (0, 0) _ rfl (zP2 BKa3.out) Try.underlying113 rfl (by kernel_rfl)) rfl ?_
 exact ⟨_, zE, by (with_reducible repeat (first | apply Kd.R_alloc | apply Kd.R_drewN | apply Kd.R_drew)); exact Kd.R_mono (Kd.R_far (p := ⟨gba3, 1, none⟩) (Kd.R_far (p := ⟨gba3, 0, none⟩) (Kd.R_types HOa9.out BKa3.out (by decide)) (fun _ hk => hk.2) (.bool (a0_0 != a1_0))) (fun _ hk => hk.2) (.slice Ao12 ta7.length co12)) (fun _ hk => hk.1.1), zB3 HB.out GEa1.out GEa2.out GEa3.out⟩
set_option maxHeartbeats 8000000 in
set_option maxRecDepth 100000 in
theorem nat_digit.calls (k : Nat) (A0 : Option Addr) (c0 : Nat) (l0 : List Int) (a1 : Int) (r1 : List Int) (r2 : Int) (w : World) (hr0 : Kd.C (Kd.int .u32) w A0 l0.length l0) (hc0 : l0.length ≤ c0) (h : nat_digit.f k l0 a1 = some (r1, r2)) :
    Calls Try.prog 115 #[.slice A0 l0.length c0, .int .u32 a1] w fun e w' => ∃ v0_ : Value, e = .returned (.tuple #[v0_, .int .u32 r2]) ∧ Kd.V (Kd.int .u32) 97 w' w.heap.size (fun k_ => (w.heap.size ≤ k_)) v0_ r1 ∧ Below w.heap.size w w' := by
 have HR0 := zk hr0
 have HC0 := zk hc0
 clear hr0 hc0
 have HB := zk (Below.refl w.heap.size w)
 have H := h
 clear h
 unfold nat_digit.f at H
 replace H := zg H
 obtain ⟨c3, H⟩ := H
 have c3b0 := eq_true c3
 have c3b1 := decide_eq_true c3
 clear c3
 replace H := zg H
 obtain ⟨c4, H⟩ := H
 have c4b0 := eq_true c4
 have c4b1 := decide_eq_true c4
 clear c4
 obtain ⟨ya1, hya1⟩ : ∃ y_ : List Int, y_ = (List.replicate ((l0.length : Int) : Int).toNat 0) := ⟨_, rfl⟩
 replace H : (nat_digit.l0 k l0 a1 ya1 0 (wrap64 ((l0.length : Int) - 1))) = some (r1, r2) := zY hya1 H
 have Nya1 := zk hya1
 clear hya1
 have H' := zk H
 clear H
 go_enter Try.func115, Try.ntmps115
 go_wp2_with (first | ((with_reducible refine gate_dst (N := 11) rfl ?_); refine Kd.R_make (Kd.int .u32) _ 97 rfl (N := 11) rfl 29 _ _ rfl (l0.length : Int) rfl rfl Try.underlying29 (.int .u32 0) 4 info97 rfl (by decide) (by omega) 0 (ok := fun _ => True) (okp := fun _ => True) rfl (fun _ hk => hk) trivial zd (Nat.le_trans (Nat.mul_le_mul_right _ (zd : (l0.length : Int).toNat ≤ 70368744177664)) (by omega)) (Below.refl _ _) (Nat.le_refl _) ?_; intro va2 w5 ho6 hb hg_ hnew_; clear hg_ hnew_; (first | rw [← Nya1.out] at ho6 | (simp only [Int.reduceToNat] at ho6; rw [← Nya1.out] at ho6)); replace ho6 := Kd.R_newM (M := fun k_ => (w.heap.size ≤ k_)) ho6 (below_size (zB HB.out)) (fun k_ h_ => h_); have HOa3 := yRl ho6 HB; replace HB := yS HB hb; clear hb ho6))
 go_loopg [7, 8] k (fun kq v7 v8 w' => ∃ (x6_1 : List Int) (x7_1 : Int) (x8_1 : Int), v7 = .int .u64 x7_1 ∧ v8 = .int .i64 x8_1 ∧ Aside0 (nat_digit.l0 kq l0 a1 x6_1 x7_1 x8_1 = some (r1, r2)) ∧ Aside0 (kq ≤ k) ∧ Aside0 (Kd.R (Kd.int .u32) 97 w' w.heap.size (fun k_ => (w.heap.size ≤ k_)) va2 x6_1) ∧ Aside0 (Below w.heap.size w w'))
 case atStart => exact ⟨(ya1), (0), (wrap64 ((l0.length : Int) - 1)), zF, zF, H', ⟨Nat.le_refl _⟩, ⟨by (with_reducible repeat (first | apply Kd.R_alloc | apply Kd.R_drewN | apply Kd.R_drew)); exact Kd.R_mono HOa3.out (fun _ hk => hk.1)⟩, ⟨zB HB.out⟩⟩
 clear H'
 (try clear c3);(try clear c3b0);(try clear c3b1);(try clear c4);(try clear c4b0);(try clear c4b1)
 obtain ⟨x6_1, x7_1, x8_1, rfl, rfl, HA, HK1, HO_6, HB⟩ := hrel
 cases gk with | zero => exact absurd HA.out (by simp [nat_digit.l0]) | succ k1 => ?_
 have H := HA.out
 clear HA
 simp only [nat_digit.l0] at H
 replace H := zi H
 rcases H with ⟨c7, H⟩ | ⟨c7, H⟩
 · have c7b0 : decide (0 ≤ x8_1) = true := decide_eq_true c7
   clear c7
   replace H := zgd H
   obtain ⟨c8b0, H⟩ := H
   replace H := zgd H
   obtain ⟨c9b0, H⟩ := H
   replace H := zh H
   obtain ⟨c10, H⟩ := H
   have c10b0 := beq_eq_false_iff_ne.mpr c10
   have c10b1 := bne_iff_ne.mpr c10
   replace H := zgd H
   obtain ⟨c11b0, H⟩ := H
   obtain ⟨ya5, hya5⟩ : ∃ y_ : List Int, y_ = (x6_1.set (x8_1 : Int).toNat ((IntKind.u64.wrap (Int.tdiv (Go.bits .or .u64 (IntKind.u64.wrap (x7_1 * 4294967296)) (IntKind.u64.wrap (rd l0 x8_1))) (IntKind.u64.wrap (a1)))) % 4294967296)) := ⟨_, rfl⟩
   replace H : (nat_digit.l0 k1 l0 a1 ya5 (Int.tmod (Go.bits .or .u64 (IntKind.u64.wrap (x7_1 * 4294967296)) (IntKind.u64.wrap (rd l0 x8_1))) (IntKind.u64.wrap (a1))) (wrap64 (x8_1 - 1))) = some (r1, r2) := zY hya5 H
   have Nya5 := zk hya5
   clear hya5
   have H' := zk H
   clear H
   have pa4 : 0 ≤ (x8_1 : Int) := zd
   have qa4 : x8_1 < (l0.length : Int) := zd
   obtain ⟨ada4, ea4, hxa4_0⟩ := Kd.at_int HR0.out x8_1 pa4 qa4
   cases ea4
   replace hxa4_0 := (HB.out.cell (World.block_lt_of_cell? w _ hxa4_0)).trans hxa4_0
   replace pa4 := eq_true pa4
   replace qa4 := eq_true qa4
   have p12 : 0 ≤ (x8_1 : Int) := zd
   have q12 : (x8_1 : Int) < ((x6_1.length : Int) : Int) := zd
   obtain ⟨go12, co12, eo12, gb12, gl12, cl12, HG12⟩ := Kd.R_form HO_6.out (by omega)
   (first | cases eo12 | (injection eo12 with ea_ en_ ec_; (first | subst ea_ | (injection ea_ with ea_; subst ea_)); subst ec_; clear en_))
   have GB12 := zk gb12
   have GG12 := zk HG12
   clear gb12 gl12 HG12
   obtain ⟨hx12_0, hf12_0⟩ := Kd.R_celln 0 HO_6.out (x8_1 : Int) p12 q12
   replace p12 := eq_true p12
   replace q12 := eq_true q12
   have HP13 := Kd.R_putg HO_6.out (x8_1 : Int) ((IntKind.u64.wrap (Int.tdiv (Go.bits .or .u64 (IntKind.u64.wrap (x7_1 * 4294967296)) (IntKind.u64.wrap (rd l0 x8_1))) (IntKind.u64.wrap (a1)))) % 4294967296)
   go_wp2_with (first | ((with_reducible refine gate_store (t := 97) (p := 34) rfl ?_); refine store_event (t := 97) (p := 34) (v := ?vo_w14) (w1 := (wr.setCell ⟨go12, (x8_1 : Int).toNat, none⟩ (.int .u32 ((IntKind.u64.wrap (Int.tdiv (Go.bits .or .u64 (IntKind.u64.wrap (x7_1 * 4294967296)) (IntKind.u64.wrap (rd l0 x8_1))) (IntKind.u64.wrap (a1)))) % 4294967296)))) ?hg ?ho ?hn ?hr ?_; (case ho => rfl); (case hg => rfl); (case hn => rfl); (case hr => first | (go_simp; done) | (go_simp; rfl)); intro w14 hw; have hg : wr.grownBy w14 (some go12) := (by rw [hw]; exact HP13.2); have hp_ : Kd.R (Kd.int .u32) 97 w14 w.heap.size (fun k_ => (w.heap.size ≤ k_)) (.slice (some ⟨go12, 0, none⟩) x6_1.length co12) ya5 := (by rw [hw, Nya5.out]; exact HP13.1); clear HP13; replace HO_6 := zk (hp_); replace HB := zk ((by rw [hw]; exact below_set (HB.out) GB12.out : Below w.heap.size w w14)); clear hg hw hp_))
   go_roundg k1
   case measure => have := HK1.out; omega
   case rel => exact ⟨(ya5), (Int.tmod (Go.bits .or .u64 (IntKind.u64.wrap (x7_1 * 4294967296)) (IntKind.u64.wrap (rd l0 x8_1))) (IntKind.u64.wrap (a1))), (wrap64 (x8_1 - 1)), zF, zF, H', ⟨zo1 HK1⟩, ⟨zR HO_6.out⟩, ⟨zB HB.out⟩⟩
 have c7b0 : decide (0 ≤ x8_1) = false := decide_eq_false c7
 clear c7
 replace H := zb H
 obtain ⟨ta6, A15, H⟩ := H
 simp only [Option.some.injEq, Prod.mk.injEq] at H
 obtain ⟨rfl, rfl⟩ := H
 obtain ⟨Ao16, co16, rfl⟩ := Kd.R_slice HO_6.out
 go_wp2_with (first | ((with_reducible refine gC 118 ?_); refine zG (some 40) Try.func118 #[.slice Ao16 x6_1.length co16] ?_; (with_reducible refine (nat_short.calls k1 (fun k_ => some k_ = (.slice Ao16 x6_1.length co16 : Value).ownBlock) _ _ x6_1 ta6 _ ?side1 A15.out).mono ?_); (case side1 => exact Kd.R_V (Kd.R_tight rfl (HO_6.out))); rintro e w17 ⟨va7, rfl, ho0, hb⟩; refine ⟨_, rfl, ?_⟩; have HOa8 := zk (Kd.V_lower (Kd.V_mono (ok' := fun k_ => (w.heap.size ≤ k_)) ho0 (fun k_ hk_ => Or.elim hk_ (fun hs_ => ((HO_6.out).1 k_ hs_.symm)) (fun hn_ => (Nat.le_trans (below_size (zB HB.out)) hn_)))) (below_size (zB HB.out))); replace HO_6 := yRb HO_6 hb; replace HB := yS HB hb; (try clear hb ho0)))
 go_ret2
 exact ⟨_, zE, zV HOa8.out, zB HB.out⟩
set_option maxHeartbeats 8000000 in
set_option maxRecDepth 100000 in
theorem nat_Binomial.calls (k : Nat) (a0 : Int) (a1 : Int) (r1 : List Int) (r2 : Int) (w : World) (h : nat_Binomial.f k a0 a1 = some (r1, r2)) :
    Calls Try.prog 72 #[.int .i64 a0, .int .i64 a1] w fun e w' => ∃ v0_ : Value, e = .returned (.tuple #[v0_, .int .i64 r2]) ∧ Kd.R (Kd.int .u32) 97 w' w.heap.size (fun _ => True) v0_ r1 ∧ Below w.heap.size w w' := by
 have HB := zk (Below.refl w.heap.size w)
 have H := h
 clear h
 unfold nat_Binomial.f at H
 have HC3 := zk H
 clear H
 go_enter Try.func72, Try.ntmps72
 go_upto_region 1 with (fail)
 go_cut [13] (fun v13 wc => ∃ (kq : Nat) (x13_2 : Bool), v13 = .bool x13_2 ∧ Aside0 (nat_Binomial.j0 kq a0 a1 x13_2 = some (r1, r2)) ∧ Aside0 (kq ≤ k) ∧ Aside0 (Below w.heap.size w wc))
 case first =>
  have H := HC3.out
  clear HC3
  replace H := zid H
  rcases H with ⟨c4b0, H⟩ | ⟨c4b0, H⟩
  · (first | rw [c4b0] | (simp only [i64_w, i32_w]; rw [c4b0]) | rw [c4b1] | skip)
    have H' := zk H
    clear H
    go_wp2
    go_meet
    case rel => exact ⟨_, (true), zF, H', ⟨zO⟩, ⟨zB HB.out⟩⟩
  (first | rw [c4b0] | (simp only [i64_w, i32_w]; rw [c4b0]) | rw [c4b1] | skip)
  have H' := zk H
  clear H
  go_wp2
  go_meet
  case rel => exact ⟨_, (decide (a0 > 4096)), zF, H', ⟨zO⟩, ⟨zB HB.out⟩⟩
 clear HC3
 (try clear c4b0)
 obtain ⟨kq, x13_2, rfl, HA, HJ2, HB⟩ := hcut
 cases kq with | zero => exact absurd HA.out (by simp [nat_Binomial.j0]) | succ kj2 => ?_
 have H := HA.out
 clear HA
 simp only [nat_Binomial.j0] at H
 by_cases c5 : x13_2 = true
 · subst c5
   rw [if_pos rfl] at H
   simp only [Option.some.injEq, Prod.mk.injEq] at H
   obtain ⟨rfl, rfl⟩ := H
   go_wp2
   go_ret2
   exact ⟨_, zE, z0, zB HB.out⟩
 replace c5 := Bool.eq_false_iff.mpr c5
 subst c5
 rw [if_neg Bool.false_ne_true] at H
 have HC6 := zk H
 clear H
 go_upto_region 3 with (fail)
 go_cut [20] (fun v20 wc => ∃ (kq : Nat) (x20_5 : Bool), v20 = .bool x20_5 ∧ Aside0 (nat_Binomial.j1 kq a0 a1 x20_5 = some (r1, r2)) ∧ Aside0 (kq ≤ kj2) ∧ Aside0 (Below w.heap.size w wc))
 case first =>
  have H := HC6.out
  clear HC6
  replace H := zid H
  rcases H with ⟨c7b0, H⟩ | ⟨c7b0, H⟩
  · (first | rw [c7b0] | (simp only [i64_w, i32_w]; rw [c7b0]) | rw [c7b1] | skip)
    have H' := zk H
    clear H
    go_wp2
    go_meet
    case rel => exact ⟨_, (true), zF, H', ⟨by have := HJ2.out; first | omega | exact Nat.le_refl _⟩, ⟨zB HB.out⟩⟩
  (first | rw [c7b0] | (simp only [i64_w, i32_w]; rw [c7b0]) | rw [c7b1] | skip)
  have H' := zk H
  clear H
  go_wp2
  go_meet
  case rel => exact ⟨_, (decide (a1 > a0)), zF, H', ⟨by have := HJ2.out; first | omega | exact Nat.le_refl _⟩, ⟨zB HB.out⟩⟩
 clear HC6
 (try clear c4b0);(try clear c5);(try clear c7b0)
 obtain ⟨kq, x20_5, rfl, HA, HJ5, HB⟩ := hcut
 cases kq with | zero => exact absurd HA.out (by simp [nat_Binomial.j1]) | succ kj5 => ?_
 have H := HA.out
 clear HA
 simp only [nat_Binomial.j1] at H
 by_cases c8 : x20_5 = true
 · subst c8
   rw [if_pos rfl] at H
   simp only [Option.some.injEq, Prod.mk.injEq] at H
   obtain ⟨rfl, rfl⟩ := H
   go_wp2
   go_ret2
   exact ⟨_, zE, z0, zB HB.out⟩
 replace c8 := Bool.eq_false_iff.mpr c8
 subst c8
 rw [if_neg Bool.false_ne_true] at H
 obtain ⟨ya1, hya1⟩ : ∃ y_ : List Int, y_ = (([1] : List Int)) := ⟨_, rfl⟩
 replace H : (nat_Binomial.l0 kj5 a0 ya1 (mn a1 (wrap64 (a0 - a1))) 0) = some (r1, r2) := zY hya1 H
 have Nya1 := zk hya1
 clear hya1
 obtain ⟨ji9, hji9⟩ : ∃ j_ : Int, (mn a1 (wrap64 (a0 - a1))) = j_ := ⟨_, rfl⟩
 replace H : (nat_Binomial.l0 kj5 a0 ya1 ji9 0) = some (r1, r2) := by first | (rw [hji9] at H; exact H) | (simp only [hji9] at H ⊢; exact H)
 have hji9_ : (if (wrap64 (a0 - a1)) < a1 then (wrap64 (a0 - a1)) else a1) = ji9 := hji9
 have H' := zk H
 clear H
 go_wp2_with (first | ((with_reducible refine gate_dst (N := 21) rfl ?_); refine Kd.R_lit (Kd.int .u32) _ 97 ?hg (N := 21) ?hd (xs := ([1] : List Int)) (inner := [.int .u32 1]) (ok := fun _ => True) (okp := fun _ => True) ?hr ?hp (fun _ hk => hk) trivial (Below.refl _ _) (Nat.le_refl _) (by simp) ?_; (case hd => rfl); (case hg => rfl); (case hr => first | (go_simp; done) | (go_simp; rfl)); (case hp => exact (Reps.one (show Kd.M (Kd.int .u32) _ _ _ 1 [.int .u32 1] from rfl) (Reps.none _ _))); intro va2 w10 ho11 hb hg_ hnew_; clear hg_ hnew_; (first | rw [← Nya1.out] at ho11 | (simp only [Int.reduceToNat] at ho11; rw [← Nya1.out] at ho11)); have HOa3 := yRl ho11 HB; replace HB := yS HB hb; clear hb ho11))
 go_loopg [6, 27] kj5 (fun kq v6 v27 w' => ∃ (x6_3 : List Int) (x27_3 : Int), v27 = .int .i64 x27_3 ∧ Aside0 (nat_Binomial.l0 kq a0 x6_3 ji9 x27_3 = some (r1, r2)) ∧ Aside0 (kq ≤ kj5) ∧ Aside0 (Kd.V (Kd.int .u32) 97 w' w.heap.size (fun _ => True) v6 x6_3) ∧ Aside0 (Below w.heap.size w w'))
 case atStart => exact ⟨(ya1), (0), zF, H', ⟨Nat.le_refl _⟩, ⟨Kd.R_V (zR HOa3.out)⟩, ⟨zB HB.out⟩⟩
 clear H'
 (try clear c4b0);(try clear c5);(try clear c7b0);(try clear c8)
 obtain ⟨x6_3, x27_3, rfl, HA, HK3, HO_6, HB⟩ := hrel
 cases gk with | zero => exact absurd HA.out (by simp [nat_Binomial.l0]) | succ k3 => ?_
 have H := HA.out
 clear HA
 simp only [nat_Binomial.l0] at H
 replace H := zid H
 rcases H with ⟨c12b0, H⟩ | ⟨c12b0, H⟩
 · obtain ⟨ya4, hya4⟩ : ∃ y_ : List Int, y_ = (([(wrap64 (a0 - x27_3)) % 4294967296] : List Int)) := ⟨_, rfl⟩
   replace H : ((nat_times.f k3 x6_3 ya4).bind fun ta7 => ((nat_digit.f k3 ta7 ((wrap64 (x27_3 + 1)) % 4294967296)).bind fun btb0 => (nat_Binomial.l0 k3 a0 btb0.1 ji9 (wrap64 (x27_3 + 1))))) = some (r1, r2) := zY hya4 H
   have Nya4 := zk hya4
   clear hya4
   replace H := zb H
   obtain ⟨ta7, A13, H⟩ := H
   replace H := zb H
   obtain ⟨⟨tb0, tb3⟩, A14, H⟩ := H
   dsimp only at H
   have H' := zk H
   clear H
   go_wp2_with (first | ((with_reducible refine gate_dst (N := 36) rfl ?_); refine Kd.R_lit (Kd.int .u32) _ 97 ?hg (N := 36) ?hd (xs := ([(wrap64 (a0 - x27_3)) % 4294967296] : List Int)) (inner := [.int .u32 ((wrap64 (a0 - x27_3)) % 4294967296)]) (ok := fun _ => True) (okp := fun _ => True) ?hr ?hp (fun _ hk => hk) trivial (Below.refl _ _) (Nat.le_refl _) (by simp) ?_; (case hd => rfl); (case hg => rfl); (case hr => first | (go_simp; done) | (go_simp; rfl)); (case hp => exact (Reps.one (show Kd.M (Kd.int .u32) _ _ _ ((wrap64 (a0 - x27_3)) % 4294967296) [.int .u32 ((wrap64 (a0 - x27_3)) % 4294967296)] from rfl) (Reps.none _ _))); intro va5 w15 ho16 hb hg_ hnew_; clear hg_ hnew_; (first | rw [← Nya4.out] at ho16 | (simp only [Int.reduceToNat] at ho16; rw [← Nya4.out] at ho16)); replace HO_6 := yVe HO_6 ho16 hb; have HOa6 := yRl ho16 HB; replace HB := yS HB hb; clear hb ho16; obtain ⟨Ao17, co17, rfl⟩ := Kd.V_slice HO_6.out; obtain ⟨Ao18, co18, rfl⟩ := Kd.R_slice HOa6.out) | ((with_reducible refine gC 116 ?_); refine zG (some 37) Try.func116 #[.slice Ao17 x6_3.length co17, .slice Ao18 ya4.length co18] ?_; (with_reducible refine (nat_times.calls k3 _ _ x6_3 _ _ ya4 ta7 _ ?side1 ?side2 ?side3 ?side4 A13.out).mono ?_); (case side1 => exact zC (Kd.V_reads' HO_6.out).2.2); (case side2 => exact (Kd.V_reads' HO_6.out).2.1); (case side3 => exact zC (Kd.R_reads' HOa6.out).2.2); (case side4 => exact (Kd.R_reads' HOa6.out).2.1); rintro e w19 ⟨va8, rfl, ho0, hb⟩; refine ⟨_, rfl, ?_⟩; replace HO_6 := yVb HO_6 hb; have HOa9 := zk (Kd.V_lower (Kd.V_mono (ok' := fun k_ => some k_ ≠ (.slice Ao18 ya4.length co18 : Value).ownBlock) ho0 (fun k_ hk_ => (Kd.fresh' (Kd.R_lt (zR HOa6.out)) k_ hk_))) (below_size (zB HB.out))); replace HOa6 := yRb HOa6 hb; replace HB := yS HB hb; (try clear hb ho0); obtain ⟨Ao20, co20, rfl⟩ := Kd.V_slice HOa9.out) | ((with_reducible refine gC 115 ?_); refine zG (some 41) Try.func115 #[.slice Ao20 ta7.length co20, .int .u32 ((wrap64 (x27_3 + 1)) % 4294967296)] ?_; (with_reducible refine (nat_digit.calls k3 _ _ ta7 ((wrap64 (x27_3 + 1)) % 4294967296) tb0 tb3 _ ?side1 ?side2 A14.out).mono ?_); (case side1 => exact zC (Kd.V_reads' HOa9.out).2.2); (case side2 => exact (Kd.V_reads' HOa9.out).2.1); rintro e w21 ⟨vb1, rfl, ho0, hb⟩; refine ⟨_, rfl, ?_⟩; replace HO_6 := yVb HO_6 hb; replace HOa9 := yVb HOa9 hb; have HOb2 := zk (Kd.V_lower (Kd.V_mono (ok' := fun k_ => some k_ ≠ (.slice Ao18 ya4.length co18 : Value).ownBlock) ho0 (fun k_ hk_ => (Kd.fresh' (Kd.R_lt (zR HOa6.out)) k_ hk_))) (below_size (zB HB.out))); replace HOa6 := yRb HOa6 hb; replace HB := yS HB hb; (try clear hb ho0)))
   go_roundg k3
   case measure => have := HJ2.out; have := HJ5.out; have := HK3.out; omega
   case rel => exact ⟨(tb0), (wrap64 (x27_3 + 1)), zF, H', ⟨by have := HJ2.out; have := HJ5.out; have := HK3.out; omega⟩, ⟨by (with_reducible repeat (first | apply Kd.V_alloc | apply Kd.V_drewN | apply Kd.V_drew)); exact Kd.V_mono HOb2.out (fun _ hk => trivial)⟩, ⟨zB HB.out⟩⟩
 replace H := zb H
 obtain ⟨tb4, A22, H⟩ := H
 simp only [Option.some.injEq, Prod.mk.injEq] at H
 obtain ⟨rfl, rfl⟩ := H
 obtain ⟨Ao23, co23, rfl⟩ := Kd.V_slice HO_6.out
 go_wp2_with (first | ((with_reducible refine gC 103 ?_); refine zG (some 46) Try.func103 #[.slice Ao23 x6_3.length co23] ?_; (with_reducible refine (nat_Trim.calls k3 _ _ x6_3 tb4 _ ?side1 ?side2 A22.out).mono ?_); (case side1 => exact zC (Kd.V_reads' HO_6.out).2.2); (case side2 => exact (Kd.V_reads' HO_6.out).2.1); rintro e w24 ⟨vb5, rfl, ho0, hb⟩; refine ⟨_, rfl, ?_⟩; replace HO_6 := yVe HO_6 ho0 hb; have HOb6 := yRl ho0 HB; replace HB := yS HB hb; (try clear hb ho0)))
 go_ret2
 exact ⟨_, by first | rfl | (simp [errW_none, errW_some] <;> rfl) | (simp only [← hji9]; first | rfl | (simp [errW_none, errW_some] <;> rfl)) | (simp [*, errW_none, errW_some] <;> rfl), zR HOb6.out, zB HB.out⟩
set_option maxHeartbeats 8000000 in
set_option maxRecDepth 100000 in
theorem nat_Of.calls (k : Nat) (a0 : Int) (r : List Int) (w : World) (h : nat_Of.f k a0 = some r) :
    Calls Try.prog 80 #[.int .u64 a0] w fun e w' => ∃ v0_ : Value, e = .returned (v0_) ∧ Kd.R (Kd.int .u32) 97 w' w.heap.size (fun _ => True) v0_ r ∧ Below w.heap.size w w' := by
 have HB := zk (Below.refl w.heap.size w)
 have H := h
 clear h
 unfold nat_Of.f at H
 obtain ⟨ya1, hya1⟩ : ∃ y_ : List Int, y_ = (([(a0) % 4294967296, (a0 / 4294967296) % 4294967296] : List Int)) := ⟨_, rfl⟩
 replace H : ((nat_Trim.f k ya1).bind fun ta4 => (some ta4)) = some r := zY hya1 H
 have Nya1 := zk hya1
 clear hya1
 replace H := zb H
 obtain ⟨ta4, A2, H⟩ := H
 obtain rfl := Option.some.inj H
 go_enter Try.func80, Try.ntmps80
 go_wp2_with (first | ((with_reducible refine gate_dst (N := 8) rfl ?_); refine Kd.R_lit (Kd.int .u32) _ 97 ?hg (N := 8) ?hd (xs := ([(a0) % 4294967296, (a0 / 4294967296) % 4294967296] : List Int)) (inner := [.int .u32 ((a0) % 4294967296), .int .u32 ((a0 / 4294967296) % 4294967296)]) (ok := fun _ => True) (okp := fun _ => True) ?hr ?hp (fun _ hk => hk) trivial (Below.refl _ _) (Nat.le_refl _) (by simp) ?_; (case hd => rfl); (case hg => rfl); (case hr => first | (go_simp; done) | (go_simp; rfl)); (case hp => exact (Reps.one (show Kd.M (Kd.int .u32) _ _ _ ((a0) % 4294967296) [.int .u32 ((a0) % 4294967296)] from rfl) (Reps.one (show Kd.M (Kd.int .u32) _ _ _ ((a0 / 4294967296) % 4294967296) [.int .u32 ((a0 / 4294967296) % 4294967296)] from rfl) (Reps.none _ _)))); intro va2 w3 ho4 hb hg_ hnew_; clear hg_ hnew_; (first | rw [← Nya1.out] at ho4 | (simp only [Int.reduceToNat] at ho4; rw [← Nya1.out] at ho4)); have HOa3 := yRl ho4 HB; replace HB := yS HB hb; clear hb ho4; obtain ⟨Ao5, co5, rfl⟩ := Kd.R_slice HOa3.out) | ((with_reducible refine gC 103 ?_); refine zG (some 9) Try.func103 #[.slice Ao5 ya1.length co5] ?_; (with_reducible refine (nat_Trim.calls k _ _ ya1 ta4 _ ?side1 ?side2 A2.out).mono ?_); (case side1 => exact zC (Kd.R_reads' HOa3.out).2.2); (case side2 => exact (Kd.R_reads' HOa3.out).2.1); rintro e w6 ⟨va5, rfl, ho0, hb⟩; refine ⟨_, rfl, ?_⟩; replace ho0 := yn ho0 HOa3; have HOa6 := yRl ho0 HB; replace HOa3 := yRe HOa3 ho0 hb; replace HB := yS HB hb; (try clear hb ho0)))
 go_ret
 exact ⟨_, zE, by (with_reducible repeat (first | apply Kd.R_alloc | apply Kd.R_drewN | apply Kd.R_drew)); exact Kd.R_mono HOa6.out (fun _ hk => trivial), zB HB.out⟩
theorem bits_Len32.byte (i : Int) (h0 : 0 ≤ i) (h1 : i ≤ 255) (h : i.toNat < Lib.len8tab.size) : (((Lib.len8tab[i.toNat]'h).toNat : Nat) : Int) = ((Lib.bitLen i.toNat : Nat) : Int) := by
  have e := Lib.len8_of i h0 h1
  unfold Lib.len8 at e
  rw [show Lib.len8tab[i.toNat]? = some (Lib.len8tab[i.toNat]'h) from by simp [h]] at e
  simpa using e
theorem bits_Len32.small (i : Int) (h0 : 0 ≤ i) (h1 : i ≤ 255) : ((Lib.bitLen i.toNat : Nat) : Int) ≤ 8 := by
  have := Lib.bitLen_le8' i h0 h1
  omega
theorem bits_Len32.ret {a b : Int} (h : a = b) : Ending.returned (.int .i64 a) = .returned (.int .i64 b) := by rw [h]
set_option maxHeartbeats 8000000 in
set_option maxRecDepth 100000 in
theorem bits_Len32.calls (a0 : Int) (r : Int) (w : World) (h : bits_Len32.f a0 = some r) :
    Calls Try.prog 121 #[.int .u32 a0] w fun e w' => e = .returned (.int .i64 r) ∧ Drawn0 w w' := by
 unfold bits_Len32.f at h
 by_cases h0 : 0 ≤ a0
 · rw [if_pos h0] at h
   by_cases h1 : a0 ≤ 4294967295
   · rw [if_pos h1] at h
     obtain rfl := Option.some.inj h
     clear h
     go_enter Try.func121, Try.ntmps121
     go_wp2
     all_goals first
       | (exfalso
          rename_i hneg
          apply hneg
          rw [Lib.len8tab_size]
          omega)
       | (go_ret
          refine ⟨bits_Len32.ret ?_, Drawn0.refl _⟩
          first
          | (rw [bits_Len32.byte (a0 / 65536 / 256) (by omega) (by omega)]
             have h2 := bits_Len32.small (a0 / 65536 / 256) (by omega) (by omega)
             have h3 := Lib.bitLen_shift16 a0.toNat (by omega) (by omega)
             have h4 := Lib.bitLen_shift8 (a0.toNat / 65536) (by omega) (by omega)
             rw [show a0.toNat / 65536 / 256 = (a0 / 65536 / 256).toNat by omega] at h4
             rw [h3, h4]
             unfold wrap64
             omega)
          | (rw [bits_Len32.byte (a0 / 65536) (by omega) (by omega)]
             have h2 := bits_Len32.small (a0 / 65536) (by omega) (by omega)
             have h3 := Lib.bitLen_shift16 a0.toNat (by omega) (by omega)
             rw [show a0.toNat / 65536 = (a0 / 65536).toNat by omega] at h3
             rw [h3]
             unfold wrap64
             omega)
          | (rw [bits_Len32.byte (a0 / 256) (by omega) (by omega)]
             have h2 := bits_Len32.small (a0 / 256) (by omega) (by omega)
             have h3 := Lib.bitLen_shift8 a0.toNat (by omega) (by omega)
             rw [show a0.toNat / 256 = (a0 / 256).toNat by omega] at h3
             rw [h3]
             unfold wrap64
             omega)
          | (rw [bits_Len32.byte a0 (by omega) (by omega)]
             have h2 := bits_Len32.small a0 (by omega) (by omega)
             unfold wrap64
             omega))
   rw [if_neg h1] at h; exact absurd h (by simp)
 rw [if_neg h0] at h; exact absurd h (by simp)
set_option maxHeartbeats 8000000 in
set_option maxRecDepth 100000 in
theorem nat_Bits.calls (k : Nat) (A0 : Option Addr) (c0 : Nat) (l0 : List Int) (r : Int) (w : World) (hr0 : Kd.C (Kd.int .u32) w A0 l0.length l0) (hc0 : l0.length ≤ c0) (h : nat_Bits.f k l0 = some r) :
    Calls Try.prog 87 #[.slice A0 l0.length c0] w fun e w' => e = .returned (.int .i64 r) ∧ Below w.heap.size w w' := by
 have HR0 := zk hr0
 have HC0 := zk hc0
 clear hr0 hc0
 have HB := zk (Below.refl w.heap.size w)
 have H := h
 clear h
 unfold nat_Bits.f at H
 replace H := zb H
 obtain ⟨ta1, A2, H⟩ := H
 replace H := zi H
 rcases H with ⟨c3, H⟩ | ⟨c3, H⟩
 · have c3b0 := beq_iff_eq.mpr c3
   have c3b1 := bne_eq_false_iff_eq.mpr c3
   clear c3
   obtain rfl := Option.some.inj H
   go_enter Try.func87, Try.ntmps87
   go_wp2_with (first | ((with_reducible refine gC 118 ?_); refine zG (some 4) Try.func118 #[.slice A0 l0.length c0] ?_; (with_reducible refine (nat_short.calls k (fun k_ => k_ < w.heap.size) _ _ l0 ta1 _ ?side1 A2.out).mono ?_); (case side1 => exact Kd.V_mk HC0.out (Kd.F_below (Kd.C_F (Kd.heap_int .u32) HR0.out) (zB HB.out))); rintro e w4 ⟨va2, rfl, ho0, hb⟩; refine ⟨_, rfl, ?_⟩; have HOa3 := yVm ho0 HB; replace HB := yS HB hb; (try clear hb ho0); obtain ⟨Ao5, co5, rfl⟩ := Kd.V_slice HOa3.out))
   go_ret
   exact ⟨zE, zB HB.out⟩
 have c3b0 := beq_eq_false_iff_ne.mpr c3
 have c3b1 := bne_iff_ne.mpr c3
 have c3b2 : ¬ (ta1 = []) := fun h_ => c3 (by rw [h_]; rfl)
 obtain ⟨ji6, hji6⟩ : ∃ j_ : Int, (wrap64 ((ta1.length : Int) - 1)) = j_ := ⟨_, rfl⟩
 replace H : (if 0 ≤ (ji6) then (if (ji6) < (ta1.length : Int) then ((bits_Len32.f (rd ta1 (ji6))).bind fun ta5 => (some (wrap64 ((wrap64 (32 * (ji6))) + ta5)))) else (none)) else (none)) = some r := by first | (rw [hji6] at H; exact H) | (simp only [hji6] at H ⊢; exact H)
 (try rw [hji6] at A2)
 have hji6w : (IntKind.i64.wrap ((ta1.length : Int) - 1)) = ji6 := (i64_w _).trans hji6
 replace H := zgd H
 obtain ⟨c7b0, H⟩ := H
 replace H := zgd H
 obtain ⟨c8b0, H⟩ := H
 replace H := zb H
 obtain ⟨ta5, A9, H⟩ := H
 obtain rfl := Option.some.inj H
 go_enter Try.func87, Try.ntmps87
 go_wp2_with (first | ((with_reducible refine gC 118 ?_); refine zG (some 4) Try.func118 #[.slice A0 l0.length c0] ?_; (with_reducible refine (nat_short.calls k (fun k_ => k_ < w.heap.size) _ _ l0 ta1 _ ?side1 A2.out).mono ?_); (case side1 => exact Kd.V_mk HC0.out (Kd.F_below (Kd.C_F (Kd.heap_int .u32) HR0.out) (zB HB.out))); rintro e w10 ⟨va2, rfl, ho0, hb⟩; refine ⟨_, rfl, ?_⟩; have HOa3 := yVm ho0 HB; replace HB := yS HB hb; (try clear hb ho0); obtain ⟨Ao11, co11, rfl⟩ := Kd.V_slice HOa3.out; have pa4 : 0 ≤ ((ji6) : Int) := zd; have qa4 : (ji6) < (ta1.length : Int) := zd; obtain ⟨ada4, ea4, hxa4_0⟩ := Kd.at_int (Kd.V_reads' HOa3.out).2.2 (ji6) pa4 qa4; cases ea4; replace pa4 := eq_true pa4; replace qa4 := eq_true qa4) | ((with_reducible refine gC 121 ?_); refine goesL_ (some 18) rfl rfl Try.func121 (by kernel_rfl) rfl #[.int .u32 (rd ta1 (ji6))] rfl (by (try simp only [List.map_toArray, List.map_cons, List.map_nil]); first | done | (simp only [hji6]; rfl) | rfl | (simp only [List.length_drop, List.length_take]; rfl)) ?_; (with_reducible refine (bits_Len32.calls (rd ta1 (ji6)) ta5 _ A9.out).mono ?_); rintro e w' ⟨rfl, ⟨nd, rfl⟩⟩; refine ⟨_, rfl, ?_⟩))
 go_ret
 exact ⟨by first | rfl | (simp [errW_none, errW_some] <;> rfl) | (simp only [← hji6]; first | rfl | (simp [errW_none, errW_some] <;> rfl)) | (simp [*, errW_none, errW_some] <;> rfl), zB HB.out⟩
set_option maxHeartbeats 8000000 in
set_option maxRecDepth 100000 in
theorem nat_Pow.calls (k : Nat) (A0 : Option Addr) (c0 : Nat) (l0 : List Int) (a1 : Int) (r1 : List Int) (r2 : Int) (w : World) (hr0 : Kd.C (Kd.int .u32) w A0 l0.length l0) (hc0 : l0.length ≤ c0) (h : nat_Pow.f k l0 a1 = some (r1, r2)) :
    Calls Try.prog 85 #[.slice A0 l0.length c0, .int .i64 a1] w fun e w' => ∃ v0_ : Value, e = .returned (.tuple #[v0_, .int .i64 r2]) ∧ Kd.R (Kd.int .u32) 97 w' w.heap.size (fun _ => True) v0_ r1 ∧ Below w.heap.size w w' := by
 have HR0 := zk hr0
 have HC0 := zk hc0
 clear hr0 hc0
 have HB := zk (Below.refl w.heap.size w)
 have H := h
 clear h
 unfold nat_Pow.f at H
 replace H := zid H
 rcases H with ⟨c3b0, H⟩ | ⟨c3b0, H⟩
 · simp only [Option.some.injEq, Prod.mk.injEq] at H
   obtain ⟨rfl, rfl⟩ := H
   go_enter Try.func85, Try.ntmps85
   go_wp2
   go_ret2
   exact ⟨_, zE, z0, zB HB.out⟩
 replace H := zb H
 obtain ⟨ta1, A4, H⟩ := H
 have HC5 := zk H
 clear H
 go_enter Try.func85, Try.ntmps85
 go_upto_region 4 with (first | ((with_reducible refine gC 87 ?_); refine zG (some 12) Try.func87 #[.slice A0 l0.length c0] ?_; (with_reducible refine (nat_Bits.calls k _ _ l0 ta1 _ ?side1 ?side2 A4.out).mono ?_); (case side1 => exact zC HR0.out); (case side2 => exact HC0.out); rintro e w6 ⟨rfl, hb⟩; refine ⟨_, rfl, ?_⟩; replace HB := yS HB hb; (try clear hb); (try clear hb2); (try clear hk); (try clear hi)))
 (try simp only [Act.put, List.setIfInBounds_toArray, List.set_cons_zero, List.set_cons_succ])
 go_cut [13] (fun v13 wc => ∃ (kq : Nat) (x13_4 : Bool), v13 = .bool x13_4 ∧ Aside0 (nat_Pow.j0 kq l0 a1 ta1 x13_4 = some (r1, r2)) ∧ Aside0 (kq ≤ k) ∧ Aside0 (Below w.heap.size w wc))
 case first =>
  have H := HC5.out
  clear HC5
  replace H := zi H
  rcases H with ⟨c7, H⟩ | ⟨c7, H⟩
  · have c7b0 := beq_iff_eq.mpr c7
    have c7b1 := bne_eq_false_iff_eq.mpr c7
    clear c7
    (first | rw [c7b0] | (simp only [i64_w, i32_w]; rw [c7b0]) | rw [c7b1] | skip)
    have H' := zk H
    clear H
    go_wp2
    go_meet
    case rel => exact ⟨_, (true), zF, H', ⟨zO⟩, ⟨zB HB.out⟩⟩
  have c7b0 := beq_eq_false_iff_ne.mpr c7
  have c7b1 := bne_iff_ne.mpr c7
  (first | rw [c7b0] | (simp only [i64_w, i32_w]; rw [c7b0]) | rw [c7b1] | skip)
  have H' := zk H
  clear H
  go_wp2
  go_meet
  case rel => exact ⟨_, ((ta1 == 1)), zF, H', ⟨zO⟩, ⟨zB HB.out⟩⟩
 clear HC5
 (try clear c3b0);(try clear c7);(try clear c7b0);(try clear c7b1)
 obtain ⟨kq, x13_4, rfl, HA, HJ4, HB⟩ := hcut
 cases kq with | zero => exact absurd HA.out (by simp [nat_Pow.j0]) | succ kj4 => ?_
 have H := HA.out
 clear HA
 simp only [nat_Pow.j0] at H
 by_cases c8 : x13_4 = true
 · subst c8
   rw [if_pos rfl] at H
   obtain ⟨ya2, hya2⟩ : ∃ y_ : List Int, y_ = (([1] : List Int)) := ⟨_, rfl⟩
   replace H : (some (ya2, 0)) = some (r1, r2) := zY hya2 H
   have Nya2 := zk hya2
   clear hya2
   simp only [Option.some.injEq, Prod.mk.injEq] at H
   obtain ⟨rfl, rfl⟩ := H
   go_wp2_with (first | ((with_reducible refine gate_dst (N := 20) rfl ?_); refine Kd.R_lit (Kd.int .u32) _ 97 ?hg (N := 20) ?hd (xs := ([1] : List Int)) (inner := [.int .u32 1]) (ok := fun _ => True) (okp := fun _ => True) ?hr ?hp (fun _ hk => hk) trivial (Below.refl _ _) (Nat.le_refl _) (by simp) ?_; (case hd => rfl); (case hg => rfl); (case hr => first | (go_simp; done) | (go_simp; rfl)); (case hp => exact (Reps.one (show Kd.M (Kd.int .u32) _ _ _ 1 [.int .u32 1] from rfl) (Reps.none _ _))); intro va3 w9 ho10 hb hg_ hnew_; clear hg_ hnew_; (first | rw [← Nya2.out] at ho10 | (simp only [Int.reduceToNat] at ho10; rw [← Nya2.out] at ho10)); have HOa4 := yRl ho10 HB; replace HB := yS HB hb; clear hb ho10))
   go_ret2
   exact ⟨_, zE, zR HOa4.out, zB HB.out⟩
 replace c8 := Bool.eq_false_iff.mpr c8
 subst c8
 rw [if_neg Bool.false_ne_true] at H
 replace H := zi H
 rcases H with ⟨c11, H⟩ | ⟨c11, H⟩
 · have c11b0 := beq_iff_eq.mpr c11
   have c11b1 := bne_eq_false_iff_eq.mpr c11
   clear c11
   simp only [Option.some.injEq, Prod.mk.injEq] at H
   obtain ⟨rfl, rfl⟩ := H
   go_wp2
   go_ret2
   exact ⟨_, zE, z0, zB HB.out⟩
 have c11b0 := beq_eq_false_iff_ne.mpr c11
 have c11b1 := bne_iff_ne.mpr c11
 replace H := zi H
 rcases H with ⟨c12, H⟩ | ⟨c12, H⟩
 · have c12b0 : decide (131072 < a1) = true := decide_eq_true c12
   clear c12
   simp only [Option.some.injEq, Prod.mk.injEq] at H
   obtain ⟨rfl, rfl⟩ := H
   go_wp2
   go_ret2
   exact ⟨_, zE, z0, zB HB.out⟩
 have c12b0 : decide (131072 < a1) = false := decide_eq_false c12
 clear c12
 replace H := zi H
 rcases H with ⟨c13, H⟩ | ⟨c13, H⟩
 · have c13b0 : decide (131072 ≤ (wrap64 ((wrap64 (ta1 - 1)) * a1))) = true := decide_eq_true c13
   clear c13
   simp only [Option.some.injEq, Prod.mk.injEq] at H
   obtain ⟨rfl, rfl⟩ := H
   go_wp2
   go_ret2
   exact ⟨_, zE, z0, zB HB.out⟩
 have c13b0 : decide (131072 ≤ (wrap64 ((wrap64 (ta1 - 1)) * a1))) = false := decide_eq_false c13
 clear c13
 obtain ⟨ya5, hya5⟩ : ∃ y_ : List Int, y_ = (([1] : List Int)) := ⟨_, rfl⟩
 replace H : ((nat_short.f kj4 l0).bind fun ta8 => (nat_Pow.l0 kj4 a1 ya5 ta8)) = some (r1, r2) := zY hya5 H
 have Nya5 := zk hya5
 clear hya5
 replace H := zb H
 obtain ⟨ta8, A14, H⟩ := H
 have H' := zk H
 clear H
 go_wp2_with (first | ((with_reducible refine gate_dst (N := 34) rfl ?_); refine Kd.R_lit (Kd.int .u32) _ 97 ?hg (N := 34) ?hd (xs := ([1] : List Int)) (inner := [.int .u32 1]) (ok := fun _ => True) (okp := fun _ => True) ?hr ?hp (fun _ hk => hk) trivial (Below.refl _ _) (Nat.le_refl _) (by simp) ?_; (case hd => rfl); (case hg => rfl); (case hr => first | (go_simp; done) | (go_simp; rfl)); (case hp => exact (Reps.one (show Kd.M (Kd.int .u32) _ _ _ 1 [.int .u32 1] from rfl) (Reps.none _ _))); intro va6 w15 ho16 hb hg_ hnew_; clear hg_ hnew_; (first | rw [← Nya5.out] at ho16 | (simp only [Int.reduceToNat] at ho16; rw [← Nya5.out] at ho16)); have HOa7 := yRl ho16 HB; replace HB := yS HB hb; clear hb ho16) | ((with_reducible refine gC 118 ?_); refine zG (some 36) Try.func118 #[.slice A0 l0.length c0] ?_; (with_reducible refine (nat_short.calls kj4 (fun k_ => k_ < w.heap.size) _ _ l0 ta8 _ ?side1 A14.out).mono ?_); (case side1 => exact Kd.V_mk HC0.out (Kd.F_below (Kd.C_F (Kd.heap_int .u32) HR0.out) (zB HB.out))); rintro e w17 ⟨va9, rfl, ho0, hb⟩; refine ⟨_, rfl, ?_⟩; have HOb0 := zk (Kd.V_lower (Kd.V_mono (ok' := fun k_ => some k_ ≠ (va6 : Value).ownBlock) ho0 (fun k_ hk_ => Or.elim hk_ (fun hs_ => fun e_ => Nat.not_le.2 hs_ (Kd.R_base HOa7.out k_ e_.symm)) (fun hn_ => (Kd.fresh' (Kd.R_lt (zR HOa7.out)) k_ hn_)))) (below_size (zB HB.out))); replace HOa7 := yRb HOa7 hb; replace HB := yS HB hb; (try clear hb ho0)))
 go_loopg [1, 7, 8] kj4 (fun kq v1 v7 v8 w' => ∃ (x1_2 : Int) (x7_2 : List Int) (x8_2 : List Int), v1 = .int .i64 x1_2 ∧ Aside0 (nat_Pow.l0 kq x1_2 x7_2 x8_2 = some (r1, r2)) ∧ Aside0 (kq ≤ kj4) ∧ Aside0 (Kd.V (Kd.int .u32) 97 w' w.heap.size (fun _ => True) v7 x7_2) ∧ Aside0 (Kd.V (Kd.int .u32) 97 w' w.heap.size (fun _ => True) v8 x8_2) ∧ Aside0 (Below w.heap.size w w'))
 case atStart => exact ⟨(a1), (ya5), (ta8), zF, H', ⟨Nat.le_refl _⟩, ⟨Kd.R_V (zR HOa7.out)⟩, ⟨by (with_reducible repeat (first | apply Kd.V_alloc | apply Kd.V_drewN | apply Kd.V_drew)); exact Kd.V_mono HOb0.out (fun _ hk => trivial)⟩, ⟨zB HB.out⟩⟩
 clear H'
 (try clear c3b0);(try clear c7);(try clear c7b0);(try clear c7b1);(try clear c8);(try clear c11);(try clear c11b0);(try clear c11b1);(try clear c12);(try clear c12b0);(try clear c13);(try clear c13b0)
 obtain ⟨x1_2, x7_2, x8_2, rfl, HA, HK2, HO_7, HO_8, HB⟩ := hrel
 cases gk with | zero => exact absurd HA.out (by simp [nat_Pow.l0]) | succ k2 => ?_
 have H := HA.out
 clear HA
 simp only [nat_Pow.l0] at H
 replace H := zi H
 rcases H with ⟨c18, H⟩ | ⟨c18, H⟩
 · have c18b0 := beq_iff_eq.mpr c18
   have c18b1 := bne_eq_false_iff_eq.mpr c18
   clear c18
   replace H := zb H
   obtain ⟨tb1, A19, H⟩ := H
   replace H := zi H
   rcases H with ⟨c20, H⟩ | ⟨c20, H⟩
   · have c20b0 := beq_iff_eq.mpr c20
     have c20b1 := bne_eq_false_iff_eq.mpr c20
     clear c20
     replace H := zi H
     rcases H with ⟨c21, H⟩ | ⟨c21, H⟩
     · have c21b0 : decide (4096 < (tb1.length : Int)) = true := decide_eq_true c21
       have c21b1 : decide (4096 < tb1.length) = true := decide_eq_true (by omega)
       clear c21
       simp only [Option.some.injEq, Prod.mk.injEq] at H
       obtain ⟨rfl, rfl⟩ := H
       obtain ⟨Ao22, co22, rfl⟩ := Kd.V_slice HO_7.out
       obtain ⟨Ao23, co23, rfl⟩ := Kd.V_slice HO_8.out
       go_wp2_with (first | ((with_reducible refine gC 116 ?_); refine zG (some 42) Try.func116 #[.slice Ao22 x7_2.length co22, .slice Ao23 x8_2.length co23] ?_; (with_reducible refine (nat_times.calls k2 _ _ x7_2 _ _ x8_2 tb1 _ ?side1 ?side2 ?side3 ?side4 A19.out).mono ?_); (case side1 => exact zC (Kd.V_reads' HO_7.out).2.2); (case side2 => exact (Kd.V_reads' HO_7.out).2.1); (case side3 => exact zC (Kd.V_reads' HO_8.out).2.2); (case side4 => exact (Kd.V_reads' HO_8.out).2.1); rintro e w24 ⟨vb2, rfl, ho0, hb⟩; refine ⟨_, rfl, ?_⟩; replace HO_7 := yVb HO_7 hb; replace HO_8 := yVb HO_8 hb; have HOb3 := yVm ho0 HB; replace HB := yS HB hb; (try clear hb ho0); obtain ⟨Ao25, co25, rfl⟩ := Kd.V_slice HOb3.out))
       go_ret2
       exact ⟨_, zE, z0, zB HB.out⟩
     have c21b0 : decide (4096 < (tb1.length : Int)) = false := decide_eq_false c21
     have c21b1 : decide (4096 < tb1.length) = false := decide_eq_false (by omega)
     clear c21
     replace H := zb H
     obtain ⟨tb4, A26, H⟩ := H
     simp only [Option.some.injEq, Prod.mk.injEq] at H
     obtain ⟨rfl, rfl⟩ := H
     obtain ⟨Ao27, co27, rfl⟩ := Kd.V_slice HO_7.out
     obtain ⟨Ao28, co28, rfl⟩ := Kd.V_slice HO_8.out
     go_wp2_with (first | ((with_reducible refine gC 116 ?_); refine zG (some 42) Try.func116 #[.slice Ao27 x7_2.length co27, .slice Ao28 x8_2.length co28] ?_; (with_reducible refine (nat_times.calls k2 _ _ x7_2 _ _ x8_2 tb1 _ ?side1 ?side2 ?side3 ?side4 A19.out).mono ?_); (case side1 => exact zC (Kd.V_reads' HO_7.out).2.2); (case side2 => exact (Kd.V_reads' HO_7.out).2.1); (case side3 => exact zC (Kd.V_reads' HO_8.out).2.2); (case side4 => exact (Kd.V_reads' HO_8.out).2.1); rintro e w29 ⟨vb2, rfl, ho0, hb⟩; refine ⟨_, rfl, ?_⟩; replace HO_7 := yVb HO_7 hb; replace HO_8 := yVb HO_8 hb; have HOb3 := yVm ho0 HB; replace HB := yS HB hb; (try clear hb ho0); obtain ⟨Ao30, co30, rfl⟩ := Kd.V_slice HOb3.out) | ((with_reducible refine gC 103 ?_); refine zG (some 54) Try.func103 #[.slice Ao30 tb1.length co30] ?_; (with_reducible refine (nat_Trim.calls k2 _ _ tb1 tb4 _ ?side1 ?side2 A26.out).mono ?_); (case side1 => exact zC (Kd.V_reads' HOb3.out).2.2); (case side2 => exact (Kd.V_reads' HOb3.out).2.1); rintro e w31 ⟨vb5, rfl, ho0, hb⟩; refine ⟨_, rfl, ?_⟩; replace HO_7 := yVe HO_7 ho0 hb; replace HO_8 := yVe HO_8 ho0 hb; replace HOb3 := yVe HOb3 ho0 hb; have HOb6 := yRl ho0 HB; replace HB := yS HB hb; (try clear hb ho0)))
     go_ret2
     exact ⟨_, zE, zR HOb6.out, zB HB.out⟩
   have c20b0 := beq_eq_false_iff_ne.mpr c20
   have c20b1 := bne_iff_ne.mpr c20
   replace H := zb H
   obtain ⟨tb7, A32, H⟩ := H
   have H' := zk H
   clear H
   obtain ⟨Ao33, co33, rfl⟩ := Kd.V_slice HO_7.out
   obtain ⟨Ao34, co34, rfl⟩ := Kd.V_slice HO_8.out
   go_wp2_with (first | ((with_reducible refine gC 116 ?_); refine zG (some 42) Try.func116 #[.slice Ao33 x7_2.length co33, .slice Ao34 x8_2.length co34] ?_; (with_reducible refine (nat_times.calls k2 _ _ x7_2 _ _ x8_2 tb1 _ ?side1 ?side2 ?side3 ?side4 A19.out).mono ?_); (case side1 => exact zC (Kd.V_reads' HO_7.out).2.2); (case side2 => exact (Kd.V_reads' HO_7.out).2.1); (case side3 => exact zC (Kd.V_reads' HO_8.out).2.2); (case side4 => exact (Kd.V_reads' HO_8.out).2.1); rintro e w35 ⟨vb2, rfl, ho0, hb⟩; refine ⟨_, rfl, ?_⟩; replace HO_7 := yVb HO_7 hb; replace HO_8 := yVb HO_8 hb; have HOb3 := yVm ho0 HB; replace HB := yS HB hb; (try clear hb ho0)) | ((with_reducible refine gC 116 ?_); refine zG (some 49) Try.func116 #[.slice Ao34 x8_2.length co34, .slice Ao34 x8_2.length co34] ?_; (with_reducible refine (nat_times.calls k2 _ _ x8_2 _ _ x8_2 tb7 _ ?side1 ?side2 ?side3 ?side4 A32.out).mono ?_); (case side1 => exact zC (Kd.V_reads' HO_8.out).2.2); (case side2 => exact (Kd.V_reads' HO_8.out).2.1); (case side3 => exact zC (Kd.V_reads' HO_8.out).2.2); (case side4 => exact (Kd.V_reads' HO_8.out).2.1); rintro e w36 ⟨vb8, rfl, ho0, hb⟩; refine ⟨_, rfl, ?_⟩; replace HO_7 := yVb HO_7 hb; replace HO_8 := yVb HO_8 hb; replace HOb3 := yVb HOb3 hb; have HOb9 := yVm ho0 HB; replace HB := yS HB hb; (try clear hb ho0)))
   go_roundg k2
   case measure => have := HJ4.out; have := HK2.out; omega
   case rel => exact ⟨(x1_2 / 2), (tb1), (tb7), zF, H', ⟨zo2 HJ4 HK2⟩, ⟨zV HOb3.out⟩, ⟨zV HOb9.out⟩, ⟨zB HB.out⟩⟩
 have c18b0 := beq_eq_false_iff_ne.mpr c18
 have c18b1 := bne_iff_ne.mpr c18
 replace H := zi H
 rcases H with ⟨c37, H⟩ | ⟨c37, H⟩
 · have c37b0 := beq_iff_eq.mpr c37
   have c37b1 := bne_eq_false_iff_eq.mpr c37
   clear c37
   replace H := zi H
   rcases H with ⟨c38, H⟩ | ⟨c38, H⟩
   · have c38b0 : decide (4096 < (x7_2.length : Int)) = true := decide_eq_true c38
     have c38b1 : decide (4096 < x7_2.length) = true := decide_eq_true (by omega)
     clear c38
     simp only [Option.some.injEq, Prod.mk.injEq] at H
     obtain ⟨rfl, rfl⟩ := H
     obtain ⟨Ao39, co39, rfl⟩ := Kd.V_slice HO_7.out
     go_wp2
     go_ret2
     exact ⟨_, zE, z0, zB HB.out⟩
   have c38b0 : decide (4096 < (x7_2.length : Int)) = false := decide_eq_false c38
   have c38b1 : decide (4096 < x7_2.length) = false := decide_eq_false (by omega)
   clear c38
   replace H := zb H
   obtain ⟨tc0, A40, H⟩ := H
   simp only [Option.some.injEq, Prod.mk.injEq] at H
   obtain ⟨rfl, rfl⟩ := H
   obtain ⟨Ao41, co41, rfl⟩ := Kd.V_slice HO_7.out
   go_wp2_with (first | ((with_reducible refine gC 103 ?_); refine zG (some 54) Try.func103 #[.slice Ao41 x7_2.length co41] ?_; (with_reducible refine (nat_Trim.calls k2 _ _ x7_2 tc0 _ ?side1 ?side2 A40.out).mono ?_); (case side1 => exact zC (Kd.V_reads' HO_7.out).2.2); (case side2 => exact (Kd.V_reads' HO_7.out).2.1); rintro e w42 ⟨vc1, rfl, ho0, hb⟩; refine ⟨_, rfl, ?_⟩; replace HO_7 := yVe HO_7 ho0 hb; replace HO_8 := yVe HO_8 ho0 hb; have HOc2 := yRl ho0 HB; replace HB := yS HB hb; (try clear hb ho0)))
   go_ret2
   exact ⟨_, zE, zR HOc2.out, zB HB.out⟩
 have c37b0 := beq_eq_false_iff_ne.mpr c37
 have c37b1 := bne_iff_ne.mpr c37
 replace H := zb H
 obtain ⟨tc3, A43, H⟩ := H
 have H' := zk H
 clear H
 obtain ⟨Ao44, co44, rfl⟩ := Kd.V_slice HO_8.out
 go_wp2_with (first | ((with_reducible refine gC 116 ?_); refine zG (some 49) Try.func116 #[.slice Ao44 x8_2.length co44, .slice Ao44 x8_2.length co44] ?_; (with_reducible refine (nat_times.calls k2 _ _ x8_2 _ _ x8_2 tc3 _ ?side1 ?side2 ?side3 ?side4 A43.out).mono ?_); (case side1 => exact zC (Kd.V_reads' HO_8.out).2.2); (case side2 => exact (Kd.V_reads' HO_8.out).2.1); (case side3 => exact zC (Kd.V_reads' HO_8.out).2.2); (case side4 => exact (Kd.V_reads' HO_8.out).2.1); rintro e w45 ⟨vc4, rfl, ho0, hb⟩; refine ⟨_, rfl, ?_⟩; replace HO_7 := yVb HO_7 hb; replace HO_8 := yVb HO_8 hb; have HOc5 := yVm ho0 HB; replace HB := yS HB hb; (try clear hb ho0)))
 go_roundg k2
 case measure => have := HJ4.out; have := HK2.out; omega
 case rel => exact ⟨(x1_2 / 2), (x7_2), (tc3), zF, H', ⟨zo2 HJ4 HK2⟩, ⟨zV HO_7.out⟩, ⟨zV HOc5.out⟩, ⟨zB HB.out⟩⟩
set_option maxHeartbeats 8000000 in
set_option maxRecDepth 100000 in
theorem mw_small.calls (k : Nat) (a0 : Int) (r1 : Bool) (r2 : List Int) (w : World) (h : mw_small.f k a0 = some (r1, r2)) :
    Calls Try.prog 124 #[.int .i64 a0] w fun e w' => ∃ v1_ : Value, e = .returned (.agg #[.bool r1, v1_]) ∧ Kd.R (Kd.int .u32) 97 w' w.heap.size (fun _ => True) v1_ r2 ∧ Below w.heap.size w w' := by
 have hu113 := Try.underlying113
 have HB := zk (Below.refl w.heap.size w)
 have H := h
 clear h
 unfold mw_small.f at H
 replace H := zb H
 obtain ⟨ta2, A2, H⟩ := H
 simp only [Option.some.injEq, Prod.mk.injEq] at H
 obtain ⟨rfl, rfl⟩ := H
 go_enter Try.func124, Try.ntmps124
 go_wp2_with (first | ((with_reducible refine gate_dst (N := 2) rfl ?_); refine box_event ?hg (N := 2) ?hd (cs := #[.bool false, .slice none 0 0]) (t := 113) ?hr ?_; (case hd => rfl); (case hg => rfl); (case hr => first | (go_simp; done) | (go_simp; rfl)); intro gba1 hg w3 hbox hb; have BKa1 := zk (hbox); have GWa1 := yg hg HB; have GEa1 := yg hg HB; replace HB := yS HB hb; clear hb hbox hg) | ((with_reducible refine gC 80 ?_); refine zG (some 5) Try.func80 #[.int .u64 (IntKind.u64.wrap (a0))] ?_; (with_reducible refine (nat_Of.calls k (IntKind.u64.wrap (a0)) ta2 _ A2.out).mono ?_); rintro e w4 ⟨va3, rfl, ho0, hb⟩; refine ⟨_, rfl, ?_⟩; have HOa4 := yRl1 ho0 HB GEa1; replace BKa1 := yK BKa1 hb; replace HB := yS1 HB GEa1 hb; (try clear hb ho0); obtain ⟨Ao5, co5, rfl⟩ := Kd.R_slice HOa4.out; obtain ⟨hcz6_0, hcz6_1, hfz6_0, hfz6_1⟩ := zz2 BKa1))
 refine bodyPost_ret (results_cell_row rfl _ _ gba1 113 #[.bool false, .slice Ao5 ta2.length co5] (0, 0) _ rfl (zP2 BKa1.out) Try.underlying113 rfl (by kernel_rfl)) rfl ?_
 exact ⟨_, zE, by (with_reducible repeat (first | apply Kd.R_alloc | apply Kd.R_drewN | apply Kd.R_drew)); exact Kd.R_mono (Kd.R_far (p := ⟨gba1, 1, none⟩) (Kd.R_far (p := ⟨gba1, 0, none⟩) (Kd.R_types HOa4.out BKa1.out (by decide)) (fun _ hk => hk.2) (.bool false)) (fun _ hk => hk.2) (.slice Ao5 ta2.length co5)) (fun _ hk => trivial), zB1 HB.out GEa1.out⟩
set_option maxHeartbeats 8000000 in
set_option maxRecDepth 100000 in
theorem mw_minus.calls (k : Nat) (a0_0 : Bool) (P0_1_ : Nat → Prop) (A0_1 : Option Addr) (c0_1 : Nat) (l0_1 : List Int) (a1_0 : Bool) (P1_1_ : Nat → Prop) (A1_1 : Option Addr) (c1_1 : Nat) (l1_1 : List Int) (r1 : Bool) (r2 : List Int) (w : World) (hs0_1 : Kd.V (Kd.int .u32) 97 w w.heap.size (fun k_ => P0_1_ k_) (.slice A0_1 l0_1.length c0_1) l0_1) (hs1_1 : Kd.V (Kd.int .u32) 97 w w.heap.size (fun k_ => P1_1_ k_) (.slice A1_1 l1_1.length c1_1) l1_1) (h : mw_minus.f k a0_0 l0_1 a1_0 l1_1 = some (r1, r2)) :
    Calls Try.prog 125 #[.agg #[.bool a0_0, .slice A0_1 l0_1.length c0_1], .agg #[.bool a1_0, .slice A1_1 l1_1.length c1_1]] w fun e w' => ∃ v1_ : Value, e = .returned (.agg #[.bool r1, v1_]) ∧ Kd.V (Kd.int .u32) 97 w' w.heap.size (fun k_ => ((P0_1_ k_ ∨ P1_1_ k_) ∨ w.heap.size ≤ k_)) v1_ r2 ∧ Below w.heap.size w w' := by
 have hu113 := Try.underlying113
 have HO0_1 := zk (show Kd.V (Kd.int .u32) 97 w w.heap.size (fun k_ => ((P0_1_ k_ ∨ P1_1_ k_) ∨ w.heap.size ≤ k_)) (.slice A0_1 l0_1.length c0_1) l0_1 from Kd.V_mono hs0_1 (fun k_ hk => .inl (.inl hk)))
 have HO1_1 := zk (show Kd.V (Kd.int .u32) 97 w w.heap.size (fun k_ => ((P0_1_ k_ ∨ P1_1_ k_) ∨ w.heap.size ≤ k_)) (.slice A1_1 l1_1.length c1_1) l1_1 from Kd.V_mono hs1_1 (fun k_ hk => .inl (.inr hk)))
 have HB := zk (Below.refl w.heap.size w)
 have H := h
 clear h
 unfold mw_minus.f at H
 replace H := zb H
 obtain ⟨⟨ta4, ta5⟩, A3, H⟩ := H
 dsimp only at H
 simp only [Option.some.injEq, Prod.mk.injEq] at H
 obtain ⟨rfl, rfl⟩ := H
 go_enter Try.func125, Try.ntmps125
 go_wp2_with (first | ((with_reducible refine gate_dst (N := 2) rfl ?_); refine box_event ?hg (N := 2) ?hd (cs := #[.bool a0_0, .slice A0_1 l0_1.length c0_1]) (t := 113) ?hr ?_; (case hd => rfl); (case hg => rfl); (case hr => first | (go_simp; done) | (go_simp; rfl)); intro gba1 hg w4 hbox hb; replace HO0_1 := yVB HO0_1 hg hb; replace HO1_1 := yVB HO1_1 hg hb; have BKa1 := zk (hbox); have GWa1 := yg hg HB; have GEa1 := yg hg HB; replace HB := yS HB hb; clear hb hbox hg) | ((with_reducible refine gate_dst (N := 3) rfl ?_); refine box_event ?hg (N := 3) ?hd (cs := #[.bool a1_0, .slice A1_1 l1_1.length c1_1]) (t := 113) ?hr ?_; (case hd => rfl); (case hg => rfl); (case hr => first | (go_simp; done) | (go_simp; rfl)); intro gba2 hg w5 hbox hb; replace HO0_1 := yVB HO0_1 hg hb; replace HO1_1 := yVB HO1_1 hg hb; have BKa2 := zk (hbox); have GWa2 := yg1 hg HB GEa1; have GEa2 := yg1 hg HB GEa1; replace HB := yS1 HB GEa1 hb; have NBa1_102 := ynl hg BKa1; have NBa2_101 := yng hg BKa1; replace BKa1 := yK BKa1 hb; clear hb hbox hg) | ((with_reducible refine gate_dst (N := 4) rfl ?_); refine box_event ?hg (N := 4) ?hd (cs := #[.bool false, .slice none 0 0]) (t := 113) ?hr ?_; (case hd => rfl); (case hg => rfl); (case hr => first | (go_simp; done) | (go_simp; rfl)); intro gba3 hg w6 hbox hb; replace HO0_1 := yVB HO0_1 hg hb; replace HO1_1 := yVB HO1_1 hg hb; have BKa3 := zk (hbox); have GWa3 := yg2 hg HB GEa1 GEa2; have GEa3 := yg2 hg HB GEa1 GEa2; replace HB := yS2 HB GEa1 GEa2 hb; have NBa1_103 := ynl hg BKa1; have NBa3_101 := yng hg BKa1; replace BKa1 := yK BKa1 hb; have NBa2_103 := ynl hg BKa2; have NBa3_102 := yng hg BKa2; replace BKa2 := yK BKa2 hb; clear hb hbox hg; have hnb7 := NBa1_102.out; have hnc7 := NBa2_101.out; have hnb8 := NBa1_103.out; have hnc8 := NBa3_101.out; obtain ⟨hcz9_0, hcz9_1, hfz9_0, hfz9_1⟩ := zz2 BKa1; have hnb10 := NBa2_103.out; have hnc10 := NBa3_102.out; obtain ⟨hcz11_0, hcz11_1, hfz11_0, hfz11_1⟩ := zz2 BKa2) | ((with_reducible refine gC 128 ?_); refine zG (some 12) Try.func128 #[.agg #[.bool a0_0, .slice A0_1 l0_1.length c0_1], .agg #[.bool (!a1_0), .slice A1_1 l1_1.length c1_1]] ?_; (with_reducible refine (mw_plus.calls k a0_0 (fun k_ => (((((P0_1_ k_ ∨ P1_1_ k_) ∨ w.heap.size ≤ k_) ∧ k_ ≠ gba1) ∧ k_ ≠ gba2) ∧ k_ ≠ gba3)) _ _ l0_1 (!a1_0) (fun k_ => (((((P0_1_ k_ ∨ P1_1_ k_) ∨ w.heap.size ≤ k_) ∧ k_ ≠ gba1) ∧ k_ ≠ gba2) ∧ k_ ≠ gba3)) _ _ l1_1 ta4 ta5 _ ?side1 ?side2 A3.out).mono ?_); (case side1 => exact HO0_1.out); (case side2 => exact HO1_1.out); rintro e w12 ⟨va6, rfl, ho0, hb⟩; refine ⟨_, rfl, ?_⟩; replace HO0_1 := yVb HO0_1 hb; replace HO1_1 := yVb HO1_1 hb; have HOa7 := zk (Kd.V_lower (Kd.V_mono (ok' := fun k_ => ((P0_1_ k_ ∨ P1_1_ k_) ∨ w.heap.size ≤ k_) ∧ k_ ≠ gba1 ∧ k_ ≠ gba2 ∧ k_ ≠ gba3) ho0 (fun k_ hk_ => ⟨Or.elim hk_ (fun hs_ => Or.elim hs_ (fun hs_ => hs_.1.1.1) (fun hs_ => hs_.1.1.1)) (fun hn_ => (.inr (Nat.le_trans (below_size (zB3 HB.out GEa1.out GEa2.out GEa3.out)) hn_))), Or.elim hk_ (fun hs_ => Or.elim hs_ (fun hs_ => hs_.1.1.2) (fun hs_ => hs_.1.1.2)) (fun hn_ => (Kd.freshB (g := gba1) (o := .cells #[.bool a0_0, .slice A0_1 l0_1.length c0_1] 113 (0, 0)) (zK BKa1.out) k_ hn_)), Or.elim hk_ (fun hs_ => Or.elim hs_ (fun hs_ => hs_.1.2) (fun hs_ => hs_.1.2)) (fun hn_ => (Kd.freshB (g := gba2) (o := .cells #[.bool a1_0, .slice A1_1 l1_1.length c1_1] 113 (0, 0)) (zK BKa2.out) k_ hn_)), Or.elim hk_ (fun hs_ => Or.elim hs_ (fun hs_ => hs_.2) (fun hs_ => hs_.2)) (fun hn_ => (Kd.freshB (g := gba3) (o := .cells #[.bool false, .slice none 0 0] 113 (0, 0)) (zK BKa3.out) k_ hn_))⟩)) (below_size (zB3 HB.out GEa1.out GEa2.out GEa3.out))); replace BKa1 := yK BKa1 hb; replace BKa2 := yK BKa2 hb; replace BKa3 := yK BKa3 hb; replace HB := yS3 HB GEa1 GEa2 GEa3 hb; (try clear hb ho0); obtain ⟨hcz13_0, hcz13_1, hfz13_0, hfz13_1⟩ := zz2 BKa3; obtain ⟨Ao14, co14, rfl⟩ := Kd.V_slice HOa7.out))
 refine bodyPost_ret (results_cell_row rfl _ _ gba3 113 #[.bool ta4, .slice Ao14 ta5.length co14] (0, 0) _ rfl (zP2 BKa3.out) Try.underlying113 rfl (by kernel_rfl)) rfl ?_
 exact ⟨_, zE, by (with_reducible repeat (first | apply Kd.V_alloc | apply Kd.V_drewN | apply Kd.V_drew)); exact Kd.V_mono (Kd.V_far (p := ⟨gba3, 1, none⟩) (Kd.V_far (p := ⟨gba3, 0, none⟩) (Kd.V_mono HOa7.out (fun k_ hk => (⟨hk, hk.2.2.2⟩ : _ ∧ k_ ≠ gba3))) (fun _ hk => hk.2) (.bool ta4)) (fun _ hk => hk.2) (.slice Ao14 ta5.length co14)) (fun _ hk => hk.1.1), zB3 HB.out GEa1.out GEa2.out GEa3.out⟩
end Go.Proofs.Ytifkbghnmhineaa.PAll
