/- What functions of the program do and come to, for the statement MacwilliamsRecurrence, part 4. Conditions: as each theorem says. -/
import Derived.Test.YtifkbghnmhineaaQRecurrence3

namespace Go.Proofs.Ytifkbghnmhineaa.PAll
open Go.RowKit Go.Proofs.YtifkbghnmhineaaW.PrintWords Go.Proofs.YtifkbghnmhineaaW.PrintLast Go.Proofs.YtifkbghnmhineaaW.PrintMore
attribute [local go_sem] max2_int min2_int max_two min_two max_three min_three max_four min_four
set_option linter.unusedVariables false
set_option linter.unusedSimpArgs false
def codewrightlaw24_MacwilliamsRecurrence.T7 : Bool × List (List Nat × List Nat) := (true, [([], []), ([0], [0]), ([1], [1]), ([2], [2]), ([3, 2], [2, 3]), ([2, 4], [2, 4]), ([5, 2], [5]), ([6], [6]), ([7, 6], [6, 7]), ([6, 8], [6, 8]), ([9, 6], [9]), ([10], [10]), ([11, 10], [10, 11]), ([10, 12], [10, 12]), ([13, 10], [13]), ([14], [14]), ([14, 14], [14]), ([15, 16, 16, 14], [14, 15, 16]), ([17, 14], [14, 17]), ([14, 18], [14, 18])])
def codewrightlaw24_MacwilliamsRecurrence.B7 : List Nat := [0, 1, 3, 7, 15, 31, 63, 127, 255, 511, 1023, 2047, 4095, 8191, 16383, 32767, 32767, 131071, 262143, 524287]
theorem codewrightlaw24_MacwilliamsRecurrence.tab7 : rtab .any (opsOf Try.f13 7) = codewrightlaw24_MacwilliamsRecurrence.T7 := by kernel_rfl
theorem codewrightlaw24_MacwilliamsRecurrence.bits7 : waitsOk codewrightlaw24_MacwilliamsRecurrence.T7.2 codewrightlaw24_MacwilliamsRecurrence.B7 = true := by kernel_rfl
def codewrightlaw24_MacwilliamsRecurrence.T10 : Bool × List (List Nat × List Nat) := (true, [([], []), ([0], [0]), ([1], [1]), ([2], [2]), ([], []), ([3, 4, 3], [3, 4]), ([], []), ([6, 5], [6]), ([], []), ([7, 8, 7], [7, 8]), ([], []), ([10], [10]), ([11], [11]), ([], []), ([13], [13]), ([], []), ([15], [15]), ([14, 16], [14, 16]), ([17], [17]), ([12, 18], [12, 18]), ([19, 9], [19]), ([], []), ([20, 21, 20], [20, 21]), ([9, 22, 22], [9, 22]), ([5, 23, 23], [5, 23]), ([24, 24, 0, 1, 2, 3, 4, 5, 6, 7, 8, 9, 10, 11, 12, 13, 14, 15, 16, 17, 18, 19, 20, 21, 22, 23, 24], [24])])
def codewrightlaw24_MacwilliamsRecurrence.B10 : List Nat := [0, 1, 3, 7, 0, 31, 0, 127, 0, 511, 0, 1024, 3072, 0, 8192, 0, 32768, 122880, 253952, 523264, 1048575, 0, 4194303, 8388607, 16777215, 33554431]
theorem codewrightlaw24_MacwilliamsRecurrence.tab10 : rtab .any (opsOf Try.f13 10) = codewrightlaw24_MacwilliamsRecurrence.T10 := by kernel_rfl
theorem codewrightlaw24_MacwilliamsRecurrence.bits10 : waitsOk codewrightlaw24_MacwilliamsRecurrence.T10.2 codewrightlaw24_MacwilliamsRecurrence.B10 = true := by kernel_rfl
set_option maxHeartbeats 8000000 in
set_option maxRecDepth 100000 in
theorem codewrightlaw24_MacwilliamsRecurrence.calls (k : Nat) (a0 : Int) (a1 : Int) (a2 : Int) (a3 : Int) (r : Bool) (w : World) (h : codewrightlaw24_MacwilliamsRecurrence.f k a0 a1 a2 a3 = some r) :
    Calls Try.prog 13 #[.int .u8 a0, .int .u8 a1, .int .u8 a2, .int .u8 a3] w fun e w' => e = .returned (.bool r) ∧ Below w.heap.size w w' := by
 have hu60 := Try.underlying60
 have HB := Aside0.mk (Below.refl w.heap.size w)
 have H : (if a0 < 2 then (codewrightlaw24_MacwilliamsRecurrence.j0 k a0 a1 a2 a3 true) else (if a1 > 48 then (codewrightlaw24_MacwilliamsRecurrence.j0 k a0 a1 a2 a3 true) else (if a2 < 1 then (codewrightlaw24_MacwilliamsRecurrence.j0 k a0 a1 a2 a3 true) else (if a2 ≥ a1 then (codewrightlaw24_MacwilliamsRecurrence.j0 k a0 a1 a2 a3 true) else (codewrightlaw24_MacwilliamsRecurrence.j0 k a0 a1 a2 a3 (decide (a3 > a1))))))) = some r := h
 clear h
 have HC5 := Aside0.mk H
 clear H
 go_enter Try.func13, Try.ntmps13
 go_upto_region 1 with (fail)
 go_cut [37] (fun v37 wc => ∃ (kq : Nat) (x37_4 : Bool), v37 = .bool x37_4 ∧ Aside0 (codewrightlaw24_MacwilliamsRecurrence.j0 kq a0 a1 a2 a3 x37_4 = some r) ∧ Aside0 (kq ≤ k) ∧ Aside0 (Below w.heap.size w wc))
 case first =>
  have H := HC5.out
  clear HC5
  replace H := zi H
  rcases H with ⟨c6, H⟩ | ⟨c6, H⟩
  · have c6b0 := decide_eq_true c6
    clear c6
    (first | rw [c6b0] | (simp only [i64_w, i32_w]; rw [c6b0]) | rw [c6b1] | skip)
    have H' := Aside0.mk H
    clear H
    go_wp2
    go_meet
    case rel => exact ⟨_, (true), zF, H', ⟨zO⟩, ⟨zB HB.out⟩⟩
  have c6b0 := decide_eq_false c6
  clear c6
  (first | rw [c6b0] | (simp only [i64_w, i32_w]; rw [c6b0]) | rw [c6b1] | skip)
  replace H := zi H
  rcases H with ⟨c7, H⟩ | ⟨c7, H⟩
  · have c7b0 : decide (48 < a1) = true := decide_eq_true c7
    clear c7
    have H' := Aside0.mk H
    clear H
    go_wp2
    go_meet
    case rel => exact ⟨_, (true), zF, H', ⟨zO⟩, ⟨zB HB.out⟩⟩
  have c7b0 : decide (48 < a1) = false := decide_eq_false c7
  clear c7
  replace H := zi H
  rcases H with ⟨c8, H⟩ | ⟨c8, H⟩
  · have c8b0 := decide_eq_true c8
    clear c8
    have H' := Aside0.mk H
    clear H
    go_wp2
    go_meet
    case rel => exact ⟨_, (true), zF, H', ⟨zO⟩, ⟨zB HB.out⟩⟩
  have c8b0 := decide_eq_false c8
  clear c8
  replace H := zi H
  rcases H with ⟨c9, H⟩ | ⟨c9, H⟩
  · have c9b0 : decide (a1 ≤ a2) = true := decide_eq_true c9
    clear c9
    have H' := Aside0.mk H
    clear H
    go_wp2
    go_meet
    case rel => exact ⟨_, (true), zF, H', ⟨zO⟩, ⟨zB HB.out⟩⟩
  have c9b0 : decide (a1 ≤ a2) = false := decide_eq_false c9
  clear c9
  have H' := Aside0.mk H
  clear H
  go_wp2
  go_meet
  case rel => exact ⟨_, (decide (a3 > a1)), zF, H', ⟨zO⟩, ⟨zB HB.out⟩⟩
 clear HC5
 (try clear c1);(try clear p2);(try clear c6);(try clear c6b0);(try clear c6b1);(try clear c7);(try clear c7b0);(try clear c8);(try clear c8b0);(try clear c9);(try clear c9b0)
 obtain ⟨kq, x37_4, rfl, HA, HJ4, HB⟩ := hcut
 cases kq with | zero => exact absurd HA.out (by simp [codewrightlaw24_MacwilliamsRecurrence.j0]) | succ kj4 => ?_
 have H := HA.out
 clear HA
 simp only [codewrightlaw24_MacwilliamsRecurrence.j0] at H
 by_cases c10 : x37_4 = true
 · subst c10
   rw [if_pos rfl] at H
   obtain rfl := Option.some.inj H
   go_wp2
   go_ret
   exact ⟨zE, zB HB.out⟩
 replace c10 := Bool.eq_false_iff.mpr c10
 subst c10
 rw [if_neg Bool.false_ne_true] at H
 replace H := zb H
 obtain ⟨⟨t101, t102, t105, t108⟩, A11, H⟩ := H
 dsimp only at H
 replace H := zb H
 obtain ⟨⟨t110, t111, t114, t117⟩, A12, H⟩ := H
 dsimp only at H
 replace H := zb H
 obtain ⟨⟨t119, t120, t123, t126⟩, A13, H⟩ := H
 dsimp only at H
 replace H := zb H
 obtain ⟨⟨t128, t129, t132, t135⟩, A14, H⟩ := H
 dsimp only at H
 have HC15 := Aside0.mk H
 clear H
 go_upto_region 7 with (first | ((with_reducible refine gate_callee (f := 49) rfl ?_); refine zG (some 48) Try.func49 #[.int .i64 (wrap64 (a0)), .int .i64 (wrap64 (a1)), .int .i64 (wrap64 ((wrap64 (a2)) + 1)), .int .i64 (wrap64 (a3))] ?_; (with_reducible refine (codewrightlaw24_k.calls kj4 (wrap64 (a0)) (wrap64 (a1)) (wrap64 ((wrap64 (a2)) + 1)) (wrap64 (a3)) t101 t102 t105 t108 _ A11.out).mono ?_); rintro e w16 ⟨v103, v106, rfl, ho0, ho1, hb⟩; refine ⟨_, rfl, ?_⟩; have HO104 := yVm ho0 HB; have HO107 := yVm ho1 HB; replace HB := yS HB hb; (try clear hb ho0); (try clear ho1)) | ((with_reducible refine gate_dst (N := 9) rfl ?_); refine box_event ?hg (N := 9) ?hd (cs := #[.bool false, .slice none 0 0, .slice none 0 0]) (t := 60) ?hr ?_; (case hd => rfl); (case hg => rfl); (case hr => first | (go_simp; done) | (go_simp; rfl)); intro gb109 hg w17 hbox hb; replace HO104 := yVB HO104 hg hb; replace HO107 := yVB HO107 hg hb; have BK109 := Aside0.mk (hbox); have GW109 := yg hg HB; have GE109 := yg hg HB; replace HB := yS HB hb; clear hb hbox hg; have hcz18_0 : w17.cell? ⟨gb109, 0, none⟩ = some (.bool false) := (blk_cell BK109.out 0).trans rfl; have hcz18_1 : w17.cell? ⟨gb109, 1, none⟩ = some (.slice none 0 0) := (blk_cell BK109.out 1).trans rfl; have hcz18_2 : w17.cell? ⟨gb109, 2, none⟩ = some (.slice none 0 0) := (blk_cell BK109.out 2).trans rfl; have hfz18_0 := blk_frozen BK109.out 0; have hfz18_1 := blk_frozen BK109.out 1; have hfz18_2 := blk_frozen BK109.out 2; obtain ⟨Ao19, co19, rfl⟩ := Kd.V_slice HO104.out; obtain ⟨Ao20, co20, rfl⟩ := Kd.V_slice HO107.out) | ((with_reducible refine gate_callee (f := 49) rfl ?_); refine zG (some 60) Try.func49 #[.int .i64 (wrap64 (a0)), .int .i64 (wrap64 (a1)), .int .i64 (wrap64 (a2)), .int .i64 (wrap64 (a3))] ?_; (with_reducible refine (codewrightlaw24_k.calls kj4 (wrap64 (a0)) (wrap64 (a1)) (wrap64 (a2)) (wrap64 (a3)) t110 t111 t114 t117 _ A12.out).mono ?_); rintro e w21 ⟨v112, v115, rfl, ho0, ho1, hb⟩; refine ⟨_, rfl, ?_⟩; replace HO104 := Aside0.mk (Kd.V_below (by (with_reducible repeat (first | apply Kd.V_alloc | apply Kd.V_drewN | apply Kd.V_drew)); exact (Kd.V_mono (Kd.V_far (p := ⟨gb109, 2, none⟩) (Kd.V_far (p := ⟨gb109, 1, none⟩) (Kd.V_far (p := ⟨gb109, 0, none⟩) (Kd.V_mono HO104.out (fun k_ hk => (⟨hk, hk.2⟩ : _ ∧ k_ ≠ gb109))) (fun _ hk => hk.2) (.bool t101)) (fun _ hk => hk.2) (.slice Ao19 t102.length co19)) (fun _ hk => hk.2) (.slice Ao20 t105.length co20)) (fun _ h_ => h_.1))) hb); replace HO107 := Aside0.mk (Kd.V_below (by (with_reducible repeat (first | apply Kd.V_alloc | apply Kd.V_drewN | apply Kd.V_drew)); exact (Kd.V_mono (Kd.V_far (p := ⟨gb109, 2, none⟩) (Kd.V_far (p := ⟨gb109, 1, none⟩) (Kd.V_far (p := ⟨gb109, 0, none⟩) (Kd.V_mono HO107.out (fun k_ hk => (⟨hk, hk.2⟩ : _ ∧ k_ ≠ gb109))) (fun _ hk => hk.2) (.bool t101)) (fun _ hk => hk.2) (.slice Ao19 t102.length co19)) (fun _ hk => hk.2) (.slice Ao20 t105.length co20)) (fun _ h_ => h_.1))) hb); have HO113 := Aside0.mk (Kd.V_lower (Kd.V_mono (ok' := fun k_ => k_ ≠ gb109) ho0 (fun k_ hk_ => (Kd.freshB (g := gb109) (o := .cells #[.bool t101, .slice Ao19 t102.length co19, .slice Ao20 t105.length co20] 60 (0, 0)) (by (with_reducible repeat (first | refine blk_drewN ?_ _ | refine blk_drew ?_ | refine blk_alloc ?_ _)); refine blk_put (cs := #[.bool t101, .slice Ao19 t102.length co19, .slice none 0 0]) ?_ 2 _ rfl; (with_reducible repeat (first | refine blk_drewN ?_ _ | refine blk_drew ?_ | refine blk_alloc ?_ _)); refine blk_put (cs := #[.bool t101, .slice none 0 0, .slice none 0 0]) ?_ 1 _ rfl; (with_reducible repeat (first | refine blk_drewN ?_ _ | refine blk_drew ?_ | refine blk_alloc ?_ _)); refine blk_put (cs := #[.bool false, .slice none 0 0, .slice none 0 0]) ?_ 0 _ rfl; (with_reducible repeat (first | refine blk_drewN ?_ _ | refine blk_drew ?_ | refine blk_alloc ?_ _)); exact BK109.out) k_ hk_))) (below_size (zB1 HB.out GE109.out))); have HO116 := Aside0.mk (Kd.V_lower (Kd.V_mono (ok' := fun k_ => k_ ≠ gb109) ho1 (fun k_ hk_ => (Kd.freshB (g := gb109) (o := .cells #[.bool t101, .slice Ao19 t102.length co19, .slice Ao20 t105.length co20] 60 (0, 0)) (by (with_reducible repeat (first | refine blk_drewN ?_ _ | refine blk_drew ?_ | refine blk_alloc ?_ _)); refine blk_put (cs := #[.bool t101, .slice Ao19 t102.length co19, .slice none 0 0]) ?_ 2 _ rfl; (with_reducible repeat (first | refine blk_drewN ?_ _ | refine blk_drew ?_ | refine blk_alloc ?_ _)); refine blk_put (cs := #[.bool t101, .slice none 0 0, .slice none 0 0]) ?_ 1 _ rfl; (with_reducible repeat (first | refine blk_drewN ?_ _ | refine blk_drew ?_ | refine blk_alloc ?_ _)); refine blk_put (cs := #[.bool false, .slice none 0 0, .slice none 0 0]) ?_ 0 _ rfl; (with_reducible repeat (first | refine blk_drewN ?_ _ | refine blk_drew ?_ | refine blk_alloc ?_ _)); exact BK109.out) k_ hk_))) (below_size (zB1 HB.out GE109.out))); replace BK109 := Aside0.mk (blk_below (g := gb109) (o := .cells #[.bool t101, .slice Ao19 t102.length co19, .slice Ao20 t105.length co20] 60 (0, 0)) (by (with_reducible repeat (first | refine blk_drewN ?_ _ | refine blk_drew ?_ | refine blk_alloc ?_ _)); refine blk_put (cs := #[.bool t101, .slice Ao19 t102.length co19, .slice none 0 0]) ?_ 2 _ rfl; (with_reducible repeat (first | refine blk_drewN ?_ _ | refine blk_drew ?_ | refine blk_alloc ?_ _)); refine blk_put (cs := #[.bool t101, .slice none 0 0, .slice none 0 0]) ?_ 1 _ rfl; (with_reducible repeat (first | refine blk_drewN ?_ _ | refine blk_drew ?_ | refine blk_alloc ?_ _)); refine blk_put (cs := #[.bool false, .slice none 0 0, .slice none 0 0]) ?_ 0 _ rfl; (with_reducible repeat (first | refine blk_drewN ?_ _ | refine blk_drew ?_ | refine blk_alloc ?_ _)); exact BK109.out) hb); replace HB := yS1 HB GE109 hb; (try clear hb ho0); (try clear ho1)) | ((with_reducible refine gate_dst (N := 11) rfl ?_); refine box_event ?hg (N := 11) ?hd (cs := #[.bool false, .slice none 0 0, .slice none 0 0]) (t := 60) ?hr ?_; (case hd => rfl); (case hg => rfl); (case hr => first | (go_simp; done) | (go_simp; rfl)); intro gb118 hg w22 hbox hb; replace HO104 := yVB HO104 hg hb; replace HO107 := yVB HO107 hg hb; replace HO113 := yVB HO113 hg hb; replace HO116 := yVB HO116 hg hb; have BK118 := Aside0.mk (hbox); have GW118 := yg1 hg HB GE109; have GE118 := yg1 hg HB GE109; replace HB := yS1 HB GE109 hb; have NB109_118 := ynl hg BK109; have NB118_109 := yng hg BK109; replace BK109 := yK BK109 hb; clear hb hbox hg; have hnb23 := NB118_109.out; have hnc23 := NB109_118.out; have hcz24_0 : w22.cell? ⟨gb118, 0, none⟩ = some (.bool false) := (blk_cell BK118.out 0).trans rfl; have hcz24_1 : w22.cell? ⟨gb118, 1, none⟩ = some (.slice none 0 0) := (blk_cell BK118.out 1).trans rfl; have hcz24_2 : w22.cell? ⟨gb118, 2, none⟩ = some (.slice none 0 0) := (blk_cell BK118.out 2).trans rfl; have hfz24_0 := blk_frozen BK118.out 0; have hfz24_1 := blk_frozen BK118.out 1; have hfz24_2 := blk_frozen BK118.out 2; obtain ⟨Ao25, co25, rfl⟩ := Kd.V_slice HO113.out; obtain ⟨Ao26, co26, rfl⟩ := Kd.V_slice HO116.out) | ((with_reducible refine gate_callee (f := 49) rfl ?_); refine zG (some 73) Try.func49 #[.int .i64 (wrap64 (a0)), .int .i64 (wrap64 (a1)), .int .i64 (wrap64 ((wrap64 (a2)) - 1)), .int .i64 (wrap64 (a3))] ?_; (with_reducible refine (codewrightlaw24_k.calls kj4 (wrap64 (a0)) (wrap64 (a1)) (wrap64 ((wrap64 (a2)) - 1)) (wrap64 (a3)) t119 t120 t123 t126 _ A13.out).mono ?_); rintro e w27 ⟨v121, v124, rfl, ho0, ho1, hb⟩; refine ⟨_, rfl, ?_⟩; replace HO104 := Aside0.mk (Kd.V_below (by (with_reducible repeat (first | apply Kd.V_alloc | apply Kd.V_drewN | apply Kd.V_drew)); exact (Kd.V_mono (Kd.V_far (p := ⟨gb118, 2, none⟩) (Kd.V_far (p := ⟨gb118, 1, none⟩) (Kd.V_far (p := ⟨gb118, 0, none⟩) (Kd.V_mono HO104.out (fun k_ hk => (⟨hk, hk.2⟩ : _ ∧ k_ ≠ gb118))) (fun _ hk => hk.2) (.bool t110)) (fun _ hk => hk.2) (.slice Ao25 t111.length co25)) (fun _ hk => hk.2) (.slice Ao26 t114.length co26)) (fun _ h_ => h_.1))) hb); replace HO107 := Aside0.mk (Kd.V_below (by (with_reducible repeat (first | apply Kd.V_alloc | apply Kd.V_drewN | apply Kd.V_drew)); exact (Kd.V_mono (Kd.V_far (p := ⟨gb118, 2, none⟩) (Kd.V_far (p := ⟨gb118, 1, none⟩) (Kd.V_far (p := ⟨gb118, 0, none⟩) (Kd.V_mono HO107.out (fun k_ hk => (⟨hk, hk.2⟩ : _ ∧ k_ ≠ gb118))) (fun _ hk => hk.2) (.bool t110)) (fun _ hk => hk.2) (.slice Ao25 t111.length co25)) (fun _ hk => hk.2) (.slice Ao26 t114.length co26)) (fun _ h_ => h_.1))) hb); replace HO113 := Aside0.mk (Kd.V_below (by (with_reducible repeat (first | apply Kd.V_alloc | apply Kd.V_drewN | apply Kd.V_drew)); exact (Kd.V_mono (Kd.V_far (p := ⟨gb118, 2, none⟩) (Kd.V_far (p := ⟨gb118, 1, none⟩) (Kd.V_far (p := ⟨gb118, 0, none⟩) (Kd.V_mono HO113.out (fun k_ hk => (⟨hk, hk.2⟩ : _ ∧ k_ ≠ gb118))) (fun _ hk => hk.2) (.bool t110)) (fun _ hk => hk.2) (.slice Ao25 t111.length co25)) (fun _ hk => hk.2) (.slice Ao26 t114.length co26)) (fun _ h_ => h_.1))) hb); replace HO116 := Aside0.mk (Kd.V_below (by (with_reducible repeat (first | apply Kd.V_alloc | apply Kd.V_drewN | apply Kd.V_drew)); exact (Kd.V_mono (Kd.V_far (p := ⟨gb118, 2, none⟩) (Kd.V_far (p := ⟨gb118, 1, none⟩) (Kd.V_far (p := ⟨gb118, 0, none⟩) (Kd.V_mono HO116.out (fun k_ hk => (⟨hk, hk.2⟩ : _ ∧ k_ ≠ gb118))) (fun _ hk => hk.2) (.bool t110)) (fun _ hk => hk.2) (.slice Ao25 t111.length co25)) (fun _ hk => hk.2) (.slice Ao26 t114.length co26)) (fun _ h_ => h_.1))) hb); have HO122 := Aside0.mk (Kd.V_lower (Kd.V_mono (ok' := fun k_ => k_ ≠ gb109 ∧ k_ ≠ gb118) ho0 (fun k_ hk_ => ⟨(Kd.freshB (g := gb109) (o := .cells #[.bool t101, .slice Ao19 t102.length co19, .slice Ao20 t105.length co20] 60 (0, 0)) (by (with_reducible repeat (first | refine blk_drewN ?_ _ | refine blk_drew ?_ | refine blk_alloc ?_ _)); refine blk_far ?_ NB109_118.out _; (with_reducible repeat (first | refine blk_drewN ?_ _ | refine blk_drew ?_ | refine blk_alloc ?_ _)); refine blk_far ?_ NB109_118.out _; (with_reducible repeat (first | refine blk_drewN ?_ _ | refine blk_drew ?_ | refine blk_alloc ?_ _)); refine blk_far ?_ NB109_118.out _; (with_reducible repeat (first | refine blk_drewN ?_ _ | refine blk_drew ?_ | refine blk_alloc ?_ _)); exact BK109.out) k_ hk_), (Kd.freshB (g := gb118) (o := .cells #[.bool t110, .slice Ao25 t111.length co25, .slice Ao26 t114.length co26] 60 (0, 0)) (by (with_reducible repeat (first | refine blk_drewN ?_ _ | refine blk_drew ?_ | refine blk_alloc ?_ _)); refine blk_put (cs := #[.bool t110, .slice Ao25 t111.length co25, .slice none 0 0]) ?_ 2 _ rfl; (with_reducible repeat (first | refine blk_drewN ?_ _ | refine blk_drew ?_ | refine blk_alloc ?_ _)); refine blk_put (cs := #[.bool t110, .slice none 0 0, .slice none 0 0]) ?_ 1 _ rfl; (with_reducible repeat (first | refine blk_drewN ?_ _ | refine blk_drew ?_ | refine blk_alloc ?_ _)); refine blk_put (cs := #[.bool false, .slice none 0 0, .slice none 0 0]) ?_ 0 _ rfl; (with_reducible repeat (first | refine blk_drewN ?_ _ | refine blk_drew ?_ | refine blk_alloc ?_ _)); exact BK118.out) k_ hk_)⟩)) (below_size (zB2 HB.out GE109.out GE118.out))); have HO125 := Aside0.mk (Kd.V_lower (Kd.V_mono (ok' := fun k_ => k_ ≠ gb109 ∧ k_ ≠ gb118) ho1 (fun k_ hk_ => ⟨(Kd.freshB (g := gb109) (o := .cells #[.bool t101, .slice Ao19 t102.length co19, .slice Ao20 t105.length co20] 60 (0, 0)) (by (with_reducible repeat (first | refine blk_drewN ?_ _ | refine blk_drew ?_ | refine blk_alloc ?_ _)); refine blk_far ?_ NB109_118.out _; (with_reducible repeat (first | refine blk_drewN ?_ _ | refine blk_drew ?_ | refine blk_alloc ?_ _)); refine blk_far ?_ NB109_118.out _; (with_reducible repeat (first | refine blk_drewN ?_ _ | refine blk_drew ?_ | refine blk_alloc ?_ _)); refine blk_far ?_ NB109_118.out _; (with_reducible repeat (first | refine blk_drewN ?_ _ | refine blk_drew ?_ | refine blk_alloc ?_ _)); exact BK109.out) k_ hk_), (Kd.freshB (g := gb118) (o := .cells #[.bool t110, .slice Ao25 t111.length co25, .slice Ao26 t114.length co26] 60 (0, 0)) (by (with_reducible repeat (first | refine blk_drewN ?_ _ | refine blk_drew ?_ | refine blk_alloc ?_ _)); refine blk_put (cs := #[.bool t110, .slice Ao25 t111.length co25, .slice none 0 0]) ?_ 2 _ rfl; (with_reducible repeat (first | refine blk_drewN ?_ _ | refine blk_drew ?_ | refine blk_alloc ?_ _)); refine blk_put (cs := #[.bool t110, .slice none 0 0, .slice none 0 0]) ?_ 1 _ rfl; (with_reducible repeat (first | refine blk_drewN ?_ _ | refine blk_drew ?_ | refine blk_alloc ?_ _)); refine blk_put (cs := #[.bool false, .slice none 0 0, .slice none 0 0]) ?_ 0 _ rfl; (with_reducible repeat (first | refine blk_drewN ?_ _ | refine blk_drew ?_ | refine blk_alloc ?_ _)); exact BK118.out) k_ hk_)⟩)) (below_size (zB2 HB.out GE109.out GE118.out))); replace BK109 := Aside0.mk (blk_below (g := gb109) (o := .cells #[.bool t101, .slice Ao19 t102.length co19, .slice Ao20 t105.length co20] 60 (0, 0)) (by (with_reducible repeat (first | refine blk_drewN ?_ _ | refine blk_drew ?_ | refine blk_alloc ?_ _)); refine blk_far ?_ NB109_118.out _; (with_reducible repeat (first | refine blk_drewN ?_ _ | refine blk_drew ?_ | refine blk_alloc ?_ _)); refine blk_far ?_ NB109_118.out _; (with_reducible repeat (first | refine blk_drewN ?_ _ | refine blk_drew ?_ | refine blk_alloc ?_ _)); refine blk_far ?_ NB109_118.out _; (with_reducible repeat (first | refine blk_drewN ?_ _ | refine blk_drew ?_ | refine blk_alloc ?_ _)); exact BK109.out) hb); replace BK118 := Aside0.mk (blk_below (g := gb118) (o := .cells #[.bool t110, .slice Ao25 t111.length co25, .slice Ao26 t114.length co26] 60 (0, 0)) (by (with_reducible repeat (first | refine blk_drewN ?_ _ | refine blk_drew ?_ | refine blk_alloc ?_ _)); refine blk_put (cs := #[.bool t110, .slice Ao25 t111.length co25, .slice none 0 0]) ?_ 2 _ rfl; (with_reducible repeat (first | refine blk_drewN ?_ _ | refine blk_drew ?_ | refine blk_alloc ?_ _)); refine blk_put (cs := #[.bool t110, .slice none 0 0, .slice none 0 0]) ?_ 1 _ rfl; (with_reducible repeat (first | refine blk_drewN ?_ _ | refine blk_drew ?_ | refine blk_alloc ?_ _)); refine blk_put (cs := #[.bool false, .slice none 0 0, .slice none 0 0]) ?_ 0 _ rfl; (with_reducible repeat (first | refine blk_drewN ?_ _ | refine blk_drew ?_ | refine blk_alloc ?_ _)); exact BK118.out) hb); replace HB := yS2 HB GE109 GE118 hb; (try clear hb ho0); (try clear ho1)) | ((with_reducible refine gate_dst (N := 13) rfl ?_); refine box_event ?hg (N := 13) ?hd (cs := #[.bool false, .slice none 0 0, .slice none 0 0]) (t := 60) ?hr ?_; (case hd => rfl); (case hg => rfl); (case hr => first | (go_simp; done) | (go_simp; rfl)); intro gb127 hg w28 hbox hb; replace HO104 := yVB HO104 hg hb; replace HO107 := yVB HO107 hg hb; replace HO113 := yVB HO113 hg hb; replace HO116 := yVB HO116 hg hb; replace HO122 := yVB HO122 hg hb; replace HO125 := yVB HO125 hg hb; have BK127 := Aside0.mk (hbox); have GW127 := yg2 hg HB GE109 GE118; have GE127 := yg2 hg HB GE109 GE118; replace HB := yS2 HB GE109 GE118 hb; have NB109_127 := ynl hg BK109; have NB127_109 := yng hg BK109; replace BK109 := yK BK109 hb; have NB118_127 := ynl hg BK118; have NB127_118 := yng hg BK118; replace BK118 := yK BK118 hb; clear hb hbox hg; have hnb29 := NB127_109.out; have hnc29 := NB109_127.out; have hnb30 := NB127_118.out; have hnc30 := NB118_127.out; have hcz31_0 : w28.cell? ⟨gb127, 0, none⟩ = some (.bool false) := (blk_cell BK127.out 0).trans rfl; have hcz31_1 : w28.cell? ⟨gb127, 1, none⟩ = some (.slice none 0 0) := (blk_cell BK127.out 1).trans rfl; have hcz31_2 : w28.cell? ⟨gb127, 2, none⟩ = some (.slice none 0 0) := (blk_cell BK127.out 2).trans rfl; have hfz31_0 := blk_frozen BK127.out 0; have hfz31_1 := blk_frozen BK127.out 1; have hfz31_2 := blk_frozen BK127.out 2; obtain ⟨Ao32, co32, rfl⟩ := Kd.V_slice HO122.out; obtain ⟨Ao33, co33, rfl⟩ := Kd.V_slice HO125.out) | ((with_reducible refine gate_callee (f := 42) rfl ?_); refine zG (some 83) Try.func42 #[.int .i64 (wrap64 (a0)), .int .i64 (wrap64 (a1)), .int .i64 0, .int .i64 (wrap64 (a3))] ?_; (with_reducible refine (macwilliams_Krawtchouk.calls kj4 (wrap64 (a0)) (wrap64 (a1)) 0 (wrap64 (a3)) t128 t129 t132 t135 _ A14.out).mono ?_); rintro e w34 ⟨v130, v133, rfl, ho0, ho1, hb⟩; refine ⟨_, rfl, ?_⟩; replace HO104 := Aside0.mk (Kd.V_below (by (with_reducible repeat (first | apply Kd.V_alloc | apply Kd.V_drewN | apply Kd.V_drew)); exact (Kd.V_mono (Kd.V_far (p := ⟨gb127, 2, none⟩) (Kd.V_far (p := ⟨gb127, 1, none⟩) (Kd.V_far (p := ⟨gb127, 0, none⟩) (Kd.V_mono HO104.out (fun k_ hk => (⟨hk, hk.2⟩ : _ ∧ k_ ≠ gb127))) (fun _ hk => hk.2) (.bool t119)) (fun _ hk => hk.2) (.slice Ao32 t120.length co32)) (fun _ hk => hk.2) (.slice Ao33 t123.length co33)) (fun _ h_ => h_.1))) hb); replace HO107 := Aside0.mk (Kd.V_below (by (with_reducible repeat (first | apply Kd.V_alloc | apply Kd.V_drewN | apply Kd.V_drew)); exact (Kd.V_mono (Kd.V_far (p := ⟨gb127, 2, none⟩) (Kd.V_far (p := ⟨gb127, 1, none⟩) (Kd.V_far (p := ⟨gb127, 0, none⟩) (Kd.V_mono HO107.out (fun k_ hk => (⟨hk, hk.2⟩ : _ ∧ k_ ≠ gb127))) (fun _ hk => hk.2) (.bool t119)) (fun _ hk => hk.2) (.slice Ao32 t120.length co32)) (fun _ hk => hk.2) (.slice Ao33 t123.length co33)) (fun _ h_ => h_.1))) hb); replace HO113 := Aside0.mk (Kd.V_below (by (with_reducible repeat (first | apply Kd.V_alloc | apply Kd.V_drewN | apply Kd.V_drew)); exact (Kd.V_mono (Kd.V_far (p := ⟨gb127, 2, none⟩) (Kd.V_far (p := ⟨gb127, 1, none⟩) (Kd.V_far (p := ⟨gb127, 0, none⟩) (Kd.V_mono HO113.out (fun k_ hk => (⟨hk, hk.2⟩ : _ ∧ k_ ≠ gb127))) (fun _ hk => hk.2) (.bool t119)) (fun _ hk => hk.2) (.slice Ao32 t120.length co32)) (fun _ hk => hk.2) (.slice Ao33 t123.length co33)) (fun _ h_ => h_.1))) hb); replace HO116 := Aside0.mk (Kd.V_below (by (with_reducible repeat (first | apply Kd.V_alloc | apply Kd.V_drewN | apply Kd.V_drew)); exact (Kd.V_mono (Kd.V_far (p := ⟨gb127, 2, none⟩) (Kd.V_far (p := ⟨gb127, 1, none⟩) (Kd.V_far (p := ⟨gb127, 0, none⟩) (Kd.V_mono HO116.out (fun k_ hk => (⟨hk, hk.2⟩ : _ ∧ k_ ≠ gb127))) (fun _ hk => hk.2) (.bool t119)) (fun _ hk => hk.2) (.slice Ao32 t120.length co32)) (fun _ hk => hk.2) (.slice Ao33 t123.length co33)) (fun _ h_ => h_.1))) hb); replace HO122 := Aside0.mk (Kd.V_below (by (with_reducible repeat (first | apply Kd.V_alloc | apply Kd.V_drewN | apply Kd.V_drew)); exact (Kd.V_mono (Kd.V_far (p := ⟨gb127, 2, none⟩) (Kd.V_far (p := ⟨gb127, 1, none⟩) (Kd.V_far (p := ⟨gb127, 0, none⟩) (Kd.V_mono HO122.out (fun k_ hk => (⟨hk, hk.2⟩ : _ ∧ k_ ≠ gb127))) (fun _ hk => hk.2) (.bool t119)) (fun _ hk => hk.2) (.slice Ao32 t120.length co32)) (fun _ hk => hk.2) (.slice Ao33 t123.length co33)) (fun _ h_ => h_.1))) hb); replace HO125 := Aside0.mk (Kd.V_below (by (with_reducible repeat (first | apply Kd.V_alloc | apply Kd.V_drewN | apply Kd.V_drew)); exact (Kd.V_mono (Kd.V_far (p := ⟨gb127, 2, none⟩) (Kd.V_far (p := ⟨gb127, 1, none⟩) (Kd.V_far (p := ⟨gb127, 0, none⟩) (Kd.V_mono HO125.out (fun k_ hk => (⟨hk, hk.2⟩ : _ ∧ k_ ≠ gb127))) (fun _ hk => hk.2) (.bool t119)) (fun _ hk => hk.2) (.slice Ao32 t120.length co32)) (fun _ hk => hk.2) (.slice Ao33 t123.length co33)) (fun _ h_ => h_.1))) hb); have HO131 := Aside0.mk (Kd.V_lower (Kd.V_mono (ok' := fun k_ => k_ ≠ gb109 ∧ k_ ≠ gb118 ∧ k_ ≠ gb127) ho0 (fun k_ hk_ => ⟨(Kd.freshB (g := gb109) (o := .cells #[.bool t101, .slice Ao19 t102.length co19, .slice Ao20 t105.length co20] 60 (0, 0)) (by (with_reducible repeat (first | refine blk_drewN ?_ _ | refine blk_drew ?_ | refine blk_alloc ?_ _)); refine blk_far ?_ NB109_127.out _; (with_reducible repeat (first | refine blk_drewN ?_ _ | refine blk_drew ?_ | refine blk_alloc ?_ _)); refine blk_far ?_ NB109_127.out _; (with_reducible repeat (first | refine blk_drewN ?_ _ | refine blk_drew ?_ | refine blk_alloc ?_ _)); refine blk_far ?_ NB109_127.out _; (with_reducible repeat (first | refine blk_drewN ?_ _ | refine blk_drew ?_ | refine blk_alloc ?_ _)); exact BK109.out) k_ hk_), (Kd.freshB (g := gb118) (o := .cells #[.bool t110, .slice Ao25 t111.length co25, .slice Ao26 t114.length co26] 60 (0, 0)) (by (with_reducible repeat (first | refine blk_drewN ?_ _ | refine blk_drew ?_ | refine blk_alloc ?_ _)); refine blk_far ?_ NB118_127.out _; (with_reducible repeat (first | refine blk_drewN ?_ _ | refine blk_drew ?_ | refine blk_alloc ?_ _)); refine blk_far ?_ NB118_127.out _; (with_reducible repeat (first | refine blk_drewN ?_ _ | refine blk_drew ?_ | refine blk_alloc ?_ _)); refine blk_far ?_ NB118_127.out _; (with_reducible repeat (first | refine blk_drewN ?_ _ | refine blk_drew ?_ | refine blk_alloc ?_ _)); exact BK118.out) k_ hk_), (Kd.freshB (g := gb127) (o := .cells #[.bool t119, .slice Ao32 t120.length co32, .slice Ao33 t123.length co33] 60 (0, 0)) (by (with_reducible repeat (first | refine blk_drewN ?_ _ | refine blk_drew ?_ | refine blk_alloc ?_ _)); refine blk_put (cs := #[.bool t119, .slice Ao32 t120.length co32, .slice none 0 0]) ?_ 2 _ rfl; (with_reducible repeat (first | refine blk_drewN ?_ _ | refine blk_drew ?_ | refine blk_alloc ?_ _)); refine blk_put (cs := #[.bool t119, .slice none 0 0, .slice none 0 0]) ?_ 1 _ rfl; (with_reducible repeat (first | refine blk_drewN ?_ _ | refine blk_drew ?_ | refine blk_alloc ?_ _)); refine blk_put (cs := #[.bool false, .slice none 0 0, .slice none 0 0]) ?_ 0 _ rfl; (with_reducible repeat (first | refine blk_drewN ?_ _ | refine blk_drew ?_ | refine blk_alloc ?_ _)); exact BK127.out) k_ hk_)⟩)) (below_size (zB3 HB.out GE109.out GE118.out GE127.out))); have HO134 := Aside0.mk (Kd.V_lower (Kd.V_mono (ok' := fun k_ => k_ ≠ gb109 ∧ k_ ≠ gb118 ∧ k_ ≠ gb127) ho1 (fun k_ hk_ => ⟨(Kd.freshB (g := gb109) (o := .cells #[.bool t101, .slice Ao19 t102.length co19, .slice Ao20 t105.length co20] 60 (0, 0)) (by (with_reducible repeat (first | refine blk_drewN ?_ _ | refine blk_drew ?_ | refine blk_alloc ?_ _)); refine blk_far ?_ NB109_127.out _; (with_reducible repeat (first | refine blk_drewN ?_ _ | refine blk_drew ?_ | refine blk_alloc ?_ _)); refine blk_far ?_ NB109_127.out _; (with_reducible repeat (first | refine blk_drewN ?_ _ | refine blk_drew ?_ | refine blk_alloc ?_ _)); refine blk_far ?_ NB109_127.out _; (with_reducible repeat (first | refine blk_drewN ?_ _ | refine blk_drew ?_ | refine blk_alloc ?_ _)); exact BK109.out) k_ hk_), (Kd.freshB (g := gb118) (o := .cells #[.bool t110, .slice Ao25 t111.length co25, .slice Ao26 t114.length co26] 60 (0, 0)) (by (with_reducible repeat (first | refine blk_drewN ?_ _ | refine blk_drew ?_ | refine blk_alloc ?_ _)); refine blk_far ?_ NB118_127.out _; (with_reducible repeat (first | refine blk_drewN ?_ _ | refine blk_drew ?_ | refine blk_alloc ?_ _)); refine blk_far ?_ NB118_127.out _; (with_reducible repeat (first | refine blk_drewN ?_ _ | refine blk_drew ?_ | refine blk_alloc ?_ _)); refine blk_far ?_ NB118_127.out _; (with_reducible repeat (first | refine blk_drewN ?_ _ | refine blk_drew ?_ | refine blk_alloc ?_ _)); exact BK118.out) k_ hk_), (Kd.freshB (g := gb127) (o := .cells #[.bool t119, .slice Ao32 t120.length co32, .slice Ao33 t123.length co33] 60 (0, 0)) (by (with_reducible repeat (first | refine blk_drewN ?_ _ | refine blk_drew ?_ | refine blk_alloc ?_ _)); refine blk_put (cs := #[.bool t119, .slice Ao32 t120.length co32, .slice none 0 0]) ?_ 2 _ rfl; (with_reducible repeat (first | refine blk_drewN ?_ _ | refine blk_drew ?_ | refine blk_alloc ?_ _)); refine blk_put (cs := #[.bool t119, .slice none 0 0, .slice none 0 0]) ?_ 1 _ rfl; (with_reducible repeat (first | refine blk_drewN ?_ _ | refine blk_drew ?_ | refine blk_alloc ?_ _)); refine blk_put (cs := #[.bool false, .slice none 0 0, .slice none 0 0]) ?_ 0 _ rfl; (with_reducible repeat (first | refine blk_drewN ?_ _ | refine blk_drew ?_ | refine blk_alloc ?_ _)); exact BK127.out) k_ hk_)⟩)) (below_size (zB3 HB.out GE109.out GE118.out GE127.out))); replace BK109 := Aside0.mk (blk_below (g := gb109) (o := .cells #[.bool t101, .slice Ao19 t102.length co19, .slice Ao20 t105.length co20] 60 (0, 0)) (by (with_reducible repeat (first | refine blk_drewN ?_ _ | refine blk_drew ?_ | refine blk_alloc ?_ _)); refine blk_far ?_ NB109_127.out _; (with_reducible repeat (first | refine blk_drewN ?_ _ | refine blk_drew ?_ | refine blk_alloc ?_ _)); refine blk_far ?_ NB109_127.out _; (with_reducible repeat (first | refine blk_drewN ?_ _ | refine blk_drew ?_ | refine blk_alloc ?_ _)); refine blk_far ?_ NB109_127.out _; (with_reducible repeat (first | refine blk_drewN ?_ _ | refine blk_drew ?_ | refine blk_alloc ?_ _)); exact BK109.out) hb); replace BK118 := Aside0.mk (blk_below (g := gb118) (o := .cells #[.bool t110, .slice Ao25 t111.length co25, .slice Ao26 t114.length co26] 60 (0, 0)) (by (with_reducible repeat (first | refine blk_drewN ?_ _ | refine blk_drew ?_ | refine blk_alloc ?_ _)); refine blk_far ?_ NB118_127.out _; (with_reducible repeat (first | refine blk_drewN ?_ _ | refine blk_drew ?_ | refine blk_alloc ?_ _)); refine blk_far ?_ NB118_127.out _; (with_reducible repeat (first | refine blk_drewN ?_ _ | refine blk_drew ?_ | refine blk_alloc ?_ _)); refine blk_far ?_ NB118_127.out _; (with_reducible repeat (first | refine blk_drewN ?_ _ | refine blk_drew ?_ | refine blk_alloc ?_ _)); exact BK118.out) hb); replace BK127 := Aside0.mk (blk_below (g := gb127) (o := .cells #[.bool t119, .slice Ao32 t120.length co32, .slice Ao33 t123.length co33] 60 (0, 0)) (by (with_reducible repeat (first | refine blk_drewN ?_ _ | refine blk_drew ?_ | refine blk_alloc ?_ _)); refine blk_put (cs := #[.bool t119, .slice Ao32 t120.length co32, .slice none 0 0]) ?_ 2 _ rfl; (with_reducible repeat (first | refine blk_drewN ?_ _ | refine blk_drew ?_ | refine blk_alloc ?_ _)); refine blk_put (cs := #[.bool t119, .slice none 0 0, .slice none 0 0]) ?_ 1 _ rfl; (with_reducible repeat (first | refine blk_drewN ?_ _ | refine blk_drew ?_ | refine blk_alloc ?_ _)); refine blk_put (cs := #[.bool false, .slice none 0 0, .slice none 0 0]) ?_ 0 _ rfl; (with_reducible repeat (first | refine blk_drewN ?_ _ | refine blk_drew ?_ | refine blk_alloc ?_ _)); exact BK127.out) hb); replace HB := yS3 HB GE109 GE118 GE127 hb; (try clear hb ho0); (try clear ho1)) | ((with_reducible refine gate_dst (N := 15) rfl ?_); refine box_event ?hg (N := 15) ?hd (cs := #[.bool false, .slice none 0 0, .slice none 0 0]) (t := 60) ?hr ?_; (case hd => rfl); (case hg => rfl); (case hr => first | (go_simp; done) | (go_simp; rfl)); intro gb136 hg w35 hbox hb; replace HO104 := yVB HO104 hg hb; replace HO107 := yVB HO107 hg hb; replace HO113 := yVB HO113 hg hb; replace HO116 := yVB HO116 hg hb; replace HO122 := yVB HO122 hg hb; replace HO125 := yVB HO125 hg hb; replace HO131 := yVB HO131 hg hb; replace HO134 := yVB HO134 hg hb; have BK136 := Aside0.mk (hbox); have GW136 := yg3 hg HB GE109 GE118 GE127; have GE136 := yg3 hg HB GE109 GE118 GE127; replace HB := yS3 HB GE109 GE118 GE127 hb; have NB109_136 := ynl hg BK109; have NB136_109 := yng hg BK109; replace BK109 := yK BK109 hb; have NB118_136 := ynl hg BK118; have NB136_118 := yng hg BK118; replace BK118 := yK BK118 hb; have NB127_136 := ynl hg BK127; have NB136_127 := yng hg BK127; replace BK127 := yK BK127 hb; clear hb hbox hg; have hnb36 := NB136_109.out; have hnc36 := NB109_136.out; have hnb37 := NB136_118.out; have hnc37 := NB118_136.out; have hnb38 := NB136_127.out; have hnc38 := NB127_136.out; have hcz39_0 : w35.cell? ⟨gb136, 0, none⟩ = some (.bool false) := (blk_cell BK136.out 0).trans rfl; have hcz39_1 : w35.cell? ⟨gb136, 1, none⟩ = some (.slice none 0 0) := (blk_cell BK136.out 1).trans rfl; have hcz39_2 : w35.cell? ⟨gb136, 2, none⟩ = some (.slice none 0 0) := (blk_cell BK136.out 2).trans rfl; have hfz39_0 := blk_frozen BK136.out 0; have hfz39_1 := blk_frozen BK136.out 1; have hfz39_2 := blk_frozen BK136.out 2; obtain ⟨Ao40, co40, rfl⟩ := Kd.V_slice HO131.out; obtain ⟨Ao41, co41, rfl⟩ := Kd.V_slice HO134.out))
 (try simp only [Act.put, List.setIfInBounds_toArray, List.set_cons_zero, List.set_cons_succ])
 go_cut [105] (fun v105 wc => ∃ (kq : Nat) (x105_14 : Bool), v105 = .bool x105_14 ∧ Aside0 (codewrightlaw24_MacwilliamsRecurrence.j1 kq a0 a1 a2 a3 x105_14 t101 t102 t105 t110 t111 t114 t119 t120 t123 = some r) ∧ Aside0 (kq ≤ kj4) ∧ Aside0 (Kd.V (Kd.int .u32) 97 wc w.heap.size (fun k_ => k_ ≠ gb109 ∧ k_ ≠ gb118 ∧ k_ ≠ gb127 ∧ k_ ≠ gb136) (.slice Ao19 t102.length co19) t102) ∧ Aside0 (Kd.V (Kd.int .u32) 97 wc w.heap.size (fun k_ => k_ ≠ gb109 ∧ k_ ≠ gb118 ∧ k_ ≠ gb127 ∧ k_ ≠ gb136) (.slice Ao20 t105.length co20) t105) ∧ Aside0 (Kd.V (Kd.int .u32) 97 wc w.heap.size (fun k_ => k_ ≠ gb109 ∧ k_ ≠ gb118 ∧ k_ ≠ gb127 ∧ k_ ≠ gb136) (.slice Ao25 t111.length co25) t111) ∧ Aside0 (Kd.V (Kd.int .u32) 97 wc w.heap.size (fun k_ => k_ ≠ gb109 ∧ k_ ≠ gb118 ∧ k_ ≠ gb127 ∧ k_ ≠ gb136) (.slice Ao26 t114.length co26) t114) ∧ Aside0 (Kd.V (Kd.int .u32) 97 wc w.heap.size (fun k_ => k_ ≠ gb109 ∧ k_ ≠ gb118 ∧ k_ ≠ gb127 ∧ k_ ≠ gb136) (.slice Ao32 t120.length co32) t120) ∧ Aside0 (Kd.V (Kd.int .u32) 97 wc w.heap.size (fun k_ => k_ ≠ gb109 ∧ k_ ≠ gb118 ∧ k_ ≠ gb127 ∧ k_ ≠ gb136) (.slice Ao33 t123.length co33) t123) ∧ Aside0 (Kd.V (Kd.int .u32) 97 wc w.heap.size (fun k_ => k_ ≠ gb109 ∧ k_ ≠ gb118 ∧ k_ ≠ gb127 ∧ k_ ≠ gb136) (.slice Ao40 t129.length co40) t129) ∧ Aside0 (Kd.V (Kd.int .u32) 97 wc w.heap.size (fun k_ => k_ ≠ gb109 ∧ k_ ≠ gb118 ∧ k_ ≠ gb127 ∧ k_ ≠ gb136) (.slice Ao41 t132.length co41) t132) ∧ Aside0 (wc.heap[gb109]? = some (.cells #[.bool t101, (.slice Ao19 t102.length co19), (.slice Ao20 t105.length co20)] 60 (0, 0))) ∧ Aside0 (wc.heap[gb118]? = some (.cells #[.bool t110, (.slice Ao25 t111.length co25), (.slice Ao26 t114.length co26)] 60 (0, 0))) ∧ Aside0 (wc.heap[gb127]? = some (.cells #[.bool t119, (.slice Ao32 t120.length co32), (.slice Ao33 t123.length co33)] 60 (0, 0))) ∧ Aside0 (wc.heap[gb136]? = some (.cells #[.bool t128, (.slice Ao40 t129.length co40), (.slice Ao41 t132.length co41)] 60 (0, 0))) ∧ Aside0 (Below w.heap.size w wc))
 case first =>
  have H := HC15.out
  clear HC15
  by_cases c42 : t108 = true
  · subst c42
    rw [if_pos rfl] at H
    by_cases c43 : t117 = true
    · subst c43
      rw [if_pos rfl] at H
      by_cases c44 : t126 = true
      · subst c44
        rw [if_pos rfl] at H
        replace H := zi H
        rcases H with ⟨c45, H⟩ | ⟨c45, H⟩
        · have c45b0 := beq_iff_eq.mpr c45
          have c45b1 := bne_eq_false_iff_eq.mpr c45
          clear c45
          (first | rw [c45b0] | (simp only [i64_w, i32_w]; rw [c45b0]) | rw [c45b1] | skip)
          replace H := zb H
          obtain ⟨⟨t137, t138, t141⟩, A46, H⟩ := H
          dsimp only at H
          replace H := zb H
          obtain ⟨t144, A47, H⟩ := H
          have H' := Aside0.mk H
          clear H
          try go_wp2
          have n0_ : Aside0 (Kd.V (Kd.int .u32) 97 (((w35.setCell ⟨gb136, 0, none⟩ (.bool t128)).setCell ⟨gb136, 1, none⟩ (.slice Ao40 t129.length co40)).setCell ⟨gb136, 2, none⟩ (.slice Ao41 t132.length co41)) w.heap.size (fun k_ => k_ ≠ gb109 ∧ k_ ≠ gb118 ∧ k_ ≠ gb127 ∧ k_ ≠ gb136) (.slice Ao19 t102.length co19) t102) := ⟨by (with_reducible repeat (first | apply Kd.V_alloc | apply Kd.V_drewN | apply Kd.V_drew)); exact Kd.V_mono (Kd.V_far (p := ⟨gb136, 2, none⟩) (Kd.V_far (p := ⟨gb136, 1, none⟩) (Kd.V_far (p := ⟨gb136, 0, none⟩) (Kd.V_mono HO104.out (fun k_ hk => (⟨hk, hk.2⟩ : _ ∧ k_ ≠ gb136))) (fun _ hk => hk.2) (.bool t128)) (fun _ hk => hk.2) (.slice Ao40 t129.length co40)) (fun _ hk => hk.2) (.slice Ao41 t132.length co41)) (fun _ hk => ⟨hk.1.1.1.1.2, ⟨hk.1.1.1.2, ⟨hk.1.1.2, hk.1.2⟩⟩⟩)⟩
          have n1_ : Aside0 (Kd.V (Kd.int .u32) 97 (((w35.setCell ⟨gb136, 0, none⟩ (.bool t128)).setCell ⟨gb136, 1, none⟩ (.slice Ao40 t129.length co40)).setCell ⟨gb136, 2, none⟩ (.slice Ao41 t132.length co41)) w.heap.size (fun k_ => k_ ≠ gb109 ∧ k_ ≠ gb118 ∧ k_ ≠ gb127 ∧ k_ ≠ gb136) (.slice Ao20 t105.length co20) t105) := ⟨by (with_reducible repeat (first | apply Kd.V_alloc | apply Kd.V_drewN | apply Kd.V_drew)); exact Kd.V_mono (Kd.V_far (p := ⟨gb136, 2, none⟩) (Kd.V_far (p := ⟨gb136, 1, none⟩) (Kd.V_far (p := ⟨gb136, 0, none⟩) (Kd.V_mono HO107.out (fun k_ hk => (⟨hk, hk.2⟩ : _ ∧ k_ ≠ gb136))) (fun _ hk => hk.2) (.bool t128)) (fun _ hk => hk.2) (.slice Ao40 t129.length co40)) (fun _ hk => hk.2) (.slice Ao41 t132.length co41)) (fun _ hk => ⟨hk.1.1.1.1.2, ⟨hk.1.1.1.2, ⟨hk.1.1.2, hk.1.2⟩⟩⟩)⟩
          have n2_ : Aside0 (Kd.V (Kd.int .u32) 97 (((w35.setCell ⟨gb136, 0, none⟩ (.bool t128)).setCell ⟨gb136, 1, none⟩ (.slice Ao40 t129.length co40)).setCell ⟨gb136, 2, none⟩ (.slice Ao41 t132.length co41)) w.heap.size (fun k_ => k_ ≠ gb109 ∧ k_ ≠ gb118 ∧ k_ ≠ gb127 ∧ k_ ≠ gb136) (.slice Ao25 t111.length co25) t111) := ⟨by (with_reducible repeat (first | apply Kd.V_alloc | apply Kd.V_drewN | apply Kd.V_drew)); exact Kd.V_mono (Kd.V_far (p := ⟨gb136, 2, none⟩) (Kd.V_far (p := ⟨gb136, 1, none⟩) (Kd.V_far (p := ⟨gb136, 0, none⟩) (Kd.V_mono HO113.out (fun k_ hk => (⟨hk, hk.2⟩ : _ ∧ k_ ≠ gb136))) (fun _ hk => hk.2) (.bool t128)) (fun _ hk => hk.2) (.slice Ao40 t129.length co40)) (fun _ hk => hk.2) (.slice Ao41 t132.length co41)) (fun _ hk => ⟨hk.1.1.1.1, ⟨hk.1.1.1.2, ⟨hk.1.1.2, hk.1.2⟩⟩⟩)⟩
          have n3_ : Aside0 (Kd.V (Kd.int .u32) 97 (((w35.setCell ⟨gb136, 0, none⟩ (.bool t128)).setCell ⟨gb136, 1, none⟩ (.slice Ao40 t129.length co40)).setCell ⟨gb136, 2, none⟩ (.slice Ao41 t132.length co41)) w.heap.size (fun k_ => k_ ≠ gb109 ∧ k_ ≠ gb118 ∧ k_ ≠ gb127 ∧ k_ ≠ gb136) (.slice Ao26 t114.length co26) t114) := ⟨by (with_reducible repeat (first | apply Kd.V_alloc | apply Kd.V_drewN | apply Kd.V_drew)); exact Kd.V_mono (Kd.V_far (p := ⟨gb136, 2, none⟩) (Kd.V_far (p := ⟨gb136, 1, none⟩) (Kd.V_far (p := ⟨gb136, 0, none⟩) (Kd.V_mono HO116.out (fun k_ hk => (⟨hk, hk.2⟩ : _ ∧ k_ ≠ gb136))) (fun _ hk => hk.2) (.bool t128)) (fun _ hk => hk.2) (.slice Ao40 t129.length co40)) (fun _ hk => hk.2) (.slice Ao41 t132.length co41)) (fun _ hk => ⟨hk.1.1.1.1, ⟨hk.1.1.1.2, ⟨hk.1.1.2, hk.1.2⟩⟩⟩)⟩
          have n4_ : Aside0 (Kd.V (Kd.int .u32) 97 (((w35.setCell ⟨gb136, 0, none⟩ (.bool t128)).setCell ⟨gb136, 1, none⟩ (.slice Ao40 t129.length co40)).setCell ⟨gb136, 2, none⟩ (.slice Ao41 t132.length co41)) w.heap.size (fun k_ => k_ ≠ gb109 ∧ k_ ≠ gb118 ∧ k_ ≠ gb127 ∧ k_ ≠ gb136) (.slice Ao32 t120.length co32) t120) := ⟨by (with_reducible repeat (first | apply Kd.V_alloc | apply Kd.V_drewN | apply Kd.V_drew)); exact Kd.V_mono (Kd.V_far (p := ⟨gb136, 2, none⟩) (Kd.V_far (p := ⟨gb136, 1, none⟩) (Kd.V_far (p := ⟨gb136, 0, none⟩) (Kd.V_mono HO122.out (fun k_ hk => (⟨hk, hk.2⟩ : _ ∧ k_ ≠ gb136))) (fun _ hk => hk.2) (.bool t128)) (fun _ hk => hk.2) (.slice Ao40 t129.length co40)) (fun _ hk => hk.2) (.slice Ao41 t132.length co41)) (fun _ hk => ⟨hk.1.1.1.1, ⟨hk.1.1.1.2, ⟨hk.1.1.2, hk.1.2⟩⟩⟩)⟩
          have n5_ : Aside0 (Kd.V (Kd.int .u32) 97 (((w35.setCell ⟨gb136, 0, none⟩ (.bool t128)).setCell ⟨gb136, 1, none⟩ (.slice Ao40 t129.length co40)).setCell ⟨gb136, 2, none⟩ (.slice Ao41 t132.length co41)) w.heap.size (fun k_ => k_ ≠ gb109 ∧ k_ ≠ gb118 ∧ k_ ≠ gb127 ∧ k_ ≠ gb136) (.slice Ao33 t123.length co33) t123) := ⟨by (with_reducible repeat (first | apply Kd.V_alloc | apply Kd.V_drewN | apply Kd.V_drew)); exact Kd.V_mono (Kd.V_far (p := ⟨gb136, 2, none⟩) (Kd.V_far (p := ⟨gb136, 1, none⟩) (Kd.V_far (p := ⟨gb136, 0, none⟩) (Kd.V_mono HO125.out (fun k_ hk => (⟨hk, hk.2⟩ : _ ∧ k_ ≠ gb136))) (fun _ hk => hk.2) (.bool t128)) (fun _ hk => hk.2) (.slice Ao40 t129.length co40)) (fun _ hk => hk.2) (.slice Ao41 t132.length co41)) (fun _ hk => ⟨hk.1.1.1.1, ⟨hk.1.1.1.2, ⟨hk.1.1.2, hk.1.2⟩⟩⟩)⟩
          have n6_ : Aside0 (Kd.V (Kd.int .u32) 97 (((w35.setCell ⟨gb136, 0, none⟩ (.bool t128)).setCell ⟨gb136, 1, none⟩ (.slice Ao40 t129.length co40)).setCell ⟨gb136, 2, none⟩ (.slice Ao41 t132.length co41)) w.heap.size (fun k_ => k_ ≠ gb109 ∧ k_ ≠ gb118 ∧ k_ ≠ gb127 ∧ k_ ≠ gb136) (.slice Ao40 t129.length co40) t129) := ⟨by (with_reducible repeat (first | apply Kd.V_alloc | apply Kd.V_drewN | apply Kd.V_drew)); exact Kd.V_mono (Kd.V_far (p := ⟨gb136, 2, none⟩) (Kd.V_far (p := ⟨gb136, 1, none⟩) (Kd.V_far (p := ⟨gb136, 0, none⟩) (Kd.V_mono HO131.out (fun k_ hk => (⟨hk, hk.2⟩ : _ ∧ k_ ≠ gb136))) (fun _ hk => hk.2) (.bool t128)) (fun _ hk => hk.2) (.slice Ao40 t129.length co40)) (fun _ hk => hk.2) (.slice Ao41 t132.length co41)) (fun _ hk => ⟨hk.1.1.1, ⟨hk.1.1.2.1, ⟨hk.1.1.2.2, hk.1.2⟩⟩⟩)⟩
          have n7_ : Aside0 (Kd.V (Kd.int .u32) 97 (((w35.setCell ⟨gb136, 0, none⟩ (.bool t128)).setCell ⟨gb136, 1, none⟩ (.slice Ao40 t129.length co40)).setCell ⟨gb136, 2, none⟩ (.slice Ao41 t132.length co41)) w.heap.size (fun k_ => k_ ≠ gb109 ∧ k_ ≠ gb118 ∧ k_ ≠ gb127 ∧ k_ ≠ gb136) (.slice Ao41 t132.length co41) t132) := ⟨by (with_reducible repeat (first | apply Kd.V_alloc | apply Kd.V_drewN | apply Kd.V_drew)); exact Kd.V_mono (Kd.V_far (p := ⟨gb136, 2, none⟩) (Kd.V_far (p := ⟨gb136, 1, none⟩) (Kd.V_far (p := ⟨gb136, 0, none⟩) (Kd.V_mono HO134.out (fun k_ hk => (⟨hk, hk.2⟩ : _ ∧ k_ ≠ gb136))) (fun _ hk => hk.2) (.bool t128)) (fun _ hk => hk.2) (.slice Ao40 t129.length co40)) (fun _ hk => hk.2) (.slice Ao41 t132.length co41)) (fun _ hk => ⟨hk.1.1.1, ⟨hk.1.1.2.1, ⟨hk.1.1.2.2, hk.1.2⟩⟩⟩)⟩
          have n8_ : Aside0 ((((w35.setCell ⟨gb136, 0, none⟩ (.bool t128)).setCell ⟨gb136, 1, none⟩ (.slice Ao40 t129.length co40)).setCell ⟨gb136, 2, none⟩ (.slice Ao41 t132.length co41)).heap[gb109]? = some (.cells #[.bool t101, .slice Ao19 t102.length co19, .slice Ao20 t105.length co20] 60 (0, 0))) := ⟨by (with_reducible repeat (first | refine blk_drewN ?_ _ | refine blk_drew ?_ | refine blk_alloc ?_ _)); refine blk_far ?_ NB109_136.out _; (with_reducible repeat (first | refine blk_drewN ?_ _ | refine blk_drew ?_ | refine blk_alloc ?_ _)); refine blk_far ?_ NB109_136.out _; (with_reducible repeat (first | refine blk_drewN ?_ _ | refine blk_drew ?_ | refine blk_alloc ?_ _)); refine blk_far ?_ NB109_136.out _; (with_reducible repeat (first | refine blk_drewN ?_ _ | refine blk_drew ?_ | refine blk_alloc ?_ _)); exact BK109.out⟩
          have n9_ : Aside0 ((((w35.setCell ⟨gb136, 0, none⟩ (.bool t128)).setCell ⟨gb136, 1, none⟩ (.slice Ao40 t129.length co40)).setCell ⟨gb136, 2, none⟩ (.slice Ao41 t132.length co41)).heap[gb118]? = some (.cells #[.bool t110, .slice Ao25 t111.length co25, .slice Ao26 t114.length co26] 60 (0, 0))) := ⟨by (with_reducible repeat (first | refine blk_drewN ?_ _ | refine blk_drew ?_ | refine blk_alloc ?_ _)); refine blk_far ?_ NB118_136.out _; (with_reducible repeat (first | refine blk_drewN ?_ _ | refine blk_drew ?_ | refine blk_alloc ?_ _)); refine blk_far ?_ NB118_136.out _; (with_reducible repeat (first | refine blk_drewN ?_ _ | refine blk_drew ?_ | refine blk_alloc ?_ _)); refine blk_far ?_ NB118_136.out _; (with_reducible repeat (first | refine blk_drewN ?_ _ | refine blk_drew ?_ | refine blk_alloc ?_ _)); exact BK118.out⟩
          have n10_ : Aside0 ((((w35.setCell ⟨gb136, 0, none⟩ (.bool t128)).setCell ⟨gb136, 1, none⟩ (.slice Ao40 t129.length co40)).setCell ⟨gb136, 2, none⟩ (.slice Ao41 t132.length co41)).heap[gb127]? = some (.cells #[.bool t119, .slice Ao32 t120.length co32, .slice Ao33 t123.length co33] 60 (0, 0))) := ⟨by (with_reducible repeat (first | refine blk_drewN ?_ _ | refine blk_drew ?_ | refine blk_alloc ?_ _)); refine blk_far ?_ NB127_136.out _; (with_reducible repeat (first | refine blk_drewN ?_ _ | refine blk_drew ?_ | refine blk_alloc ?_ _)); refine blk_far ?_ NB127_136.out _; (with_reducible repeat (first | refine blk_drewN ?_ _ | refine blk_drew ?_ | refine blk_alloc ?_ _)); refine blk_far ?_ NB127_136.out _; (with_reducible repeat (first | refine blk_drewN ?_ _ | refine blk_drew ?_ | refine blk_alloc ?_ _)); exact BK127.out⟩
          have n11_ : Aside0 ((((w35.setCell ⟨gb136, 0, none⟩ (.bool t128)).setCell ⟨gb136, 1, none⟩ (.slice Ao40 t129.length co40)).setCell ⟨gb136, 2, none⟩ (.slice Ao41 t132.length co41)).heap[gb136]? = some (.cells #[.bool t128, .slice Ao40 t129.length co40, .slice Ao41 t132.length co41] 60 (0, 0))) := ⟨by (with_reducible repeat (first | refine blk_drewN ?_ _ | refine blk_drew ?_ | refine blk_alloc ?_ _)); refine blk_put (cs := #[.bool t128, .slice Ao40 t129.length co40, .slice none 0 0]) ?_ 2 _ rfl; (with_reducible repeat (first | refine blk_drewN ?_ _ | refine blk_drew ?_ | refine blk_alloc ?_ _)); refine blk_put (cs := #[.bool t128, .slice none 0 0, .slice none 0 0]) ?_ 1 _ rfl; (with_reducible repeat (first | refine blk_drewN ?_ _ | refine blk_drew ?_ | refine blk_alloc ?_ _)); refine blk_put (cs := #[.bool false, .slice none 0 0, .slice none 0 0]) ?_ 0 _ rfl; (with_reducible repeat (first | refine blk_drewN ?_ _ | refine blk_drew ?_ | refine blk_alloc ?_ _)); exact BK136.out⟩
          have n12_ : Aside0 (Below w.heap.size w (((w35.setCell ⟨gb136, 0, none⟩ (.bool t128)).setCell ⟨gb136, 1, none⟩ (.slice Ao40 t129.length co40)).setCell ⟨gb136, 2, none⟩ (.slice Ao41 t132.length co41))) := ⟨zB4 HB.out GE109.out GE118.out GE127.out GE136.out⟩
          (try clear HO104)
          (try clear HO107)
          (try clear HO113)
          (try clear HO116)
          (try clear HO122)
          (try clear HO125)
          (try clear HO131)
          (try clear HO134)
          (try clear BK109)
          (try clear BK118)
          (try clear BK127)
          (try clear BK136)
          (try clear HB)
          generalize (((w35.setCell ⟨gb136, 0, none⟩ (.bool t128)).setCell ⟨gb136, 1, none⟩ (.slice Ao40 t129.length co40)).setCell ⟨gb136, 2, none⟩ (.slice Ao41 t132.length co41)) = w48 at n0_ n1_ n2_ n3_ n4_ n5_ n6_ n7_ n8_ n9_ n10_ n11_ n12_ ⊢
          have HO104 := n0_
          have HO107 := n1_
          have HO113 := n2_
          have HO116 := n3_
          have HO122 := n4_
          have HO125 := n5_
          have HO131 := n6_
          have HO134 := n7_
          have BK109 := n8_
          have BK118 := n9_
          have BK127 := n10_
          have BK136 := n11_
          have HB := n12_
          clear n0_ n1_ n2_ n3_ n4_ n5_ n6_ n7_ n8_ n9_ n10_ n11_ n12_
          replace HO104 := Aside0.mk (Kd.V_drew HO104.out)
          replace HO107 := Aside0.mk (Kd.V_drew HO107.out)
          replace HO113 := Aside0.mk (Kd.V_drew HO113.out)
          replace HO116 := Aside0.mk (Kd.V_drew HO116.out)
          replace HO122 := Aside0.mk (Kd.V_drew HO122.out)
          replace HO125 := Aside0.mk (Kd.V_drew HO125.out)
          replace HO131 := Aside0.mk (Kd.V_drew HO131.out)
          replace HO134 := Aside0.mk (Kd.V_drew HO134.out)
          replace BK109 := Aside0.mk (blk_drew BK109.out)
          replace BK118 := Aside0.mk (blk_drew BK118.out)
          replace BK127 := Aside0.mk (blk_drew BK127.out)
          replace BK136 := Aside0.mk (blk_drew BK136.out)
          replace HB := Aside0.mk (below_drew1 HB.out)
          refine start_ (n := 20) (S := fun w' => w'.cell? ⟨gb136, 0, none⟩ = some (.bool t128) ∧ w'.cell? ⟨gb136, 1, none⟩ = some (.slice Ao40 t129.length co40) ∧ w'.cell? ⟨gb136, 2, none⟩ = some (.slice Ao41 t132.length co41)) (ds := []) #[false, false, false, false, false, false, false, false, false, false, false, false, false, false, false, false, false, false, false, false] (by kernel_rfl) rfl rfl ⟨(blk_cell BK136.out 0).trans rfl, (blk_cell BK136.out 1).trans rfl, (blk_cell BK136.out 2).trans rfl⟩ (fun hHeld => ?_); refine with_tabW codewrightlaw24_MacwilliamsRecurrence.tab7 codewrightlaw24_MacwilliamsRecurrence.bits7 (fun HT_ HW_ => ?_)
          generalize w48.drew = w49 at HO104 HO107 HO113 HO116 HO122 HO125 HO131 HO134 BK109 BK118 BK127 BK136 HB hHeld ⊢
          refine zp (i := 0) (N := some 86) HT_ ?_
          refine zp (i := 1) (N := some 87) HT_ ?_
          refine zp (i := 2) (N := some 88) HT_ ?_
          refine zp (i := 3) (N := some 89) HT_ ?_
          refine zp (i := 4) (N := some 90) HT_ ?_
          refine zp (i := 5) (N := some 91) HT_ ?_
          refine zp (i := 6) (N := some 92) HT_ ?_
          refine zp (i := 7) (N := some 93) HT_ ?_
          refine zp (i := 8) (N := some 94) HT_ ?_
          refine zp (i := 9) (N := some 95) HT_ ?_
          refine zp (i := 10) (N := some 96) HT_ ?_
          refine zp (i := 11) (N := some 97) HT_ ?_
          refine zp (i := 12) (N := some 98) HT_ ?_
          refine zp (i := 13) (N := some 99) HT_ ?_
          refine zp (i := 14) (N := some 100) HT_ ?_
          refine take_ (i := 15) (N := some 101) (v := ?_) (a' := ?_) #[true, true, true, true, true, true, true, true, true, true, true, true, true, true, true, true, false, false, false, false] rfl rfl (take_ofW HT_.out HW_.out (by kernel_rfl)) (fun _ _ _ h => h) (Or.inl ⟨by rfl, ?_⟩) hHeld ?_ ?_
          rotate_left
          · rintro w' ⟨s0, s1, s2⟩
            go_simp
            with_reducible rfl
          rotate_left
          · simp only [Act.put, List.setIfInBounds_toArray, List.set_cons_zero, List.set_cons_succ, i64_w, i32_w]
            rfl
          refine one_ (i := 16) (N := some 102) #[true, true, true, true, true, true, true, true, true, true, true, true, true, true, true, true, true, false, false, false] rfl rfl (one_of HT_.out (by kernel_rfl)) (by decide) (fun K hK => ?_)
          refine goes_ Try.func48 (by kernel_rfl) rfl #[.int .i64 1] (by rfl) rfl rfl (by (try simp only [List.map_toArray, List.map_cons, List.map_nil]); first | done | rfl | (simp only [List.length_drop, List.length_take]; rfl)) ?_
          with_reducible refine (codewrightref02_Int.calls kj4 1 t137 t138 t141 _ A46.out).mono ?_
          rintro e w50 ⟨v139, v142, rfl, ho0, ho1, hb⟩
          refine ⟨_, rfl, ?_⟩
          replace HO104 := yVt HO104 hb ho0 ho1
          replace HO107 := yVt HO107 hb ho0 ho1
          replace HO113 := yVt HO113 hb ho0 ho1
          replace HO116 := yVt HO116 hb ho0 ho1
          replace HO122 := yVt HO122 hb ho0 ho1
          replace HO125 := yVt HO125 hb ho0 ho1
          replace HO131 := yVt HO131 hb ho0 ho1
          replace HO134 := yVt HO134 hb ho0 ho1
          have HO140 := yRl4 ho0 HB GE109 GE118 GE127 GE136
          have HO143 := yRl4 ho1 HB GE109 GE118 GE127 GE136
          replace BK109 := yK BK109 hb
          replace BK118 := yK BK118 hb
          replace BK127 := yK BK127 hb
          replace BK136 := yK BK136 hb
          replace HB := yS4 HB GE109 GE118 GE127 GE136 hb
          (try clear hb)
          (try clear hb2)
          (try clear hk)
          (try clear hi)
          (try clear ho0)
          (try clear ho1)
          obtain ⟨Ao51, co51, eo51⟩ := Kd.R_slice HO140.out
          (first | subst eo51 | (injection eo51 with f1_ f2_ f3_; have f4_ := f1_.symm; have f5_ := f3_.symm; clear f1_ f2_ f3_; subst f4_; subst f5_))
          obtain ⟨Ao52, co52, eo52⟩ := Kd.R_slice HO143.out
          (first | subst eo52 | (injection eo52 with f1_ f2_ f3_; have f4_ := f1_.symm; have f5_ := f3_.symm; clear f1_ f2_ f3_; subst f4_; subst f5_))
          refine hK.out _ _ ⟨(blk_cell BK136.out 0).trans rfl, (blk_cell BK136.out 1).trans rfl, (blk_cell BK136.out 2).trans rfl⟩ (fun hHeld => ?_)
          clear hK K
          refine norm_ (a' := ?_) ?_ ?_
          rotate_left
          · show Act.put _ (some 102) _ = _
            simp only [Act.put, List.setIfInBounds_toArray, List.set_cons_zero, List.set_cons_succ, i64_w, i32_w]
            rfl
          refine one_ (i := 17) (N := some 103) #[true, true, true, true, true, true, true, true, true, true, true, true, true, true, true, true, true, true, false, false] rfl rfl (one_of HT_.out (by kernel_rfl)) (by decide) (fun K hK => ?_)
          refine goes_ Try.func45 (by kernel_rfl) rfl #[.agg #[.bool t128, .slice Ao40 t129.length co40, .slice Ao41 t132.length co41], .agg #[.bool t137, .slice Ao51 t138.length co51, .slice Ao52 t141.length co52]] (by rfl) rfl rfl (by (try simp only [List.map_toArray, List.map_cons, List.map_nil]); first | done | rfl | (simp only [List.length_drop, List.length_take]; rfl)) ?_
          with_reducible refine (codewrightref02_Same.calls kj4 t128 _ _ t129 _ _ t132 t137 _ _ t138 _ _ t141 t144 _ ?side1 ?side2 ?side3 ?side4 ?side5 ?side6 ?side7 ?side8 A47.out).mono ?_
          (case side1 => exact zC (Kd.V_reads' HO131.out).2.2)
          (case side2 => exact (Kd.V_reads' HO131.out).2.1)
          (case side3 => exact zC (Kd.V_reads' HO134.out).2.2)
          (case side4 => exact (Kd.V_reads' HO134.out).2.1)
          (case side5 => exact zC (Kd.R_reads' HO140.out).2.2)
          (case side6 => exact (Kd.R_reads' HO140.out).2.1)
          (case side7 => exact zC (Kd.R_reads' HO143.out).2.2)
          (case side8 => exact (Kd.R_reads' HO143.out).2.1)
          rintro e w53 ⟨rfl, hb⟩
          refine ⟨_, rfl, ?_⟩
          replace HO104 := yVb HO104 hb
          replace HO107 := yVb HO107 hb
          replace HO113 := yVb HO113 hb
          replace HO116 := yVb HO116 hb
          replace HO122 := yVb HO122 hb
          replace HO125 := yVb HO125 hb
          replace HO131 := yVb HO131 hb
          replace HO134 := yVb HO134 hb
          replace HO140 := yRb HO140 hb
          replace HO143 := yRb HO143 hb
          replace BK109 := yK BK109 hb
          replace BK118 := yK BK118 hb
          replace BK127 := yK BK127 hb
          replace BK136 := yK BK136 hb
          replace HB := yS4 HB GE109 GE118 GE127 GE136 hb
          (try clear hb)
          (try clear hb2)
          (try clear hk)
          (try clear hi)
          refine hK.out _ _ ⟨(blk_cell BK136.out 0).trans rfl, (blk_cell BK136.out 1).trans rfl, (blk_cell BK136.out 2).trans rfl⟩ (fun hHeld => ?_)
          clear hK K
          refine norm_ (a' := ?_) ?_ ?_
          rotate_left
          · show Act.put _ (some 103) _ = _
            simp only [Act.put, List.setIfInBounds_toArray, List.set_cons_zero, List.set_cons_succ, i64_w, i32_w]
            rfl
          refine zp (i := 18) (N := some 104) HT_ ?_
          refine zp (i := 19) (N := some 105) HT_ ?_
          refine done_ (done_of HT_.out (by kernel_rfl)) ?_
          try go_wp2
          go_meet
          case rel => exact ⟨_, (!t144), zF, H', ⟨by have := HJ4.out; first | omega | exact Nat.le_refl _⟩, ⟨by (with_reducible repeat (first | apply Kd.V_alloc | apply Kd.V_drewN | apply Kd.V_drew)); exact Kd.V_mono HO104.out (fun _ hk => ⟨hk.1.1.1, ⟨hk.1.1.2.1, ⟨hk.1.1.2.2.1, hk.1.1.2.2.2⟩⟩⟩)⟩, ⟨by (with_reducible repeat (first | apply Kd.V_alloc | apply Kd.V_drewN | apply Kd.V_drew)); exact Kd.V_mono HO107.out (fun _ hk => ⟨hk.1.1.1, ⟨hk.1.1.2.1, ⟨hk.1.1.2.2.1, hk.1.1.2.2.2⟩⟩⟩)⟩, ⟨by (with_reducible repeat (first | apply Kd.V_alloc | apply Kd.V_drewN | apply Kd.V_drew)); exact Kd.V_mono HO113.out (fun _ hk => ⟨hk.1.1.1, ⟨hk.1.1.2.1, ⟨hk.1.1.2.2.1, hk.1.1.2.2.2⟩⟩⟩)⟩, ⟨by (with_reducible repeat (first | apply Kd.V_alloc | apply Kd.V_drewN | apply Kd.V_drew)); exact Kd.V_mono HO116.out (fun _ hk => ⟨hk.1.1.1, ⟨hk.1.1.2.1, ⟨hk.1.1.2.2.1, hk.1.1.2.2.2⟩⟩⟩)⟩, ⟨by (with_reducible repeat (first | apply Kd.V_alloc | apply Kd.V_drewN | apply Kd.V_drew)); exact Kd.V_mono HO122.out (fun _ hk => ⟨hk.1.1.1, ⟨hk.1.1.2.1, ⟨hk.1.1.2.2.1, hk.1.1.2.2.2⟩⟩⟩)⟩, ⟨by (with_reducible repeat (first | apply Kd.V_alloc | apply Kd.V_drewN | apply Kd.V_drew)); exact Kd.V_mono HO125.out (fun _ hk => ⟨hk.1.1.1, ⟨hk.1.1.2.1, ⟨hk.1.1.2.2.1, hk.1.1.2.2.2⟩⟩⟩)⟩, ⟨by (with_reducible repeat (first | apply Kd.V_alloc | apply Kd.V_drewN | apply Kd.V_drew)); exact Kd.V_mono HO131.out (fun _ hk => ⟨hk.1.1.1, ⟨hk.1.1.2.1, ⟨hk.1.1.2.2.1, hk.1.1.2.2.2⟩⟩⟩)⟩, ⟨by (with_reducible repeat (first | apply Kd.V_alloc | apply Kd.V_drewN | apply Kd.V_drew)); exact Kd.V_mono HO134.out (fun _ hk => ⟨hk.1.1.1, ⟨hk.1.1.2.1, ⟨hk.1.1.2.2.1, hk.1.1.2.2.2⟩⟩⟩)⟩, ⟨by (with_reducible repeat (first | refine blk_drewN ?_ _ | refine blk_drew ?_ | refine blk_alloc ?_ _)); exact BK109.out⟩, ⟨by (with_reducible repeat (first | refine blk_drewN ?_ _ | refine blk_drew ?_ | refine blk_alloc ?_ _)); exact BK118.out⟩, ⟨by (with_reducible repeat (first | refine blk_drewN ?_ _ | refine blk_drew ?_ | refine blk_alloc ?_ _)); exact BK127.out⟩, ⟨by (with_reducible repeat (first | refine blk_drewN ?_ _ | refine blk_drew ?_ | refine blk_alloc ?_ _)); exact BK136.out⟩, ⟨zB4 HB.out GE109.out GE118.out GE127.out GE136.out⟩⟩
        have c45b0 := beq_eq_false_iff_ne.mpr c45
        have c45b1 := bne_iff_ne.mpr c45
        (first | rw [c45b0] | (simp only [i64_w, i32_w]; rw [c45b0]) | rw [c45b1] | skip)
        have H' := Aside0.mk H
        clear H
        try go_wp2
        have n0_ : Aside0 (Kd.V (Kd.int .u32) 97 (((w35.setCell ⟨gb136, 0, none⟩ (.bool t128)).setCell ⟨gb136, 1, none⟩ (.slice Ao40 t129.length co40)).setCell ⟨gb136, 2, none⟩ (.slice Ao41 t132.length co41)) w.heap.size (fun k_ => k_ ≠ gb109 ∧ k_ ≠ gb118 ∧ k_ ≠ gb127 ∧ k_ ≠ gb136) (.slice Ao19 t102.length co19) t102) := ⟨by (with_reducible repeat (first | apply Kd.V_alloc | apply Kd.V_drewN | apply Kd.V_drew)); exact Kd.V_mono (Kd.V_far (p := ⟨gb136, 2, none⟩) (Kd.V_far (p := ⟨gb136, 1, none⟩) (Kd.V_far (p := ⟨gb136, 0, none⟩) (Kd.V_mono HO104.out (fun k_ hk => (⟨hk, hk.2⟩ : _ ∧ k_ ≠ gb136))) (fun _ hk => hk.2) (.bool t128)) (fun _ hk => hk.2) (.slice Ao40 t129.length co40)) (fun _ hk => hk.2) (.slice Ao41 t132.length co41)) (fun _ hk => ⟨hk.1.1.1.1.2, ⟨hk.1.1.1.2, ⟨hk.1.1.2, hk.1.2⟩⟩⟩)⟩
        have n1_ : Aside0 (Kd.V (Kd.int .u32) 97 (((w35.setCell ⟨gb136, 0, none⟩ (.bool t128)).setCell ⟨gb136, 1, none⟩ (.slice Ao40 t129.length co40)).setCell ⟨gb136, 2, none⟩ (.slice Ao41 t132.length co41)) w.heap.size (fun k_ => k_ ≠ gb109 ∧ k_ ≠ gb118 ∧ k_ ≠ gb127 ∧ k_ ≠ gb136) (.slice Ao20 t105.length co20) t105) := ⟨by (with_reducible repeat (first | apply Kd.V_alloc | apply Kd.V_drewN | apply Kd.V_drew)); exact Kd.V_mono (Kd.V_far (p := ⟨gb136, 2, none⟩) (Kd.V_far (p := ⟨gb136, 1, none⟩) (Kd.V_far (p := ⟨gb136, 0, none⟩) (Kd.V_mono HO107.out (fun k_ hk => (⟨hk, hk.2⟩ : _ ∧ k_ ≠ gb136))) (fun _ hk => hk.2) (.bool t128)) (fun _ hk => hk.2) (.slice Ao40 t129.length co40)) (fun _ hk => hk.2) (.slice Ao41 t132.length co41)) (fun _ hk => ⟨hk.1.1.1.1.2, ⟨hk.1.1.1.2, ⟨hk.1.1.2, hk.1.2⟩⟩⟩)⟩
        have n2_ : Aside0 (Kd.V (Kd.int .u32) 97 (((w35.setCell ⟨gb136, 0, none⟩ (.bool t128)).setCell ⟨gb136, 1, none⟩ (.slice Ao40 t129.length co40)).setCell ⟨gb136, 2, none⟩ (.slice Ao41 t132.length co41)) w.heap.size (fun k_ => k_ ≠ gb109 ∧ k_ ≠ gb118 ∧ k_ ≠ gb127 ∧ k_ ≠ gb136) (.slice Ao25 t111.length co25) t111) := ⟨by (with_reducible repeat (first | apply Kd.V_alloc | apply Kd.V_drewN | apply Kd.V_drew)); exact Kd.V_mono (Kd.V_far (p := ⟨gb136, 2, none⟩) (Kd.V_far (p := ⟨gb136, 1, none⟩) (Kd.V_far (p := ⟨gb136, 0, none⟩) (Kd.V_mono HO113.out (fun k_ hk => (⟨hk, hk.2⟩ : _ ∧ k_ ≠ gb136))) (fun _ hk => hk.2) (.bool t128)) (fun _ hk => hk.2) (.slice Ao40 t129.length co40)) (fun _ hk => hk.2) (.slice Ao41 t132.length co41)) (fun _ hk => ⟨hk.1.1.1.1, ⟨hk.1.1.1.2, ⟨hk.1.1.2, hk.1.2⟩⟩⟩)⟩
        have n3_ : Aside0 (Kd.V (Kd.int .u32) 97 (((w35.setCell ⟨gb136, 0, none⟩ (.bool t128)).setCell ⟨gb136, 1, none⟩ (.slice Ao40 t129.length co40)).setCell ⟨gb136, 2, none⟩ (.slice Ao41 t132.length co41)) w.heap.size (fun k_ => k_ ≠ gb109 ∧ k_ ≠ gb118 ∧ k_ ≠ gb127 ∧ k_ ≠ gb136) (.slice Ao26 t114.length co26) t114) := ⟨by (with_reducible repeat (first | apply Kd.V_alloc | apply Kd.V_drewN | apply Kd.V_drew)); exact Kd.V_mono (Kd.V_far (p := ⟨gb136, 2, none⟩) (Kd.V_far (p := ⟨gb136, 1, none⟩) (Kd.V_far (p := ⟨gb136, 0, none⟩) (Kd.V_mono HO116.out (fun k_ hk => (⟨hk, hk.2⟩ : _ ∧ k_ ≠ gb136))) (fun _ hk => hk.2) (.bool t128)) (fun _ hk => hk.2) (.slice Ao40 t129.length co40)) (fun _ hk => hk.2) (.slice Ao41 t132.length co41)) (fun _ hk => ⟨hk.1.1.1.1, ⟨hk.1.1.1.2, ⟨hk.1.1.2, hk.1.2⟩⟩⟩)⟩
        have n4_ : Aside0 (Kd.V (Kd.int .u32) 97 (((w35.setCell ⟨gb136, 0, none⟩ (.bool t128)).setCell ⟨gb136, 1, none⟩ (.slice Ao40 t129.length co40)).setCell ⟨gb136, 2, none⟩ (.slice Ao41 t132.length co41)) w.heap.size (fun k_ => k_ ≠ gb109 ∧ k_ ≠ gb118 ∧ k_ ≠ gb127 ∧ k_ ≠ gb136) (.slice Ao32 t120.length co32) t120) := ⟨by (with_reducible repeat (first | apply Kd.V_alloc | apply Kd.V_drewN | apply Kd.V_drew)); exact Kd.V_mono (Kd.V_far (p := ⟨gb136, 2, none⟩) (Kd.V_far (p := ⟨gb136, 1, none⟩) (Kd.V_far (p := ⟨gb136, 0, none⟩) (Kd.V_mono HO122.out (fun k_ hk => (⟨hk, hk.2⟩ : _ ∧ k_ ≠ gb136))) (fun _ hk => hk.2) (.bool t128)) (fun _ hk => hk.2) (.slice Ao40 t129.length co40)) (fun _ hk => hk.2) (.slice Ao41 t132.length co41)) (fun _ hk => ⟨hk.1.1.1.1, ⟨hk.1.1.1.2, ⟨hk.1.1.2, hk.1.2⟩⟩⟩)⟩
        have n5_ : Aside0 (Kd.V (Kd.int .u32) 97 (((w35.setCell ⟨gb136, 0, none⟩ (.bool t128)).setCell ⟨gb136, 1, none⟩ (.slice Ao40 t129.length co40)).setCell ⟨gb136, 2, none⟩ (.slice Ao41 t132.length co41)) w.heap.size (fun k_ => k_ ≠ gb109 ∧ k_ ≠ gb118 ∧ k_ ≠ gb127 ∧ k_ ≠ gb136) (.slice Ao33 t123.length co33) t123) := ⟨by (with_reducible repeat (first | apply Kd.V_alloc | apply Kd.V_drewN | apply Kd.V_drew)); exact Kd.V_mono (Kd.V_far (p := ⟨gb136, 2, none⟩) (Kd.V_far (p := ⟨gb136, 1, none⟩) (Kd.V_far (p := ⟨gb136, 0, none⟩) (Kd.V_mono HO125.out (fun k_ hk => (⟨hk, hk.2⟩ : _ ∧ k_ ≠ gb136))) (fun _ hk => hk.2) (.bool t128)) (fun _ hk => hk.2) (.slice Ao40 t129.length co40)) (fun _ hk => hk.2) (.slice Ao41 t132.length co41)) (fun _ hk => ⟨hk.1.1.1.1, ⟨hk.1.1.1.2, ⟨hk.1.1.2, hk.1.2⟩⟩⟩)⟩
        have n6_ : Aside0 (Kd.V (Kd.int .u32) 97 (((w35.setCell ⟨gb136, 0, none⟩ (.bool t128)).setCell ⟨gb136, 1, none⟩ (.slice Ao40 t129.length co40)).setCell ⟨gb136, 2, none⟩ (.slice Ao41 t132.length co41)) w.heap.size (fun k_ => k_ ≠ gb109 ∧ k_ ≠ gb118 ∧ k_ ≠ gb127 ∧ k_ ≠ gb136) (.slice Ao40 t129.length co40) t129) := ⟨by (with_reducible repeat (first | apply Kd.V_alloc | apply Kd.V_drewN | apply Kd.V_drew)); exact Kd.V_mono (Kd.V_far (p := ⟨gb136, 2, none⟩) (Kd.V_far (p := ⟨gb136, 1, none⟩) (Kd.V_far (p := ⟨gb136, 0, none⟩) (Kd.V_mono HO131.out (fun k_ hk => (⟨hk, hk.2⟩ : _ ∧ k_ ≠ gb136))) (fun _ hk => hk.2) (.bool t128)) (fun _ hk => hk.2) (.slice Ao40 t129.length co40)) (fun _ hk => hk.2) (.slice Ao41 t132.length co41)) (fun _ hk => ⟨hk.1.1.1, ⟨hk.1.1.2.1, ⟨hk.1.1.2.2, hk.1.2⟩⟩⟩)⟩
        have n7_ : Aside0 (Kd.V (Kd.int .u32) 97 (((w35.setCell ⟨gb136, 0, none⟩ (.bool t128)).setCell ⟨gb136, 1, none⟩ (.slice Ao40 t129.length co40)).setCell ⟨gb136, 2, none⟩ (.slice Ao41 t132.length co41)) w.heap.size (fun k_ => k_ ≠ gb109 ∧ k_ ≠ gb118 ∧ k_ ≠ gb127 ∧ k_ ≠ gb136) (.slice Ao41 t132.length co41) t132) := ⟨by (with_reducible repeat (first | apply Kd.V_alloc | apply Kd.V_drewN | apply Kd.V_drew)); exact Kd.V_mono (Kd.V_far (p := ⟨gb136, 2, none⟩) (Kd.V_far (p := ⟨gb136, 1, none⟩) (Kd.V_far (p := ⟨gb136, 0, none⟩) (Kd.V_mono HO134.out (fun k_ hk => (⟨hk, hk.2⟩ : _ ∧ k_ ≠ gb136))) (fun _ hk => hk.2) (.bool t128)) (fun _ hk => hk.2) (.slice Ao40 t129.length co40)) (fun _ hk => hk.2) (.slice Ao41 t132.length co41)) (fun _ hk => ⟨hk.1.1.1, ⟨hk.1.1.2.1, ⟨hk.1.1.2.2, hk.1.2⟩⟩⟩)⟩
        have n8_ : Aside0 ((((w35.setCell ⟨gb136, 0, none⟩ (.bool t128)).setCell ⟨gb136, 1, none⟩ (.slice Ao40 t129.length co40)).setCell ⟨gb136, 2, none⟩ (.slice Ao41 t132.length co41)).heap[gb109]? = some (.cells #[.bool t101, .slice Ao19 t102.length co19, .slice Ao20 t105.length co20] 60 (0, 0))) := ⟨by (with_reducible repeat (first | refine blk_drewN ?_ _ | refine blk_drew ?_ | refine blk_alloc ?_ _)); refine blk_far ?_ NB109_136.out _; (with_reducible repeat (first | refine blk_drewN ?_ _ | refine blk_drew ?_ | refine blk_alloc ?_ _)); refine blk_far ?_ NB109_136.out _; (with_reducible repeat (first | refine blk_drewN ?_ _ | refine blk_drew ?_ | refine blk_alloc ?_ _)); refine blk_far ?_ NB109_136.out _; (with_reducible repeat (first | refine blk_drewN ?_ _ | refine blk_drew ?_ | refine blk_alloc ?_ _)); exact BK109.out⟩
        have n9_ : Aside0 ((((w35.setCell ⟨gb136, 0, none⟩ (.bool t128)).setCell ⟨gb136, 1, none⟩ (.slice Ao40 t129.length co40)).setCell ⟨gb136, 2, none⟩ (.slice Ao41 t132.length co41)).heap[gb118]? = some (.cells #[.bool t110, .slice Ao25 t111.length co25, .slice Ao26 t114.length co26] 60 (0, 0))) := ⟨by (with_reducible repeat (first | refine blk_drewN ?_ _ | refine blk_drew ?_ | refine blk_alloc ?_ _)); refine blk_far ?_ NB118_136.out _; (with_reducible repeat (first | refine blk_drewN ?_ _ | refine blk_drew ?_ | refine blk_alloc ?_ _)); refine blk_far ?_ NB118_136.out _; (with_reducible repeat (first | refine blk_drewN ?_ _ | refine blk_drew ?_ | refine blk_alloc ?_ _)); refine blk_far ?_ NB118_136.out _; (with_reducible repeat (first | refine blk_drewN ?_ _ | refine blk_drew ?_ | refine blk_alloc ?_ _)); exact BK118.out⟩
        have n10_ : Aside0 ((((w35.setCell ⟨gb136, 0, none⟩ (.bool t128)).setCell ⟨gb136, 1, none⟩ (.slice Ao40 t129.length co40)).setCell ⟨gb136, 2, none⟩ (.slice Ao41 t132.length co41)).heap[gb127]? = some (.cells #[.bool t119, .slice Ao32 t120.length co32, .slice Ao33 t123.length co33] 60 (0, 0))) := ⟨by (with_reducible repeat (first | refine blk_drewN ?_ _ | refine blk_drew ?_ | refine blk_alloc ?_ _)); refine blk_far ?_ NB127_136.out _; (with_reducible repeat (first | refine blk_drewN ?_ _ | refine blk_drew ?_ | refine blk_alloc ?_ _)); refine blk_far ?_ NB127_136.out _; (with_reducible repeat (first | refine blk_drewN ?_ _ | refine blk_drew ?_ | refine blk_alloc ?_ _)); refine blk_far ?_ NB127_136.out _; (with_reducible repeat (first | refine blk_drewN ?_ _ | refine blk_drew ?_ | refine blk_alloc ?_ _)); exact BK127.out⟩
        have n11_ : Aside0 ((((w35.setCell ⟨gb136, 0, none⟩ (.bool t128)).setCell ⟨gb136, 1, none⟩ (.slice Ao40 t129.length co40)).setCell ⟨gb136, 2, none⟩ (.slice Ao41 t132.length co41)).heap[gb136]? = some (.cells #[.bool t128, .slice Ao40 t129.length co40, .slice Ao41 t132.length co41] 60 (0, 0))) := ⟨by (with_reducible repeat (first | refine blk_drewN ?_ _ | refine blk_drew ?_ | refine blk_alloc ?_ _)); refine blk_put (cs := #[.bool t128, .slice Ao40 t129.length co40, .slice none 0 0]) ?_ 2 _ rfl; (with_reducible repeat (first | refine blk_drewN ?_ _ | refine blk_drew ?_ | refine blk_alloc ?_ _)); refine blk_put (cs := #[.bool t128, .slice none 0 0, .slice none 0 0]) ?_ 1 _ rfl; (with_reducible repeat (first | refine blk_drewN ?_ _ | refine blk_drew ?_ | refine blk_alloc ?_ _)); refine blk_put (cs := #[.bool false, .slice none 0 0, .slice none 0 0]) ?_ 0 _ rfl; (with_reducible repeat (first | refine blk_drewN ?_ _ | refine blk_drew ?_ | refine blk_alloc ?_ _)); exact BK136.out⟩
        have n12_ : Aside0 (Below w.heap.size w (((w35.setCell ⟨gb136, 0, none⟩ (.bool t128)).setCell ⟨gb136, 1, none⟩ (.slice Ao40 t129.length co40)).setCell ⟨gb136, 2, none⟩ (.slice Ao41 t132.length co41))) := ⟨zB4 HB.out GE109.out GE118.out GE127.out GE136.out⟩
        (try clear HO104)
        (try clear HO107)
        (try clear HO113)
        (try clear HO116)
        (try clear HO122)
        (try clear HO125)
        (try clear HO131)
        (try clear HO134)
        (try clear BK109)
        (try clear BK118)
        (try clear BK127)
        (try clear BK136)
        (try clear HB)
        generalize (((w35.setCell ⟨gb136, 0, none⟩ (.bool t128)).setCell ⟨gb136, 1, none⟩ (.slice Ao40 t129.length co40)).setCell ⟨gb136, 2, none⟩ (.slice Ao41 t132.length co41)) = w54 at n0_ n1_ n2_ n3_ n4_ n5_ n6_ n7_ n8_ n9_ n10_ n11_ n12_ ⊢
        have HO104 := n0_
        have HO107 := n1_
        have HO113 := n2_
        have HO116 := n3_
        have HO122 := n4_
        have HO125 := n5_
        have HO131 := n6_
        have HO134 := n7_
        have BK109 := n8_
        have BK118 := n9_
        have BK127 := n10_
        have BK136 := n11_
        have HB := n12_
        clear n0_ n1_ n2_ n3_ n4_ n5_ n6_ n7_ n8_ n9_ n10_ n11_ n12_
        replace HO104 := Aside0.mk (Kd.V_drew HO104.out)
        replace HO107 := Aside0.mk (Kd.V_drew HO107.out)
        replace HO113 := Aside0.mk (Kd.V_drew HO113.out)
        replace HO116 := Aside0.mk (Kd.V_drew HO116.out)
        replace HO122 := Aside0.mk (Kd.V_drew HO122.out)
        replace HO125 := Aside0.mk (Kd.V_drew HO125.out)
        replace HO131 := Aside0.mk (Kd.V_drew HO131.out)
        replace HO134 := Aside0.mk (Kd.V_drew HO134.out)
        replace BK109 := Aside0.mk (blk_drew BK109.out)
        replace BK118 := Aside0.mk (blk_drew BK118.out)
        replace BK127 := Aside0.mk (blk_drew BK127.out)
        replace BK136 := Aside0.mk (blk_drew BK136.out)
        replace HB := Aside0.mk (below_drew1 HB.out)
        refine start_ (n := 20) (S := fun w' => True) (ds := []) #[false, false, false, false, false, false, false, false, false, false, false, false, false, false, false, false, false, false, false, false] (by kernel_rfl) rfl rfl trivial (fun hHeld => ?_); refine with_tabW codewrightlaw24_MacwilliamsRecurrence.tab7 codewrightlaw24_MacwilliamsRecurrence.bits7 (fun HT_ HW_ => ?_)
        generalize w54.drew = w55 at HO104 HO107 HO113 HO116 HO122 HO125 HO131 HO134 BK109 BK118 BK127 BK136 HB hHeld ⊢
        refine zp (i := 0) (N := some 86) HT_ ?_
        refine zp (i := 1) (N := some 87) HT_ ?_
        refine zp (i := 2) (N := some 88) HT_ ?_
        refine zp (i := 3) (N := some 89) HT_ ?_
        refine zp (i := 4) (N := some 90) HT_ ?_
        refine zp (i := 5) (N := some 91) HT_ ?_
        refine zp (i := 6) (N := some 92) HT_ ?_
        refine zp (i := 7) (N := some 93) HT_ ?_
        refine zp (i := 8) (N := some 94) HT_ ?_
        refine zp (i := 9) (N := some 95) HT_ ?_
        refine zp (i := 10) (N := some 96) HT_ ?_
        refine zp (i := 11) (N := some 97) HT_ ?_
        refine zp (i := 12) (N := some 98) HT_ ?_
        refine zp (i := 13) (N := some 99) HT_ ?_
        refine zp (i := 14) (N := some 100) HT_ ?_
        refine pure_ (i := 15) (N := some 101) (v := undef) (a' := ?_) #[true, true, true, true, true, true, true, true, true, true, true, true, true, true, true, true, false, false, false, false] rfl rfl (any_of HT_.out (by kernel_rfl)) (fun _ _ _ h => h) (Or.inr ⟨by rfl, rfl⟩) ?_ ?_
        rotate_left
        · simp only [Act.put, List.setIfInBounds_toArray, List.set_cons_zero, List.set_cons_succ, i64_w, i32_w]
          rfl
        refine pure_ (i := 16) (N := some 102) (v := undef) (a' := ?_) #[true, true, true, true, true, true, true, true, true, true, true, true, true, true, true, true, true, false, false, false] rfl rfl (any_of HT_.out (by kernel_rfl)) (fun _ _ _ h => h) (Or.inr ⟨by rfl, rfl⟩) ?_ ?_
        rotate_left
        · simp only [Act.put, List.setIfInBounds_toArray, List.set_cons_zero, List.set_cons_succ, i64_w, i32_w]
          rfl
        refine pure_ (i := 17) (N := some 103) (v := undef) (a' := ?_) #[true, true, true, true, true, true, true, true, true, true, true, true, true, true, true, true, true, true, false, false] rfl rfl (any_of HT_.out (by kernel_rfl)) (fun _ _ _ h => h) (Or.inr ⟨by rfl, rfl⟩) ?_ ?_
        rotate_left
        · simp only [Act.put, List.setIfInBounds_toArray, List.set_cons_zero, List.set_cons_succ, i64_w, i32_w]
          rfl
        refine pure_ (i := 18) (N := some 104) (v := undef) (a' := ?_) #[true, true, true, true, true, true, true, true, true, true, true, true, true, true, true, true, true, true, true, false] rfl rfl (any_of HT_.out (by kernel_rfl)) (fun _ _ _ h => h) (Or.inr ⟨by rfl, rfl⟩) ?_ ?_
        rotate_left
        · simp only [Act.put, List.setIfInBounds_toArray, List.set_cons_zero, List.set_cons_succ, i64_w, i32_w]
          rfl
        refine zp (i := 19) (N := some 105) HT_ ?_
        refine done_ (done_of HT_.out (by kernel_rfl)) ?_
        try go_wp2
        go_meet
        case rel => exact ⟨_, (true), zF, H', ⟨by have := HJ4.out; first | omega | exact Nat.le_refl _⟩, ⟨zV HO104.out⟩, ⟨zV HO107.out⟩, ⟨zV HO113.out⟩, ⟨zV HO116.out⟩, ⟨zV HO122.out⟩, ⟨zV HO125.out⟩, ⟨zV HO131.out⟩, ⟨zV HO134.out⟩, ⟨by (with_reducible repeat (first | refine blk_drewN ?_ _ | refine blk_drew ?_ | refine blk_alloc ?_ _)); exact BK109.out⟩, ⟨by (with_reducible repeat (first | refine blk_drewN ?_ _ | refine blk_drew ?_ | refine blk_alloc ?_ _)); exact BK118.out⟩, ⟨by (with_reducible repeat (first | refine blk_drewN ?_ _ | refine blk_drew ?_ | refine blk_alloc ?_ _)); exact BK127.out⟩, ⟨by (with_reducible repeat (first | refine blk_drewN ?_ _ | refine blk_drew ?_ | refine blk_alloc ?_ _)); exact BK136.out⟩, ⟨zB4 HB.out GE109.out GE118.out GE127.out GE136.out⟩⟩
      replace c44 := Bool.eq_false_iff.mpr c44
      subst c44
      rw [if_neg Bool.false_ne_true] at H
      have H' := Aside0.mk H
      clear H
      try go_wp2
      have n0_ : Aside0 (Kd.V (Kd.int .u32) 97 (((w35.setCell ⟨gb136, 0, none⟩ (.bool t128)).setCell ⟨gb136, 1, none⟩ (.slice Ao40 t129.length co40)).setCell ⟨gb136, 2, none⟩ (.slice Ao41 t132.length co41)) w.heap.size (fun k_ => k_ ≠ gb109 ∧ k_ ≠ gb118 ∧ k_ ≠ gb127 ∧ k_ ≠ gb136) (.slice Ao19 t102.length co19) t102) := ⟨by (with_reducible repeat (first | apply Kd.V_alloc | apply Kd.V_drewN | apply Kd.V_drew)); exact Kd.V_mono (Kd.V_far (p := ⟨gb136, 2, none⟩) (Kd.V_far (p := ⟨gb136, 1, none⟩) (Kd.V_far (p := ⟨gb136, 0, none⟩) (Kd.V_mono HO104.out (fun k_ hk => (⟨hk, hk.2⟩ : _ ∧ k_ ≠ gb136))) (fun _ hk => hk.2) (.bool t128)) (fun _ hk => hk.2) (.slice Ao40 t129.length co40)) (fun _ hk => hk.2) (.slice Ao41 t132.length co41)) (fun _ hk => ⟨hk.1.1.1.1.2, ⟨hk.1.1.1.2, ⟨hk.1.1.2, hk.1.2⟩⟩⟩)⟩
      have n1_ : Aside0 (Kd.V (Kd.int .u32) 97 (((w35.setCell ⟨gb136, 0, none⟩ (.bool t128)).setCell ⟨gb136, 1, none⟩ (.slice Ao40 t129.length co40)).setCell ⟨gb136, 2, none⟩ (.slice Ao41 t132.length co41)) w.heap.size (fun k_ => k_ ≠ gb109 ∧ k_ ≠ gb118 ∧ k_ ≠ gb127 ∧ k_ ≠ gb136) (.slice Ao20 t105.length co20) t105) := ⟨by (with_reducible repeat (first | apply Kd.V_alloc | apply Kd.V_drewN | apply Kd.V_drew)); exact Kd.V_mono (Kd.V_far (p := ⟨gb136, 2, none⟩) (Kd.V_far (p := ⟨gb136, 1, none⟩) (Kd.V_far (p := ⟨gb136, 0, none⟩) (Kd.V_mono HO107.out (fun k_ hk => (⟨hk, hk.2⟩ : _ ∧ k_ ≠ gb136))) (fun _ hk => hk.2) (.bool t128)) (fun _ hk => hk.2) (.slice Ao40 t129.length co40)) (fun _ hk => hk.2) (.slice Ao41 t132.length co41)) (fun _ hk => ⟨hk.1.1.1.1.2, ⟨hk.1.1.1.2, ⟨hk.1.1.2, hk.1.2⟩⟩⟩)⟩
      have n2_ : Aside0 (Kd.V (Kd.int .u32) 97 (((w35.setCell ⟨gb136, 0, none⟩ (.bool t128)).setCell ⟨gb136, 1, none⟩ (.slice Ao40 t129.length co40)).setCell ⟨gb136, 2, none⟩ (.slice Ao41 t132.length co41)) w.heap.size (fun k_ => k_ ≠ gb109 ∧ k_ ≠ gb118 ∧ k_ ≠ gb127 ∧ k_ ≠ gb136) (.slice Ao25 t111.length co25) t111) := ⟨by (with_reducible repeat (first | apply Kd.V_alloc | apply Kd.V_drewN | apply Kd.V_drew)); exact Kd.V_mono (Kd.V_far (p := ⟨gb136, 2, none⟩) (Kd.V_far (p := ⟨gb136, 1, none⟩) (Kd.V_far (p := ⟨gb136, 0, none⟩) (Kd.V_mono HO113.out (fun k_ hk => (⟨hk, hk.2⟩ : _ ∧ k_ ≠ gb136))) (fun _ hk => hk.2) (.bool t128)) (fun _ hk => hk.2) (.slice Ao40 t129.length co40)) (fun _ hk => hk.2) (.slice Ao41 t132.length co41)) (fun _ hk => ⟨hk.1.1.1.1, ⟨hk.1.1.1.2, ⟨hk.1.1.2, hk.1.2⟩⟩⟩)⟩
      have n3_ : Aside0 (Kd.V (Kd.int .u32) 97 (((w35.setCell ⟨gb136, 0, none⟩ (.bool t128)).setCell ⟨gb136, 1, none⟩ (.slice Ao40 t129.length co40)).setCell ⟨gb136, 2, none⟩ (.slice Ao41 t132.length co41)) w.heap.size (fun k_ => k_ ≠ gb109 ∧ k_ ≠ gb118 ∧ k_ ≠ gb127 ∧ k_ ≠ gb136) (.slice Ao26 t114.length co26) t114) := ⟨by (with_reducible repeat (first | apply Kd.V_alloc | apply Kd.V_drewN | apply Kd.V_drew)); exact Kd.V_mono (Kd.V_far (p := ⟨gb136, 2, none⟩) (Kd.V_far (p := ⟨gb136, 1, none⟩) (Kd.V_far (p := ⟨gb136, 0, none⟩) (Kd.V_mono HO116.out (fun k_ hk => (⟨hk, hk.2⟩ : _ ∧ k_ ≠ gb136))) (fun _ hk => hk.2) (.bool t128)) (fun _ hk => hk.2) (.slice Ao40 t129.length co40)) (fun _ hk => hk.2) (.slice Ao41 t132.length co41)) (fun _ hk => ⟨hk.1.1.1.1, ⟨hk.1.1.1.2, ⟨hk.1.1.2, hk.1.2⟩⟩⟩)⟩
      have n4_ : Aside0 (Kd.V (Kd.int .u32) 97 (((w35.setCell ⟨gb136, 0, none⟩ (.bool t128)).setCell ⟨gb136, 1, none⟩ (.slice Ao40 t129.length co40)).setCell ⟨gb136, 2, none⟩ (.slice Ao41 t132.length co41)) w.heap.size (fun k_ => k_ ≠ gb109 ∧ k_ ≠ gb118 ∧ k_ ≠ gb127 ∧ k_ ≠ gb136) (.slice Ao32 t120.length co32) t120) := ⟨by (with_reducible repeat (first | apply Kd.V_alloc | apply Kd.V_drewN | apply Kd.V_drew)); exact Kd.V_mono (Kd.V_far (p := ⟨gb136, 2, none⟩) (Kd.V_far (p := ⟨gb136, 1, none⟩) (Kd.V_far (p := ⟨gb136, 0, none⟩) (Kd.V_mono HO122.out (fun k_ hk => (⟨hk, hk.2⟩ : _ ∧ k_ ≠ gb136))) (fun _ hk => hk.2) (.bool t128)) (fun _ hk => hk.2) (.slice Ao40 t129.length co40)) (fun _ hk => hk.2) (.slice Ao41 t132.length co41)) (fun _ hk => ⟨hk.1.1.1.1, ⟨hk.1.1.1.2, ⟨hk.1.1.2, hk.1.2⟩⟩⟩)⟩
      have n5_ : Aside0 (Kd.V (Kd.int .u32) 97 (((w35.setCell ⟨gb136, 0, none⟩ (.bool t128)).setCell ⟨gb136, 1, none⟩ (.slice Ao40 t129.length co40)).setCell ⟨gb136, 2, none⟩ (.slice Ao41 t132.length co41)) w.heap.size (fun k_ => k_ ≠ gb109 ∧ k_ ≠ gb118 ∧ k_ ≠ gb127 ∧ k_ ≠ gb136) (.slice Ao33 t123.length co33) t123) := ⟨by (with_reducible repeat (first | apply Kd.V_alloc | apply Kd.V_drewN | apply Kd.V_drew)); exact Kd.V_mono (Kd.V_far (p := ⟨gb136, 2, none⟩) (Kd.V_far (p := ⟨gb136, 1, none⟩) (Kd.V_far (p := ⟨gb136, 0, none⟩) (Kd.V_mono HO125.out (fun k_ hk => (⟨hk, hk.2⟩ : _ ∧ k_ ≠ gb136))) (fun _ hk => hk.2) (.bool t128)) (fun _ hk => hk.2) (.slice Ao40 t129.length co40)) (fun _ hk => hk.2) (.slice Ao41 t132.length co41)) (fun _ hk => ⟨hk.1.1.1.1, ⟨hk.1.1.1.2, ⟨hk.1.1.2, hk.1.2⟩⟩⟩)⟩
      have n6_ : Aside0 (Kd.V (Kd.int .u32) 97 (((w35.setCell ⟨gb136, 0, none⟩ (.bool t128)).setCell ⟨gb136, 1, none⟩ (.slice Ao40 t129.length co40)).setCell ⟨gb136, 2, none⟩ (.slice Ao41 t132.length co41)) w.heap.size (fun k_ => k_ ≠ gb109 ∧ k_ ≠ gb118 ∧ k_ ≠ gb127 ∧ k_ ≠ gb136) (.slice Ao40 t129.length co40) t129) := ⟨by (with_reducible repeat (first | apply Kd.V_alloc | apply Kd.V_drewN | apply Kd.V_drew)); exact Kd.V_mono (Kd.V_far (p := ⟨gb136, 2, none⟩) (Kd.V_far (p := ⟨gb136, 1, none⟩) (Kd.V_far (p := ⟨gb136, 0, none⟩) (Kd.V_mono HO131.out (fun k_ hk => (⟨hk, hk.2⟩ : _ ∧ k_ ≠ gb136))) (fun _ hk => hk.2) (.bool t128)) (fun _ hk => hk.2) (.slice Ao40 t129.length co40)) (fun _ hk => hk.2) (.slice Ao41 t132.length co41)) (fun _ hk => ⟨hk.1.1.1, ⟨hk.1.1.2.1, ⟨hk.1.1.2.2, hk.1.2⟩⟩⟩)⟩
      have n7_ : Aside0 (Kd.V (Kd.int .u32) 97 (((w35.setCell ⟨gb136, 0, none⟩ (.bool t128)).setCell ⟨gb136, 1, none⟩ (.slice Ao40 t129.length co40)).setCell ⟨gb136, 2, none⟩ (.slice Ao41 t132.length co41)) w.heap.size (fun k_ => k_ ≠ gb109 ∧ k_ ≠ gb118 ∧ k_ ≠ gb127 ∧ k_ ≠ gb136) (.slice Ao41 t132.length co41) t132) := ⟨by (with_reducible repeat (first | apply Kd.V_alloc | apply Kd.V_drewN | apply Kd.V_drew)); exact Kd.V_mono (Kd.V_far (p := ⟨gb136, 2, none⟩) (Kd.V_far (p := ⟨gb136, 1, none⟩) (Kd.V_far (p := ⟨gb136, 0, none⟩) (Kd.V_mono HO134.out (fun k_ hk => (⟨hk, hk.2⟩ : _ ∧ k_ ≠ gb136))) (fun _ hk => hk.2) (.bool t128)) (fun _ hk => hk.2) (.slice Ao40 t129.length co40)) (fun _ hk => hk.2) (.slice Ao41 t132.length co41)) (fun _ hk => ⟨hk.1.1.1, ⟨hk.1.1.2.1, ⟨hk.1.1.2.2, hk.1.2⟩⟩⟩)⟩
      have n8_ : Aside0 ((((w35.setCell ⟨gb136, 0, none⟩ (.bool t128)).setCell ⟨gb136, 1, none⟩ (.slice Ao40 t129.length co40)).setCell ⟨gb136, 2, none⟩ (.slice Ao41 t132.length co41)).heap[gb109]? = some (.cells #[.bool t101, .slice Ao19 t102.length co19, .slice Ao20 t105.length co20] 60 (0, 0))) := ⟨by (with_reducible repeat (first | refine blk_drewN ?_ _ | refine blk_drew ?_ | refine blk_alloc ?_ _)); refine blk_far ?_ NB109_136.out _; (with_reducible repeat (first | refine blk_drewN ?_ _ | refine blk_drew ?_ | refine blk_alloc ?_ _)); refine blk_far ?_ NB109_136.out _; (with_reducible repeat (first | refine blk_drewN ?_ _ | refine blk_drew ?_ | refine blk_alloc ?_ _)); refine blk_far ?_ NB109_136.out _; (with_reducible repeat (first | refine blk_drewN ?_ _ | refine blk_drew ?_ | refine blk_alloc ?_ _)); exact BK109.out⟩
      have n9_ : Aside0 ((((w35.setCell ⟨gb136, 0, none⟩ (.bool t128)).setCell ⟨gb136, 1, none⟩ (.slice Ao40 t129.length co40)).setCell ⟨gb136, 2, none⟩ (.slice Ao41 t132.length co41)).heap[gb118]? = some (.cells #[.bool t110, .slice Ao25 t111.length co25, .slice Ao26 t114.length co26] 60 (0, 0))) := ⟨by (with_reducible repeat (first | refine blk_drewN ?_ _ | refine blk_drew ?_ | refine blk_alloc ?_ _)); refine blk_far ?_ NB118_136.out _; (with_reducible repeat (first | refine blk_drewN ?_ _ | refine blk_drew ?_ | refine blk_alloc ?_ _)); refine blk_far ?_ NB118_136.out _; (with_reducible repeat (first | refine blk_drewN ?_ _ | refine blk_drew ?_ | refine blk_alloc ?_ _)); refine blk_far ?_ NB118_136.out _; (with_reducible repeat (first | refine blk_drewN ?_ _ | refine blk_drew ?_ | refine blk_alloc ?_ _)); exact BK118.out⟩
      have n10_ : Aside0 ((((w35.setCell ⟨gb136, 0, none⟩ (.bool t128)).setCell ⟨gb136, 1, none⟩ (.slice Ao40 t129.length co40)).setCell ⟨gb136, 2, none⟩ (.slice Ao41 t132.length co41)).heap[gb127]? = some (.cells #[.bool t119, .slice Ao32 t120.length co32, .slice Ao33 t123.length co33] 60 (0, 0))) := ⟨by (with_reducible repeat (first | refine blk_drewN ?_ _ | refine blk_drew ?_ | refine blk_alloc ?_ _)); refine blk_far ?_ NB127_136.out _; (with_reducible repeat (first | refine blk_drewN ?_ _ | refine blk_drew ?_ | refine blk_alloc ?_ _)); refine blk_far ?_ NB127_136.out _; (with_reducible repeat (first | refine blk_drewN ?_ _ | refine blk_drew ?_ | refine blk_alloc ?_ _)); refine blk_far ?_ NB127_136.out _; (with_reducible repeat (first | refine blk_drewN ?_ _ | refine blk_drew ?_ | refine blk_alloc ?_ _)); exact BK127.out⟩
      have n11_ : Aside0 ((((w35.setCell ⟨gb136, 0, none⟩ (.bool t128)).setCell ⟨gb136, 1, none⟩ (.slice Ao40 t129.length co40)).setCell ⟨gb136, 2, none⟩ (.slice Ao41 t132.length co41)).heap[gb136]? = some (.cells #[.bool t128, .slice Ao40 t129.length co40, .slice Ao41 t132.length co41] 60 (0, 0))) := ⟨by (with_reducible repeat (first | refine blk_drewN ?_ _ | refine blk_drew ?_ | refine blk_alloc ?_ _)); refine blk_put (cs := #[.bool t128, .slice Ao40 t129.length co40, .slice none 0 0]) ?_ 2 _ rfl; (with_reducible repeat (first | refine blk_drewN ?_ _ | refine blk_drew ?_ | refine blk_alloc ?_ _)); refine blk_put (cs := #[.bool t128, .slice none 0 0, .slice none 0 0]) ?_ 1 _ rfl; (with_reducible repeat (first | refine blk_drewN ?_ _ | refine blk_drew ?_ | refine blk_alloc ?_ _)); refine blk_put (cs := #[.bool false, .slice none 0 0, .slice none 0 0]) ?_ 0 _ rfl; (with_reducible repeat (first | refine blk_drewN ?_ _ | refine blk_drew ?_ | refine blk_alloc ?_ _)); exact BK136.out⟩
      have n12_ : Aside0 (Below w.heap.size w (((w35.setCell ⟨gb136, 0, none⟩ (.bool t128)).setCell ⟨gb136, 1, none⟩ (.slice Ao40 t129.length co40)).setCell ⟨gb136, 2, none⟩ (.slice Ao41 t132.length co41))) := ⟨zB4 HB.out GE109.out GE118.out GE127.out GE136.out⟩
      (try clear HO104)
      (try clear HO107)
      (try clear HO113)
      (try clear HO116)
      (try clear HO122)
      (try clear HO125)
      (try clear HO131)
      (try clear HO134)
      (try clear BK109)
      (try clear BK118)
      (try clear BK127)
      (try clear BK136)
      (try clear HB)
      generalize (((w35.setCell ⟨gb136, 0, none⟩ (.bool t128)).setCell ⟨gb136, 1, none⟩ (.slice Ao40 t129.length co40)).setCell ⟨gb136, 2, none⟩ (.slice Ao41 t132.length co41)) = w56 at n0_ n1_ n2_ n3_ n4_ n5_ n6_ n7_ n8_ n9_ n10_ n11_ n12_ ⊢
      have HO104 := n0_
      have HO107 := n1_
      have HO113 := n2_
      have HO116 := n3_
      have HO122 := n4_
      have HO125 := n5_
      have HO131 := n6_
      have HO134 := n7_
      have BK109 := n8_
      have BK118 := n9_
      have BK127 := n10_
      have BK136 := n11_
      have HB := n12_
      clear n0_ n1_ n2_ n3_ n4_ n5_ n6_ n7_ n8_ n9_ n10_ n11_ n12_
      replace HO104 := Aside0.mk (Kd.V_drew HO104.out)
      replace HO107 := Aside0.mk (Kd.V_drew HO107.out)
      replace HO113 := Aside0.mk (Kd.V_drew HO113.out)
      replace HO116 := Aside0.mk (Kd.V_drew HO116.out)
      replace HO122 := Aside0.mk (Kd.V_drew HO122.out)
      replace HO125 := Aside0.mk (Kd.V_drew HO125.out)
      replace HO131 := Aside0.mk (Kd.V_drew HO131.out)
      replace HO134 := Aside0.mk (Kd.V_drew HO134.out)
      replace BK109 := Aside0.mk (blk_drew BK109.out)
      replace BK118 := Aside0.mk (blk_drew BK118.out)
      replace BK127 := Aside0.mk (blk_drew BK127.out)
      replace BK136 := Aside0.mk (blk_drew BK136.out)
      replace HB := Aside0.mk (below_drew1 HB.out)
      refine start_ (n := 20) (S := fun w' => True) (ds := []) #[false, false, false, false, false, false, false, false, false, false, false, false, false, false, false, false, false, false, false, false] (by kernel_rfl) rfl rfl trivial (fun hHeld => ?_); refine with_tabW codewrightlaw24_MacwilliamsRecurrence.tab7 codewrightlaw24_MacwilliamsRecurrence.bits7 (fun HT_ HW_ => ?_)
      generalize w56.drew = w57 at HO104 HO107 HO113 HO116 HO122 HO125 HO131 HO134 BK109 BK118 BK127 BK136 HB hHeld ⊢
      refine zp (i := 0) (N := some 86) HT_ ?_
      refine zp (i := 1) (N := some 87) HT_ ?_
      refine zp (i := 2) (N := some 88) HT_ ?_
      refine zp (i := 3) (N := some 89) HT_ ?_
      refine zp (i := 4) (N := some 90) HT_ ?_
      refine zp (i := 5) (N := some 91) HT_ ?_
      refine zp (i := 6) (N := some 92) HT_ ?_
      refine zp (i := 7) (N := some 93) HT_ ?_
      refine zp (i := 8) (N := some 94) HT_ ?_
      refine zp (i := 9) (N := some 95) HT_ ?_
      refine zp (i := 10) (N := some 96) HT_ ?_
      refine pure_ (i := 11) (N := some 97) (v := undef) (a' := ?_) #[true, true, true, true, true, true, true, true, true, true, true, true, false, false, false, false, false, false, false, false] rfl rfl (any_of HT_.out (by kernel_rfl)) (fun _ _ _ h => h) (Or.inr ⟨by rfl, rfl⟩) ?_ ?_
      rotate_left
      · simp only [Act.put, List.setIfInBounds_toArray, List.set_cons_zero, List.set_cons_succ, i64_w, i32_w]
        rfl
      refine pure_ (i := 12) (N := some 98) (v := undef) (a' := ?_) #[true, true, true, true, true, true, true, true, true, true, true, true, true, false, false, false, false, false, false, false] rfl rfl (any_of HT_.out (by kernel_rfl)) (fun _ _ _ h => h) (Or.inr ⟨by rfl, rfl⟩) ?_ ?_
      rotate_left
      · simp only [Act.put, List.setIfInBounds_toArray, List.set_cons_zero, List.set_cons_succ, i64_w, i32_w]
        rfl
      refine zp (i := 13) (N := some 99) HT_ ?_
      refine zp (i := 14) (N := some 100) HT_ ?_
      refine pure_ (i := 15) (N := some 101) (v := undef) (a' := ?_) #[true, true, true, true, true, true, true, true, true, true, true, true, true, true, true, true, false, false, false, false] rfl rfl (any_of HT_.out (by kernel_rfl)) (fun _ _ _ h => h) (Or.inr ⟨by rfl, rfl⟩) ?_ ?_
      rotate_left
      · simp only [Act.put, List.setIfInBounds_toArray, List.set_cons_zero, List.set_cons_succ, i64_w, i32_w]
        rfl
      refine pure_ (i := 16) (N := some 102) (v := undef) (a' := ?_) #[true, true, true, true, true, true, true, true, true, true, true, true, true, true, true, true, true, false, false, false] rfl rfl (any_of HT_.out (by kernel_rfl)) (fun _ _ _ h => h) (Or.inr ⟨by rfl, rfl⟩) ?_ ?_
      rotate_left
      · simp only [Act.put, List.setIfInBounds_toArray, List.set_cons_zero, List.set_cons_succ, i64_w, i32_w]
        rfl
      refine pure_ (i := 17) (N := some 103) (v := undef) (a' := ?_) #[true, true, true, true, true, true, true, true, true, true, true, true, true, true, true, true, true, true, false, false] rfl rfl (any_of HT_.out (by kernel_rfl)) (fun _ _ _ h => h) (Or.inr ⟨by rfl, rfl⟩) ?_ ?_
      rotate_left
      · simp only [Act.put, List.setIfInBounds_toArray, List.set_cons_zero, List.set_cons_succ, i64_w, i32_w]
        rfl
      refine pure_ (i := 18) (N := some 104) (v := undef) (a' := ?_) #[true, true, true, true, true, true, true, true, true, true, true, true, true, true, true, true, true, true, true, false] rfl rfl (any_of HT_.out (by kernel_rfl)) (fun _ _ _ h => h) (Or.inr ⟨by rfl, rfl⟩) ?_ ?_
      rotate_left
      · simp only [Act.put, List.setIfInBounds_toArray, List.set_cons_zero, List.set_cons_succ, i64_w, i32_w]
        rfl
      refine zp (i := 19) (N := some 105) HT_ ?_
      refine done_ (done_of HT_.out (by kernel_rfl)) ?_
      try go_wp2
      go_meet
      case rel => exact ⟨_, (true), zF, H', ⟨by have := HJ4.out; first | omega | exact Nat.le_refl _⟩, ⟨zV HO104.out⟩, ⟨zV HO107.out⟩, ⟨zV HO113.out⟩, ⟨zV HO116.out⟩, ⟨zV HO122.out⟩, ⟨zV HO125.out⟩, ⟨zV HO131.out⟩, ⟨zV HO134.out⟩, ⟨by (with_reducible repeat (first | refine blk_drewN ?_ _ | refine blk_drew ?_ | refine blk_alloc ?_ _)); exact BK109.out⟩, ⟨by (with_reducible repeat (first | refine blk_drewN ?_ _ | refine blk_drew ?_ | refine blk_alloc ?_ _)); exact BK118.out⟩, ⟨by (with_reducible repeat (first | refine blk_drewN ?_ _ | refine blk_drew ?_ | refine blk_alloc ?_ _)); exact BK127.out⟩, ⟨by (with_reducible repeat (first | refine blk_drewN ?_ _ | refine blk_drew ?_ | refine blk_alloc ?_ _)); exact BK136.out⟩, ⟨zB4 HB.out GE109.out GE118.out GE127.out GE136.out⟩⟩
    replace c43 := Bool.eq_false_iff.mpr c43
    subst c43
    rw [if_neg Bool.false_ne_true] at H
    have H' := Aside0.mk H
    clear H
    try go_wp2
    have n0_ : Aside0 (Kd.V (Kd.int .u32) 97 (((w35.setCell ⟨gb136, 0, none⟩ (.bool t128)).setCell ⟨gb136, 1, none⟩ (.slice Ao40 t129.length co40)).setCell ⟨gb136, 2, none⟩ (.slice Ao41 t132.length co41)) w.heap.size (fun k_ => k_ ≠ gb109 ∧ k_ ≠ gb118 ∧ k_ ≠ gb127 ∧ k_ ≠ gb136) (.slice Ao19 t102.length co19) t102) := ⟨by (with_reducible repeat (first | apply Kd.V_alloc | apply Kd.V_drewN | apply Kd.V_drew)); exact Kd.V_mono (Kd.V_far (p := ⟨gb136, 2, none⟩) (Kd.V_far (p := ⟨gb136, 1, none⟩) (Kd.V_far (p := ⟨gb136, 0, none⟩) (Kd.V_mono HO104.out (fun k_ hk => (⟨hk, hk.2⟩ : _ ∧ k_ ≠ gb136))) (fun _ hk => hk.2) (.bool t128)) (fun _ hk => hk.2) (.slice Ao40 t129.length co40)) (fun _ hk => hk.2) (.slice Ao41 t132.length co41)) (fun _ hk => ⟨hk.1.1.1.1.2, ⟨hk.1.1.1.2, ⟨hk.1.1.2, hk.1.2⟩⟩⟩)⟩
    have n1_ : Aside0 (Kd.V (Kd.int .u32) 97 (((w35.setCell ⟨gb136, 0, none⟩ (.bool t128)).setCell ⟨gb136, 1, none⟩ (.slice Ao40 t129.length co40)).setCell ⟨gb136, 2, none⟩ (.slice Ao41 t132.length co41)) w.heap.size (fun k_ => k_ ≠ gb109 ∧ k_ ≠ gb118 ∧ k_ ≠ gb127 ∧ k_ ≠ gb136) (.slice Ao20 t105.length co20) t105) := ⟨by (with_reducible repeat (first | apply Kd.V_alloc | apply Kd.V_drewN | apply Kd.V_drew)); exact Kd.V_mono (Kd.V_far (p := ⟨gb136, 2, none⟩) (Kd.V_far (p := ⟨gb136, 1, none⟩) (Kd.V_far (p := ⟨gb136, 0, none⟩) (Kd.V_mono HO107.out (fun k_ hk => (⟨hk, hk.2⟩ : _ ∧ k_ ≠ gb136))) (fun _ hk => hk.2) (.bool t128)) (fun _ hk => hk.2) (.slice Ao40 t129.length co40)) (fun _ hk => hk.2) (.slice Ao41 t132.length co41)) (fun _ hk => ⟨hk.1.1.1.1.2, ⟨hk.1.1.1.2, ⟨hk.1.1.2, hk.1.2⟩⟩⟩)⟩
    have n2_ : Aside0 (Kd.V (Kd.int .u32) 97 (((w35.setCell ⟨gb136, 0, none⟩ (.bool t128)).setCell ⟨gb136, 1, none⟩ (.slice Ao40 t129.length co40)).setCell ⟨gb136, 2, none⟩ (.slice Ao41 t132.length co41)) w.heap.size (fun k_ => k_ ≠ gb109 ∧ k_ ≠ gb118 ∧ k_ ≠ gb127 ∧ k_ ≠ gb136) (.slice Ao25 t111.length co25) t111) := ⟨by (with_reducible repeat (first | apply Kd.V_alloc | apply Kd.V_drewN | apply Kd.V_drew)); exact Kd.V_mono (Kd.V_far (p := ⟨gb136, 2, none⟩) (Kd.V_far (p := ⟨gb136, 1, none⟩) (Kd.V_far (p := ⟨gb136, 0, none⟩) (Kd.V_mono HO113.out (fun k_ hk => (⟨hk, hk.2⟩ : _ ∧ k_ ≠ gb136))) (fun _ hk => hk.2) (.bool t128)) (fun _ hk => hk.2) (.slice Ao40 t129.length co40)) (fun _ hk => hk.2) (.slice Ao41 t132.length co41)) (fun _ hk => ⟨hk.1.1.1.1, ⟨hk.1.1.1.2, ⟨hk.1.1.2, hk.1.2⟩⟩⟩)⟩
    have n3_ : Aside0 (Kd.V (Kd.int .u32) 97 (((w35.setCell ⟨gb136, 0, none⟩ (.bool t128)).setCell ⟨gb136, 1, none⟩ (.slice Ao40 t129.length co40)).setCell ⟨gb136, 2, none⟩ (.slice Ao41 t132.length co41)) w.heap.size (fun k_ => k_ ≠ gb109 ∧ k_ ≠ gb118 ∧ k_ ≠ gb127 ∧ k_ ≠ gb136) (.slice Ao26 t114.length co26) t114) := ⟨by (with_reducible repeat (first | apply Kd.V_alloc | apply Kd.V_drewN | apply Kd.V_drew)); exact Kd.V_mono (Kd.V_far (p := ⟨gb136, 2, none⟩) (Kd.V_far (p := ⟨gb136, 1, none⟩) (Kd.V_far (p := ⟨gb136, 0, none⟩) (Kd.V_mono HO116.out (fun k_ hk => (⟨hk, hk.2⟩ : _ ∧ k_ ≠ gb136))) (fun _ hk => hk.2) (.bool t128)) (fun _ hk => hk.2) (.slice Ao40 t129.length co40)) (fun _ hk => hk.2) (.slice Ao41 t132.length co41)) (fun _ hk => ⟨hk.1.1.1.1, ⟨hk.1.1.1.2, ⟨hk.1.1.2, hk.1.2⟩⟩⟩)⟩
    have n4_ : Aside0 (Kd.V (Kd.int .u32) 97 (((w35.setCell ⟨gb136, 0, none⟩ (.bool t128)).setCell ⟨gb136, 1, none⟩ (.slice Ao40 t129.length co40)).setCell ⟨gb136, 2, none⟩ (.slice Ao41 t132.length co41)) w.heap.size (fun k_ => k_ ≠ gb109 ∧ k_ ≠ gb118 ∧ k_ ≠ gb127 ∧ k_ ≠ gb136) (.slice Ao32 t120.length co32) t120) := ⟨by (with_reducible repeat (first | apply Kd.V_alloc | apply Kd.V_drewN | apply Kd.V_drew)); exact Kd.V_mono (Kd.V_far (p := ⟨gb136, 2, none⟩) (Kd.V_far (p := ⟨gb136, 1, none⟩) (Kd.V_far (p := ⟨gb136, 0, none⟩) (Kd.V_mono HO122.out (fun k_ hk => (⟨hk, hk.2⟩ : _ ∧ k_ ≠ gb136))) (fun _ hk => hk.2) (.bool t128)) (fun _ hk => hk.2) (.slice Ao40 t129.length co40)) (fun _ hk => hk.2) (.slice Ao41 t132.length co41)) (fun _ hk => ⟨hk.1.1.1.1, ⟨hk.1.1.1.2, ⟨hk.1.1.2, hk.1.2⟩⟩⟩)⟩
    have n5_ : Aside0 (Kd.V (Kd.int .u32) 97 (((w35.setCell ⟨gb136, 0, none⟩ (.bool t128)).setCell ⟨gb136, 1, none⟩ (.slice Ao40 t129.length co40)).setCell ⟨gb136, 2, none⟩ (.slice Ao41 t132.length co41)) w.heap.size (fun k_ => k_ ≠ gb109 ∧ k_ ≠ gb118 ∧ k_ ≠ gb127 ∧ k_ ≠ gb136) (.slice Ao33 t123.length co33) t123) := ⟨by (with_reducible repeat (first | apply Kd.V_alloc | apply Kd.V_drewN | apply Kd.V_drew)); exact Kd.V_mono (Kd.V_far (p := ⟨gb136, 2, none⟩) (Kd.V_far (p := ⟨gb136, 1, none⟩) (Kd.V_far (p := ⟨gb136, 0, none⟩) (Kd.V_mono HO125.out (fun k_ hk => (⟨hk, hk.2⟩ : _ ∧ k_ ≠ gb136))) (fun _ hk => hk.2) (.bool t128)) (fun _ hk => hk.2) (.slice Ao40 t129.length co40)) (fun _ hk => hk.2) (.slice Ao41 t132.length co41)) (fun _ hk => ⟨hk.1.1.1.1, ⟨hk.1.1.1.2, ⟨hk.1.1.2, hk.1.2⟩⟩⟩)⟩
    have n6_ : Aside0 (Kd.V (Kd.int .u32) 97 (((w35.setCell ⟨gb136, 0, none⟩ (.bool t128)).setCell ⟨gb136, 1, none⟩ (.slice Ao40 t129.length co40)).setCell ⟨gb136, 2, none⟩ (.slice Ao41 t132.length co41)) w.heap.size (fun k_ => k_ ≠ gb109 ∧ k_ ≠ gb118 ∧ k_ ≠ gb127 ∧ k_ ≠ gb136) (.slice Ao40 t129.length co40) t129) := ⟨by (with_reducible repeat (first | apply Kd.V_alloc | apply Kd.V_drewN | apply Kd.V_drew)); exact Kd.V_mono (Kd.V_far (p := ⟨gb136, 2, none⟩) (Kd.V_far (p := ⟨gb136, 1, none⟩) (Kd.V_far (p := ⟨gb136, 0, none⟩) (Kd.V_mono HO131.out (fun k_ hk => (⟨hk, hk.2⟩ : _ ∧ k_ ≠ gb136))) (fun _ hk => hk.2) (.bool t128)) (fun _ hk => hk.2) (.slice Ao40 t129.length co40)) (fun _ hk => hk.2) (.slice Ao41 t132.length co41)) (fun _ hk => ⟨hk.1.1.1, ⟨hk.1.1.2.1, ⟨hk.1.1.2.2, hk.1.2⟩⟩⟩)⟩
    have n7_ : Aside0 (Kd.V (Kd.int .u32) 97 (((w35.setCell ⟨gb136, 0, none⟩ (.bool t128)).setCell ⟨gb136, 1, none⟩ (.slice Ao40 t129.length co40)).setCell ⟨gb136, 2, none⟩ (.slice Ao41 t132.length co41)) w.heap.size (fun k_ => k_ ≠ gb109 ∧ k_ ≠ gb118 ∧ k_ ≠ gb127 ∧ k_ ≠ gb136) (.slice Ao41 t132.length co41) t132) := ⟨by (with_reducible repeat (first | apply Kd.V_alloc | apply Kd.V_drewN | apply Kd.V_drew)); exact Kd.V_mono (Kd.V_far (p := ⟨gb136, 2, none⟩) (Kd.V_far (p := ⟨gb136, 1, none⟩) (Kd.V_far (p := ⟨gb136, 0, none⟩) (Kd.V_mono HO134.out (fun k_ hk => (⟨hk, hk.2⟩ : _ ∧ k_ ≠ gb136))) (fun _ hk => hk.2) (.bool t128)) (fun _ hk => hk.2) (.slice Ao40 t129.length co40)) (fun _ hk => hk.2) (.slice Ao41 t132.length co41)) (fun _ hk => ⟨hk.1.1.1, ⟨hk.1.1.2.1, ⟨hk.1.1.2.2, hk.1.2⟩⟩⟩)⟩
    have n8_ : Aside0 ((((w35.setCell ⟨gb136, 0, none⟩ (.bool t128)).setCell ⟨gb136, 1, none⟩ (.slice Ao40 t129.length co40)).setCell ⟨gb136, 2, none⟩ (.slice Ao41 t132.length co41)).heap[gb109]? = some (.cells #[.bool t101, .slice Ao19 t102.length co19, .slice Ao20 t105.length co20] 60 (0, 0))) := ⟨by (with_reducible repeat (first | refine blk_drewN ?_ _ | refine blk_drew ?_ | refine blk_alloc ?_ _)); refine blk_far ?_ NB109_136.out _; (with_reducible repeat (first | refine blk_drewN ?_ _ | refine blk_drew ?_ | refine blk_alloc ?_ _)); refine blk_far ?_ NB109_136.out _; (with_reducible repeat (first | refine blk_drewN ?_ _ | refine blk_drew ?_ | refine blk_alloc ?_ _)); refine blk_far ?_ NB109_136.out _; (with_reducible repeat (first | refine blk_drewN ?_ _ | refine blk_drew ?_ | refine blk_alloc ?_ _)); exact BK109.out⟩
    have n9_ : Aside0 ((((w35.setCell ⟨gb136, 0, none⟩ (.bool t128)).setCell ⟨gb136, 1, none⟩ (.slice Ao40 t129.length co40)).setCell ⟨gb136, 2, none⟩ (.slice Ao41 t132.length co41)).heap[gb118]? = some (.cells #[.bool t110, .slice Ao25 t111.length co25, .slice Ao26 t114.length co26] 60 (0, 0))) := ⟨by (with_reducible repeat (first | refine blk_drewN ?_ _ | refine blk_drew ?_ | refine blk_alloc ?_ _)); refine blk_far ?_ NB118_136.out _; (with_reducible repeat (first | refine blk_drewN ?_ _ | refine blk_drew ?_ | refine blk_alloc ?_ _)); refine blk_far ?_ NB118_136.out _; (with_reducible repeat (first | refine blk_drewN ?_ _ | refine blk_drew ?_ | refine blk_alloc ?_ _)); refine blk_far ?_ NB118_136.out _; (with_reducible repeat (first | refine blk_drewN ?_ _ | refine blk_drew ?_ | refine blk_alloc ?_ _)); exact BK118.out⟩
    have n10_ : Aside0 ((((w35.setCell ⟨gb136, 0, none⟩ (.bool t128)).setCell ⟨gb136, 1, none⟩ (.slice Ao40 t129.length co40)).setCell ⟨gb136, 2, none⟩ (.slice Ao41 t132.length co41)).heap[gb127]? = some (.cells #[.bool t119, .slice Ao32 t120.length co32, .slice Ao33 t123.length co33] 60 (0, 0))) := ⟨by (with_reducible repeat (first | refine blk_drewN ?_ _ | refine blk_drew ?_ | refine blk_alloc ?_ _)); refine blk_far ?_ NB127_136.out _; (with_reducible repeat (first | refine blk_drewN ?_ _ | refine blk_drew ?_ | refine blk_alloc ?_ _)); refine blk_far ?_ NB127_136.out _; (with_reducible repeat (first | refine blk_drewN ?_ _ | refine blk_drew ?_ | refine blk_alloc ?_ _)); refine blk_far ?_ NB127_136.out _; (with_reducible repeat (first | refine blk_drewN ?_ _ | refine blk_drew ?_ | refine blk_alloc ?_ _)); exact BK127.out⟩
    have n11_ : Aside0 ((((w35.setCell ⟨gb136, 0, none⟩ (.bool t128)).setCell ⟨gb136, 1, none⟩ (.slice Ao40 t129.length co40)).setCell ⟨gb136, 2, none⟩ (.slice Ao41 t132.length co41)).heap[gb136]? = some (.cells #[.bool t128, .slice Ao40 t129.length co40, .slice Ao41 t132.length co41] 60 (0, 0))) := ⟨by (with_reducible repeat (first | refine blk_drewN ?_ _ | refine blk_drew ?_ | refine blk_alloc ?_ _)); refine blk_put (cs := #[.bool t128, .slice Ao40 t129.length co40, .slice none 0 0]) ?_ 2 _ rfl; (with_reducible repeat (first | refine blk_drewN ?_ _ | refine blk_drew ?_ | refine blk_alloc ?_ _)); refine blk_put (cs := #[.bool t128, .slice none 0 0, .slice none 0 0]) ?_ 1 _ rfl; (with_reducible repeat (first | refine blk_drewN ?_ _ | refine blk_drew ?_ | refine blk_alloc ?_ _)); refine blk_put (cs := #[.bool false, .slice none 0 0, .slice none 0 0]) ?_ 0 _ rfl; (with_reducible repeat (first | refine blk_drewN ?_ _ | refine blk_drew ?_ | refine blk_alloc ?_ _)); exact BK136.out⟩
    have n12_ : Aside0 (Below w.heap.size w (((w35.setCell ⟨gb136, 0, none⟩ (.bool t128)).setCell ⟨gb136, 1, none⟩ (.slice Ao40 t129.length co40)).setCell ⟨gb136, 2, none⟩ (.slice Ao41 t132.length co41))) := ⟨zB4 HB.out GE109.out GE118.out GE127.out GE136.out⟩
    (try clear HO104)
    (try clear HO107)
    (try clear HO113)
    (try clear HO116)
    (try clear HO122)
    (try clear HO125)
    (try clear HO131)
    (try clear HO134)
    (try clear BK109)
    (try clear BK118)
    (try clear BK127)
    (try clear BK136)
    (try clear HB)
    generalize (((w35.setCell ⟨gb136, 0, none⟩ (.bool t128)).setCell ⟨gb136, 1, none⟩ (.slice Ao40 t129.length co40)).setCell ⟨gb136, 2, none⟩ (.slice Ao41 t132.length co41)) = w58 at n0_ n1_ n2_ n3_ n4_ n5_ n6_ n7_ n8_ n9_ n10_ n11_ n12_ ⊢
    have HO104 := n0_
    have HO107 := n1_
    have HO113 := n2_
    have HO116 := n3_
    have HO122 := n4_
    have HO125 := n5_
    have HO131 := n6_
    have HO134 := n7_
    have BK109 := n8_
    have BK118 := n9_
    have BK127 := n10_
    have BK136 := n11_
    have HB := n12_
    clear n0_ n1_ n2_ n3_ n4_ n5_ n6_ n7_ n8_ n9_ n10_ n11_ n12_
    replace HO104 := Aside0.mk (Kd.V_drew HO104.out)
    replace HO107 := Aside0.mk (Kd.V_drew HO107.out)
    replace HO113 := Aside0.mk (Kd.V_drew HO113.out)
    replace HO116 := Aside0.mk (Kd.V_drew HO116.out)
    replace HO122 := Aside0.mk (Kd.V_drew HO122.out)
    replace HO125 := Aside0.mk (Kd.V_drew HO125.out)
    replace HO131 := Aside0.mk (Kd.V_drew HO131.out)
    replace HO134 := Aside0.mk (Kd.V_drew HO134.out)
    replace BK109 := Aside0.mk (blk_drew BK109.out)
    replace BK118 := Aside0.mk (blk_drew BK118.out)
    replace BK127 := Aside0.mk (blk_drew BK127.out)
    replace BK136 := Aside0.mk (blk_drew BK136.out)
    replace HB := Aside0.mk (below_drew1 HB.out)
    refine start_ (n := 20) (S := fun w' => True) (ds := []) #[false, false, false, false, false, false, false, false, false, false, false, false, false, false, false, false, false, false, false, false] (by kernel_rfl) rfl rfl trivial (fun hHeld => ?_); refine with_tabW codewrightlaw24_MacwilliamsRecurrence.tab7 codewrightlaw24_MacwilliamsRecurrence.bits7 (fun HT_ HW_ => ?_)
    generalize w58.drew = w59 at HO104 HO107 HO113 HO116 HO122 HO125 HO131 HO134 BK109 BK118 BK127 BK136 HB hHeld ⊢
    refine zp (i := 0) (N := some 86) HT_ ?_
    refine zp (i := 1) (N := some 87) HT_ ?_
    refine zp (i := 2) (N := some 88) HT_ ?_
    refine zp (i := 3) (N := some 89) HT_ ?_
    refine zp (i := 4) (N := some 90) HT_ ?_
    refine zp (i := 5) (N := some 91) HT_ ?_
    refine zp (i := 6) (N := some 92) HT_ ?_
    refine pure_ (i := 7) (N := some 93) (v := undef) (a' := ?_) #[true, true, true, true, true, true, true, true, false, false, false, false, false, false, false, false, false, false, false, false] rfl rfl (any_of HT_.out (by kernel_rfl)) (fun _ _ _ h => h) (Or.inr ⟨by rfl, rfl⟩) ?_ ?_
    rotate_left
    · simp only [Act.put, List.setIfInBounds_toArray, List.set_cons_zero, List.set_cons_succ, i64_w, i32_w]
      rfl
    refine pure_ (i := 8) (N := some 94) (v := undef) (a' := ?_) #[true, true, true, true, true, true, true, true, true, false, false, false, false, false, false, false, false, false, false, false] rfl rfl (any_of HT_.out (by kernel_rfl)) (fun _ _ _ h => h) (Or.inr ⟨by rfl, rfl⟩) ?_ ?_
    rotate_left
    · simp only [Act.put, List.setIfInBounds_toArray, List.set_cons_zero, List.set_cons_succ, i64_w, i32_w]
      rfl
    refine zp (i := 9) (N := some 95) HT_ ?_
    refine zp (i := 10) (N := some 96) HT_ ?_
    refine pure_ (i := 11) (N := some 97) (v := undef) (a' := ?_) #[true, true, true, true, true, true, true, true, true, true, true, true, false, false, false, false, false, false, false, false] rfl rfl (any_of HT_.out (by kernel_rfl)) (fun _ _ _ h => h) (Or.inr ⟨by rfl, rfl⟩) ?_ ?_
    rotate_left
    · simp only [Act.put, List.setIfInBounds_toArray, List.set_cons_zero, List.set_cons_succ, i64_w, i32_w]
      rfl
    refine pure_ (i := 12) (N := some 98) (v := undef) (a' := ?_) #[true, true, true, true, true, true, true, true, true, true, true, true, true, false, false, false, false, false, false, false] rfl rfl (any_of HT_.out (by kernel_rfl)) (fun _ _ _ h => h) (Or.inr ⟨by rfl, rfl⟩) ?_ ?_
    rotate_left
    · simp only [Act.put, List.setIfInBounds_toArray, List.set_cons_zero, List.set_cons_succ, i64_w, i32_w]
      rfl
    refine zp (i := 13) (N := some 99) HT_ ?_
    refine zp (i := 14) (N := some 100) HT_ ?_
    refine pure_ (i := 15) (N := some 101) (v := undef) (a' := ?_) #[true, true, true, true, true, true, true, true, true, true, true, true, true, true, true, true, false, false, false, false] rfl rfl (any_of HT_.out (by kernel_rfl)) (fun _ _ _ h => h) (Or.inr ⟨by rfl, rfl⟩) ?_ ?_
    rotate_left
    · simp only [Act.put, List.setIfInBounds_toArray, List.set_cons_zero, List.set_cons_succ, i64_w, i32_w]
      rfl
    refine pure_ (i := 16) (N := some 102) (v := undef) (a' := ?_) #[true, true, true, true, true, true, true, true, true, true, true, true, true, true, true, true, true, false, false, false] rfl rfl (any_of HT_.out (by kernel_rfl)) (fun _ _ _ h => h) (Or.inr ⟨by rfl, rfl⟩) ?_ ?_
    rotate_left
    · simp only [Act.put, List.setIfInBounds_toArray, List.set_cons_zero, List.set_cons_succ, i64_w, i32_w]
      rfl
    refine pure_ (i := 17) (N := some 103) (v := undef) (a' := ?_) #[true, true, true, true, true, true, true, true, true, true, true, true, true, true, true, true, true, true, false, false] rfl rfl (any_of HT_.out (by kernel_rfl)) (fun _ _ _ h => h) (Or.inr ⟨by rfl, rfl⟩) ?_ ?_
    rotate_left
    · simp only [Act.put, List.setIfInBounds_toArray, List.set_cons_zero, List.set_cons_succ, i64_w, i32_w]
      rfl
    refine pure_ (i := 18) (N := some 104) (v := undef) (a' := ?_) #[true, true, true, true, true, true, true, true, true, true, true, true, true, true, true, true, true, true, true, false] rfl rfl (any_of HT_.out (by kernel_rfl)) (fun _ _ _ h => h) (Or.inr ⟨by rfl, rfl⟩) ?_ ?_
    rotate_left
    · simp only [Act.put, List.setIfInBounds_toArray, List.set_cons_zero, List.set_cons_succ, i64_w, i32_w]
      rfl
    refine zp (i := 19) (N := some 105) HT_ ?_
    refine done_ (done_of HT_.out (by kernel_rfl)) ?_
    try go_wp2
    go_meet
    case rel => exact ⟨_, (true), zF, H', ⟨by have := HJ4.out; first | omega | exact Nat.le_refl _⟩, ⟨zV HO104.out⟩, ⟨zV HO107.out⟩, ⟨zV HO113.out⟩, ⟨zV HO116.out⟩, ⟨zV HO122.out⟩, ⟨zV HO125.out⟩, ⟨zV HO131.out⟩, ⟨zV HO134.out⟩, ⟨by (with_reducible repeat (first | refine blk_drewN ?_ _ | refine blk_drew ?_ | refine blk_alloc ?_ _)); exact BK109.out⟩, ⟨by (with_reducible repeat (first | refine blk_drewN ?_ _ | refine blk_drew ?_ | refine blk_alloc ?_ _)); exact BK118.out⟩, ⟨by (with_reducible repeat (first | refine blk_drewN ?_ _ | refine blk_drew ?_ | refine blk_alloc ?_ _)); exact BK127.out⟩, ⟨by (with_reducible repeat (first | refine blk_drewN ?_ _ | refine blk_drew ?_ | refine blk_alloc ?_ _)); exact BK136.out⟩, ⟨zB4 HB.out GE109.out GE118.out GE127.out GE136.out⟩⟩
  replace c42 := Bool.eq_false_iff.mpr c42
  subst c42
  rw [if_neg Bool.false_ne_true] at H
  have H' := Aside0.mk H
  clear H
  try go_wp2
  have n0_ : Aside0 (Kd.V (Kd.int .u32) 97 (((w35.setCell ⟨gb136, 0, none⟩ (.bool t128)).setCell ⟨gb136, 1, none⟩ (.slice Ao40 t129.length co40)).setCell ⟨gb136, 2, none⟩ (.slice Ao41 t132.length co41)) w.heap.size (fun k_ => k_ ≠ gb109 ∧ k_ ≠ gb118 ∧ k_ ≠ gb127 ∧ k_ ≠ gb136) (.slice Ao19 t102.length co19) t102) := ⟨by (with_reducible repeat (first | apply Kd.V_alloc | apply Kd.V_drewN | apply Kd.V_drew)); exact Kd.V_mono (Kd.V_far (p := ⟨gb136, 2, none⟩) (Kd.V_far (p := ⟨gb136, 1, none⟩) (Kd.V_far (p := ⟨gb136, 0, none⟩) (Kd.V_mono HO104.out (fun k_ hk => (⟨hk, hk.2⟩ : _ ∧ k_ ≠ gb136))) (fun _ hk => hk.2) (.bool t128)) (fun _ hk => hk.2) (.slice Ao40 t129.length co40)) (fun _ hk => hk.2) (.slice Ao41 t132.length co41)) (fun _ hk => ⟨hk.1.1.1.1.2, ⟨hk.1.1.1.2, ⟨hk.1.1.2, hk.1.2⟩⟩⟩)⟩
  have n1_ : Aside0 (Kd.V (Kd.int .u32) 97 (((w35.setCell ⟨gb136, 0, none⟩ (.bool t128)).setCell ⟨gb136, 1, none⟩ (.slice Ao40 t129.length co40)).setCell ⟨gb136, 2, none⟩ (.slice Ao41 t132.length co41)) w.heap.size (fun k_ => k_ ≠ gb109 ∧ k_ ≠ gb118 ∧ k_ ≠ gb127 ∧ k_ ≠ gb136) (.slice Ao20 t105.length co20) t105) := ⟨by (with_reducible repeat (first | apply Kd.V_alloc | apply Kd.V_drewN | apply Kd.V_drew)); exact Kd.V_mono (Kd.V_far (p := ⟨gb136, 2, none⟩) (Kd.V_far (p := ⟨gb136, 1, none⟩) (Kd.V_far (p := ⟨gb136, 0, none⟩) (Kd.V_mono HO107.out (fun k_ hk => (⟨hk, hk.2⟩ : _ ∧ k_ ≠ gb136))) (fun _ hk => hk.2) (.bool t128)) (fun _ hk => hk.2) (.slice Ao40 t129.length co40)) (fun _ hk => hk.2) (.slice Ao41 t132.length co41)) (fun _ hk => ⟨hk.1.1.1.1.2, ⟨hk.1.1.1.2, ⟨hk.1.1.2, hk.1.2⟩⟩⟩)⟩
  have n2_ : Aside0 (Kd.V (Kd.int .u32) 97 (((w35.setCell ⟨gb136, 0, none⟩ (.bool t128)).setCell ⟨gb136, 1, none⟩ (.slice Ao40 t129.length co40)).setCell ⟨gb136, 2, none⟩ (.slice Ao41 t132.length co41)) w.heap.size (fun k_ => k_ ≠ gb109 ∧ k_ ≠ gb118 ∧ k_ ≠ gb127 ∧ k_ ≠ gb136) (.slice Ao25 t111.length co25) t111) := ⟨by (with_reducible repeat (first | apply Kd.V_alloc | apply Kd.V_drewN | apply Kd.V_drew)); exact Kd.V_mono (Kd.V_far (p := ⟨gb136, 2, none⟩) (Kd.V_far (p := ⟨gb136, 1, none⟩) (Kd.V_far (p := ⟨gb136, 0, none⟩) (Kd.V_mono HO113.out (fun k_ hk => (⟨hk, hk.2⟩ : _ ∧ k_ ≠ gb136))) (fun _ hk => hk.2) (.bool t128)) (fun _ hk => hk.2) (.slice Ao40 t129.length co40)) (fun _ hk => hk.2) (.slice Ao41 t132.length co41)) (fun _ hk => ⟨hk.1.1.1.1, ⟨hk.1.1.1.2, ⟨hk.1.1.2, hk.1.2⟩⟩⟩)⟩
  have n3_ : Aside0 (Kd.V (Kd.int .u32) 97 (((w35.setCell ⟨gb136, 0, none⟩ (.bool t128)).setCell ⟨gb136, 1, none⟩ (.slice Ao40 t129.length co40)).setCell ⟨gb136, 2, none⟩ (.slice Ao41 t132.length co41)) w.heap.size (fun k_ => k_ ≠ gb109 ∧ k_ ≠ gb118 ∧ k_ ≠ gb127 ∧ k_ ≠ gb136) (.slice Ao26 t114.length co26) t114) := ⟨by (with_reducible repeat (first | apply Kd.V_alloc | apply Kd.V_drewN | apply Kd.V_drew)); exact Kd.V_mono (Kd.V_far (p := ⟨gb136, 2, none⟩) (Kd.V_far (p := ⟨gb136, 1, none⟩) (Kd.V_far (p := ⟨gb136, 0, none⟩) (Kd.V_mono HO116.out (fun k_ hk => (⟨hk, hk.2⟩ : _ ∧ k_ ≠ gb136))) (fun _ hk => hk.2) (.bool t128)) (fun _ hk => hk.2) (.slice Ao40 t129.length co40)) (fun _ hk => hk.2) (.slice Ao41 t132.length co41)) (fun _ hk => ⟨hk.1.1.1.1, ⟨hk.1.1.1.2, ⟨hk.1.1.2, hk.1.2⟩⟩⟩)⟩
  have n4_ : Aside0 (Kd.V (Kd.int .u32) 97 (((w35.setCell ⟨gb136, 0, none⟩ (.bool t128)).setCell ⟨gb136, 1, none⟩ (.slice Ao40 t129.length co40)).setCell ⟨gb136, 2, none⟩ (.slice Ao41 t132.length co41)) w.heap.size (fun k_ => k_ ≠ gb109 ∧ k_ ≠ gb118 ∧ k_ ≠ gb127 ∧ k_ ≠ gb136) (.slice Ao32 t120.length co32) t120) := ⟨by (with_reducible repeat (first | apply Kd.V_alloc | apply Kd.V_drewN | apply Kd.V_drew)); exact Kd.V_mono (Kd.V_far (p := ⟨gb136, 2, none⟩) (Kd.V_far (p := ⟨gb136, 1, none⟩) (Kd.V_far (p := ⟨gb136, 0, none⟩) (Kd.V_mono HO122.out (fun k_ hk => (⟨hk, hk.2⟩ : _ ∧ k_ ≠ gb136))) (fun _ hk => hk.2) (.bool t128)) (fun _ hk => hk.2) (.slice Ao40 t129.length co40)) (fun _ hk => hk.2) (.slice Ao41 t132.length co41)) (fun _ hk => ⟨hk.1.1.1.1, ⟨hk.1.1.1.2, ⟨hk.1.1.2, hk.1.2⟩⟩⟩)⟩
  have n5_ : Aside0 (Kd.V (Kd.int .u32) 97 (((w35.setCell ⟨gb136, 0, none⟩ (.bool t128)).setCell ⟨gb136, 1, none⟩ (.slice Ao40 t129.length co40)).setCell ⟨gb136, 2, none⟩ (.slice Ao41 t132.length co41)) w.heap.size (fun k_ => k_ ≠ gb109 ∧ k_ ≠ gb118 ∧ k_ ≠ gb127 ∧ k_ ≠ gb136) (.slice Ao33 t123.length co33) t123) := ⟨by (with_reducible repeat (first | apply Kd.V_alloc | apply Kd.V_drewN | apply Kd.V_drew)); exact Kd.V_mono (Kd.V_far (p := ⟨gb136, 2, none⟩) (Kd.V_far (p := ⟨gb136, 1, none⟩) (Kd.V_far (p := ⟨gb136, 0, none⟩) (Kd.V_mono HO125.out (fun k_ hk => (⟨hk, hk.2⟩ : _ ∧ k_ ≠ gb136))) (fun _ hk => hk.2) (.bool t128)) (fun _ hk => hk.2) (.slice Ao40 t129.length co40)) (fun _ hk => hk.2) (.slice Ao41 t132.length co41)) (fun _ hk => ⟨hk.1.1.1.1, ⟨hk.1.1.1.2, ⟨hk.1.1.2, hk.1.2⟩⟩⟩)⟩
  have n6_ : Aside0 (Kd.V (Kd.int .u32) 97 (((w35.setCell ⟨gb136, 0, none⟩ (.bool t128)).setCell ⟨gb136, 1, none⟩ (.slice Ao40 t129.length co40)).setCell ⟨gb136, 2, none⟩ (.slice Ao41 t132.length co41)) w.heap.size (fun k_ => k_ ≠ gb109 ∧ k_ ≠ gb118 ∧ k_ ≠ gb127 ∧ k_ ≠ gb136) (.slice Ao40 t129.length co40) t129) := ⟨by (with_reducible repeat (first | apply Kd.V_alloc | apply Kd.V_drewN | apply Kd.V_drew)); exact Kd.V_mono (Kd.V_far (p := ⟨gb136, 2, none⟩) (Kd.V_far (p := ⟨gb136, 1, none⟩) (Kd.V_far (p := ⟨gb136, 0, none⟩) (Kd.V_mono HO131.out (fun k_ hk => (⟨hk, hk.2⟩ : _ ∧ k_ ≠ gb136))) (fun _ hk => hk.2) (.bool t128)) (fun _ hk => hk.2) (.slice Ao40 t129.length co40)) (fun _ hk => hk.2) (.slice Ao41 t132.length co41)) (fun _ hk => ⟨hk.1.1.1, ⟨hk.1.1.2.1, ⟨hk.1.1.2.2, hk.1.2⟩⟩⟩)⟩
  have n7_ : Aside0 (Kd.V (Kd.int .u32) 97 (((w35.setCell ⟨gb136, 0, none⟩ (.bool t128)).setCell ⟨gb136, 1, none⟩ (.slice Ao40 t129.length co40)).setCell ⟨gb136, 2, none⟩ (.slice Ao41 t132.length co41)) w.heap.size (fun k_ => k_ ≠ gb109 ∧ k_ ≠ gb118 ∧ k_ ≠ gb127 ∧ k_ ≠ gb136) (.slice Ao41 t132.length co41) t132) := ⟨by (with_reducible repeat (first | apply Kd.V_alloc | apply Kd.V_drewN | apply Kd.V_drew)); exact Kd.V_mono (Kd.V_far (p := ⟨gb136, 2, none⟩) (Kd.V_far (p := ⟨gb136, 1, none⟩) (Kd.V_far (p := ⟨gb136, 0, none⟩) (Kd.V_mono HO134.out (fun k_ hk => (⟨hk, hk.2⟩ : _ ∧ k_ ≠ gb136))) (fun _ hk => hk.2) (.bool t128)) (fun _ hk => hk.2) (.slice Ao40 t129.length co40)) (fun _ hk => hk.2) (.slice Ao41 t132.length co41)) (fun _ hk => ⟨hk.1.1.1, ⟨hk.1.1.2.1, ⟨hk.1.1.2.2, hk.1.2⟩⟩⟩)⟩
  have n8_ : Aside0 ((((w35.setCell ⟨gb136, 0, none⟩ (.bool t128)).setCell ⟨gb136, 1, none⟩ (.slice Ao40 t129.length co40)).setCell ⟨gb136, 2, none⟩ (.slice Ao41 t132.length co41)).heap[gb109]? = some (.cells #[.bool t101, .slice Ao19 t102.length co19, .slice Ao20 t105.length co20] 60 (0, 0))) := ⟨by (with_reducible repeat (first | refine blk_drewN ?_ _ | refine blk_drew ?_ | refine blk_alloc ?_ _)); refine blk_far ?_ NB109_136.out _; (with_reducible repeat (first | refine blk_drewN ?_ _ | refine blk_drew ?_ | refine blk_alloc ?_ _)); refine blk_far ?_ NB109_136.out _; (with_reducible repeat (first | refine blk_drewN ?_ _ | refine blk_drew ?_ | refine blk_alloc ?_ _)); refine blk_far ?_ NB109_136.out _; (with_reducible repeat (first | refine blk_drewN ?_ _ | refine blk_drew ?_ | refine blk_alloc ?_ _)); exact BK109.out⟩
  have n9_ : Aside0 ((((w35.setCell ⟨gb136, 0, none⟩ (.bool t128)).setCell ⟨gb136, 1, none⟩ (.slice Ao40 t129.length co40)).setCell ⟨gb136, 2, none⟩ (.slice Ao41 t132.length co41)).heap[gb118]? = some (.cells #[.bool t110, .slice Ao25 t111.length co25, .slice Ao26 t114.length co26] 60 (0, 0))) := ⟨by (with_reducible repeat (first | refine blk_drewN ?_ _ | refine blk_drew ?_ | refine blk_alloc ?_ _)); refine blk_far ?_ NB118_136.out _; (with_reducible repeat (first | refine blk_drewN ?_ _ | refine blk_drew ?_ | refine blk_alloc ?_ _)); refine blk_far ?_ NB118_136.out _; (with_reducible repeat (first | refine blk_drewN ?_ _ | refine blk_drew ?_ | refine blk_alloc ?_ _)); refine blk_far ?_ NB118_136.out _; (with_reducible repeat (first | refine blk_drewN ?_ _ | refine blk_drew ?_ | refine blk_alloc ?_ _)); exact BK118.out⟩
  have n10_ : Aside0 ((((w35.setCell ⟨gb136, 0, none⟩ (.bool t128)).setCell ⟨gb136, 1, none⟩ (.slice Ao40 t129.length co40)).setCell ⟨gb136, 2, none⟩ (.slice Ao41 t132.length co41)).heap[gb127]? = some (.cells #[.bool t119, .slice Ao32 t120.length co32, .slice Ao33 t123.length co33] 60 (0, 0))) := ⟨by (with_reducible repeat (first | refine blk_drewN ?_ _ | refine blk_drew ?_ | refine blk_alloc ?_ _)); refine blk_far ?_ NB127_136.out _; (with_reducible repeat (first | refine blk_drewN ?_ _ | refine blk_drew ?_ | refine blk_alloc ?_ _)); refine blk_far ?_ NB127_136.out _; (with_reducible repeat (first | refine blk_drewN ?_ _ | refine blk_drew ?_ | refine blk_alloc ?_ _)); refine blk_far ?_ NB127_136.out _; (with_reducible repeat (first | refine blk_drewN ?_ _ | refine blk_drew ?_ | refine blk_alloc ?_ _)); exact BK127.out⟩
  have n11_ : Aside0 ((((w35.setCell ⟨gb136, 0, none⟩ (.bool t128)).setCell ⟨gb136, 1, none⟩ (.slice Ao40 t129.length co40)).setCell ⟨gb136, 2, none⟩ (.slice Ao41 t132.length co41)).heap[gb136]? = some (.cells #[.bool t128, .slice Ao40 t129.length co40, .slice Ao41 t132.length co41] 60 (0, 0))) := ⟨by (with_reducible repeat (first | refine blk_drewN ?_ _ | refine blk_drew ?_ | refine blk_alloc ?_ _)); refine blk_put (cs := #[.bool t128, .slice Ao40 t129.length co40, .slice none 0 0]) ?_ 2 _ rfl; (with_reducible repeat (first | refine blk_drewN ?_ _ | refine blk_drew ?_ | refine blk_alloc ?_ _)); refine blk_put (cs := #[.bool t128, .slice none 0 0, .slice none 0 0]) ?_ 1 _ rfl; (with_reducible repeat (first | refine blk_drewN ?_ _ | refine blk_drew ?_ | refine blk_alloc ?_ _)); refine blk_put (cs := #[.bool false, .slice none 0 0, .slice none 0 0]) ?_ 0 _ rfl; (with_reducible repeat (first | refine blk_drewN ?_ _ | refine blk_drew ?_ | refine blk_alloc ?_ _)); exact BK136.out⟩
  have n12_ : Aside0 (Below w.heap.size w (((w35.setCell ⟨gb136, 0, none⟩ (.bool t128)).setCell ⟨gb136, 1, none⟩ (.slice Ao40 t129.length co40)).setCell ⟨gb136, 2, none⟩ (.slice Ao41 t132.length co41))) := ⟨zB4 HB.out GE109.out GE118.out GE127.out GE136.out⟩
  (try clear HO104)
  (try clear HO107)
  (try clear HO113)
  (try clear HO116)
  (try clear HO122)
  (try clear HO125)
  (try clear HO131)
  (try clear HO134)
  (try clear BK109)
  (try clear BK118)
  (try clear BK127)
  (try clear BK136)
  (try clear HB)
  generalize (((w35.setCell ⟨gb136, 0, none⟩ (.bool t128)).setCell ⟨gb136, 1, none⟩ (.slice Ao40 t129.length co40)).setCell ⟨gb136, 2, none⟩ (.slice Ao41 t132.length co41)) = w60 at n0_ n1_ n2_ n3_ n4_ n5_ n6_ n7_ n8_ n9_ n10_ n11_ n12_ ⊢
  have HO104 := n0_
  have HO107 := n1_
  have HO113 := n2_
  have HO116 := n3_
  have HO122 := n4_
  have HO125 := n5_
  have HO131 := n6_
  have HO134 := n7_
  have BK109 := n8_
  have BK118 := n9_
  have BK127 := n10_
  have BK136 := n11_
  have HB := n12_
  clear n0_ n1_ n2_ n3_ n4_ n5_ n6_ n7_ n8_ n9_ n10_ n11_ n12_
  replace HO104 := Aside0.mk (Kd.V_drew HO104.out)
  replace HO107 := Aside0.mk (Kd.V_drew HO107.out)
  replace HO113 := Aside0.mk (Kd.V_drew HO113.out)
  replace HO116 := Aside0.mk (Kd.V_drew HO116.out)
  replace HO122 := Aside0.mk (Kd.V_drew HO122.out)
  replace HO125 := Aside0.mk (Kd.V_drew HO125.out)
  replace HO131 := Aside0.mk (Kd.V_drew HO131.out)
  replace HO134 := Aside0.mk (Kd.V_drew HO134.out)
  replace BK109 := Aside0.mk (blk_drew BK109.out)
  replace BK118 := Aside0.mk (blk_drew BK118.out)
  replace BK127 := Aside0.mk (blk_drew BK127.out)
  replace BK136 := Aside0.mk (blk_drew BK136.out)
  replace HB := Aside0.mk (below_drew1 HB.out)
  refine start_ (n := 20) (S := fun w' => True) (ds := []) #[false, false, false, false, false, false, false, false, false, false, false, false, false, false, false, false, false, false, false, false] (by kernel_rfl) rfl rfl trivial (fun hHeld => ?_); refine with_tabW codewrightlaw24_MacwilliamsRecurrence.tab7 codewrightlaw24_MacwilliamsRecurrence.bits7 (fun HT_ HW_ => ?_)
  generalize w60.drew = w61 at HO104 HO107 HO113 HO116 HO122 HO125 HO131 HO134 BK109 BK118 BK127 BK136 HB hHeld ⊢
  refine zp (i := 0) (N := some 86) HT_ ?_
  refine zp (i := 1) (N := some 87) HT_ ?_
  refine zp (i := 2) (N := some 88) HT_ ?_
  refine pure_ (i := 3) (N := some 89) (v := undef) (a' := ?_) #[true, true, true, true, false, false, false, false, false, false, false, false, false, false, false, false, false, false, false, false] rfl rfl (any_of HT_.out (by kernel_rfl)) (fun _ _ _ h => h) (Or.inr ⟨by rfl, rfl⟩) ?_ ?_
  rotate_left
  · simp only [Act.put, List.setIfInBounds_toArray, List.set_cons_zero, List.set_cons_succ, i64_w, i32_w]
    rfl
  refine pure_ (i := 4) (N := some 90) (v := undef) (a' := ?_) #[true, true, true, true, true, false, false, false, false, false, false, false, false, false, false, false, false, false, false, false] rfl rfl (any_of HT_.out (by kernel_rfl)) (fun _ _ _ h => h) (Or.inr ⟨by rfl, rfl⟩) ?_ ?_
  rotate_left
  · simp only [Act.put, List.setIfInBounds_toArray, List.set_cons_zero, List.set_cons_succ, i64_w, i32_w]
    rfl
  refine zp (i := 5) (N := some 91) HT_ ?_
  refine zp (i := 6) (N := some 92) HT_ ?_
  refine pure_ (i := 7) (N := some 93) (v := undef) (a' := ?_) #[true, true, true, true, true, true, true, true, false, false, false, false, false, false, false, false, false, false, false, false] rfl rfl (any_of HT_.out (by kernel_rfl)) (fun _ _ _ h => h) (Or.inr ⟨by rfl, rfl⟩) ?_ ?_
  rotate_left
  · simp only [Act.put, List.setIfInBounds_toArray, List.set_cons_zero, List.set_cons_succ, i64_w, i32_w]
    rfl
  refine pure_ (i := 8) (N := some 94) (v := undef) (a' := ?_) #[true, true, true, true, true, true, true, true, true, false, false, false, false, false, false, false, false, false, false, false] rfl rfl (any_of HT_.out (by kernel_rfl)) (fun _ _ _ h => h) (Or.inr ⟨by rfl, rfl⟩) ?_ ?_
  rotate_left
  · simp only [Act.put, List.setIfInBounds_toArray, List.set_cons_zero, List.set_cons_succ, i64_w, i32_w]
    rfl
  refine zp (i := 9) (N := some 95) HT_ ?_
  refine zp (i := 10) (N := some 96) HT_ ?_
  refine pure_ (i := 11) (N := some 97) (v := undef) (a' := ?_) #[true, true, true, true, true, true, true, true, true, true, true, true, false, false, false, false, false, false, false, false] rfl rfl (any_of HT_.out (by kernel_rfl)) (fun _ _ _ h => h) (Or.inr ⟨by rfl, rfl⟩) ?_ ?_
  rotate_left
  · simp only [Act.put, List.setIfInBounds_toArray, List.set_cons_zero, List.set_cons_succ, i64_w, i32_w]
    rfl
  refine pure_ (i := 12) (N := some 98) (v := undef) (a' := ?_) #[true, true, true, true, true, true, true, true, true, true, true, true, true, false, false, false, false, false, false, false] rfl rfl (any_of HT_.out (by kernel_rfl)) (fun _ _ _ h => h) (Or.inr ⟨by rfl, rfl⟩) ?_ ?_
  rotate_left
  · simp only [Act.put, List.setIfInBounds_toArray, List.set_cons_zero, List.set_cons_succ, i64_w, i32_w]
    rfl
  refine zp (i := 13) (N := some 99) HT_ ?_
  refine zp (i := 14) (N := some 100) HT_ ?_
  refine pure_ (i := 15) (N := some 101) (v := undef) (a' := ?_) #[true, true, true, true, true, true, true, true, true, true, true, true, true, true, true, true, false, false, false, false] rfl rfl (any_of HT_.out (by kernel_rfl)) (fun _ _ _ h => h) (Or.inr ⟨by rfl, rfl⟩) ?_ ?_
  rotate_left
  · simp only [Act.put, List.setIfInBounds_toArray, List.set_cons_zero, List.set_cons_succ, i64_w, i32_w]
    rfl
  refine pure_ (i := 16) (N := some 102) (v := undef) (a' := ?_) #[true, true, true, true, true, true, true, true, true, true, true, true, true, true, true, true, true, false, false, false] rfl rfl (any_of HT_.out (by kernel_rfl)) (fun _ _ _ h => h) (Or.inr ⟨by rfl, rfl⟩) ?_ ?_
  rotate_left
  · simp only [Act.put, List.setIfInBounds_toArray, List.set_cons_zero, List.set_cons_succ, i64_w, i32_w]
    rfl
  refine pure_ (i := 17) (N := some 103) (v := undef) (a' := ?_) #[true, true, true, true, true, true, true, true, true, true, true, true, true, true, true, true, true, true, false, false] rfl rfl (any_of HT_.out (by kernel_rfl)) (fun _ _ _ h => h) (Or.inr ⟨by rfl, rfl⟩) ?_ ?_
  rotate_left
  · simp only [Act.put, List.setIfInBounds_toArray, List.set_cons_zero, List.set_cons_succ, i64_w, i32_w]
    rfl
  refine pure_ (i := 18) (N := some 104) (v := undef) (a' := ?_) #[true, true, true, true, true, true, true, true, true, true, true, true, true, true, true, true, true, true, true, false] rfl rfl (any_of HT_.out (by kernel_rfl)) (fun _ _ _ h => h) (Or.inr ⟨by rfl, rfl⟩) ?_ ?_
  rotate_left
  · simp only [Act.put, List.setIfInBounds_toArray, List.set_cons_zero, List.set_cons_succ, i64_w, i32_w]
    rfl
  refine zp (i := 19) (N := some 105) HT_ ?_
  refine done_ (done_of HT_.out (by kernel_rfl)) ?_
  try go_wp2
  go_meet
  case rel => exact ⟨_, (true), zF, H', ⟨by have := HJ4.out; first | omega | exact Nat.le_refl _⟩, ⟨zV HO104.out⟩, ⟨zV HO107.out⟩, ⟨zV HO113.out⟩, ⟨zV HO116.out⟩, ⟨zV HO122.out⟩, ⟨zV HO125.out⟩, ⟨zV HO131.out⟩, ⟨zV HO134.out⟩, ⟨by (with_reducible repeat (first | refine blk_drewN ?_ _ | refine blk_drew ?_ | refine blk_alloc ?_ _)); exact BK109.out⟩, ⟨by (with_reducible repeat (first | refine blk_drewN ?_ _ | refine blk_drew ?_ | refine blk_alloc ?_ _)); exact BK118.out⟩, ⟨by (with_reducible repeat (first | refine blk_drewN ?_ _ | refine blk_drew ?_ | refine blk_alloc ?_ _)); exact BK127.out⟩, ⟨by (with_reducible repeat (first | refine blk_drewN ?_ _ | refine blk_drew ?_ | refine blk_alloc ?_ _)); exact BK136.out⟩, ⟨zB4 HB.out GE109.out GE118.out GE127.out GE136.out⟩⟩
 clear HC15
 (try clear p2);(try clear c4);(try clear c42);(try clear c43)
 obtain ⟨kq, x105_14, rfl, HA, HJ14, HO_110001, HO_110002, HO_119001, HO_119002, HO_128001, HO_128002, HO_137001, HO_137002, BK109, BK118, BK127, BK136, HB⟩ := hcut
 cases kq with | zero => exact absurd HA.out (by simp [codewrightlaw24_MacwilliamsRecurrence.j1]) | succ kj14 => ?_
 have H := HA.out
 clear HA
 simp only [codewrightlaw24_MacwilliamsRecurrence.j1] at H
 by_cases c62 : x105_14 = true
 · subst c62
   rw [if_pos rfl] at H
   obtain rfl := Option.some.inj H
   go_wp2
   go_ret
   exact ⟨zE, zB4 HB.out GE109.out GE118.out GE127.out GE136.out⟩
 replace c62 := Bool.eq_false_iff.mpr c62
 subst c62
 rw [if_neg Bool.false_ne_true] at H
 replace H := zb H
 obtain ⟨⟨t145, t146, t149⟩, A63, H⟩ := H
 dsimp only at H
 replace H := zb H
 obtain ⟨⟨t152, t153, t156⟩, A64, H⟩ := H
 dsimp only at H
 replace H := zb H
 obtain ⟨⟨t159, t160, t163⟩, A65, H⟩ := H
 dsimp only at H
 replace H := zb H
 obtain ⟨⟨t166, t167, t170⟩, A66, H⟩ := H
 dsimp only at H
 replace H := zb H
 obtain ⟨⟨t173, t174, t177⟩, A67, H⟩ := H
 dsimp only at H
 replace H := zb H
 obtain ⟨⟨t180, t181, t184⟩, A68, H⟩ := H
 dsimp only at H
 replace H := zb H
 obtain ⟨⟨t187, t188, t191⟩, A69, H⟩ := H
 dsimp only at H
 replace H := zb H
 obtain ⟨t194, A70, H⟩ := H
 obtain rfl := Option.some.inj H
 try go_wp2
 replace HO_110001 := Aside0.mk (Kd.V_drew HO_110001.out)
 replace HO_110002 := Aside0.mk (Kd.V_drew HO_110002.out)
 replace HO_119001 := Aside0.mk (Kd.V_drew HO_119001.out)
 replace HO_119002 := Aside0.mk (Kd.V_drew HO_119002.out)
 replace HO_128001 := Aside0.mk (Kd.V_drew HO_128001.out)
 replace HO_128002 := Aside0.mk (Kd.V_drew HO_128002.out)
 replace HO_137001 := Aside0.mk (Kd.V_drew HO_137001.out)
 replace HO_137002 := Aside0.mk (Kd.V_drew HO_137002.out)
 replace BK109 := Aside0.mk (blk_drew BK109.out)
 replace BK118 := Aside0.mk (blk_drew BK118.out)
 replace BK127 := Aside0.mk (blk_drew BK127.out)
 replace BK136 := Aside0.mk (blk_drew BK136.out)
 replace HB := Aside0.mk (below_drew1 HB.out)
 refine start_ (n := 26) (S := fun w' => w'.cell? ⟨gb109, 0, none⟩ = some (.bool t101) ∧ w'.cell? ⟨gb109, 1, none⟩ = some (.slice Ao19 t102.length co19) ∧ w'.cell? ⟨gb109, 2, none⟩ = some (.slice Ao20 t105.length co20) ∧ w'.cell? ⟨gb118, 0, none⟩ = some (.bool t110) ∧ w'.cell? ⟨gb118, 1, none⟩ = some (.slice Ao25 t111.length co25) ∧ w'.cell? ⟨gb118, 2, none⟩ = some (.slice Ao26 t114.length co26) ∧ w'.cell? ⟨gb127, 0, none⟩ = some (.bool t119) ∧ w'.cell? ⟨gb127, 1, none⟩ = some (.slice Ao32 t120.length co32) ∧ w'.cell? ⟨gb127, 2, none⟩ = some (.slice Ao33 t123.length co33)) (ds := []) #[false, false, false, false, false, false, false, false, false, false, false, false, false, false, false, false, false, false, false, false, false, false, false, false, false, false] (by kernel_rfl) rfl rfl ⟨(blk_cell BK109.out 0).trans rfl, (blk_cell BK109.out 1).trans rfl, (blk_cell BK109.out 2).trans rfl, (blk_cell BK118.out 0).trans rfl, (blk_cell BK118.out 1).trans rfl, (blk_cell BK118.out 2).trans rfl, (blk_cell BK127.out 0).trans rfl, (blk_cell BK127.out 1).trans rfl, (blk_cell BK127.out 2).trans rfl⟩ (fun hHeld => ?_); refine with_tabW codewrightlaw24_MacwilliamsRecurrence.tab10 codewrightlaw24_MacwilliamsRecurrence.bits10 (fun HT_ HW_ => ?_)
 generalize wc.drew = w71 at HO_110001 HO_110002 HO_119001 HO_119002 HO_128001 HO_128002 HO_137001 HO_137002 BK109 BK118 BK127 BK136 HB hHeld ⊢
 refine zp (i := 0) (N := some 124) HT_ ?_
 refine zp (i := 1) (N := some 125) HT_ ?_
 refine zp (i := 2) (N := some 126) HT_ ?_
 refine zp (i := 6) (N := some 130) HT_ ?_
 refine zp (i := 10) (N := some 134) HT_ ?_
 refine zp (i := 11) (N := some 135) HT_ ?_
 refine zp (i := 12) (N := some 136) HT_ ?_
 refine zp (i := 13) (N := some 137) HT_ ?_
 refine zp (i := 14) (N := some 138) HT_ ?_
 refine zp (i := 15) (N := some 139) HT_ ?_
 refine zp (i := 16) (N := some 140) HT_ ?_
 refine zp (i := 17) (N := some 141) HT_ ?_
 refine zp (i := 18) (N := some 142) HT_ ?_
 refine zp (i := 19) (N := some 143) HT_ ?_
 refine take_ (i := 4) (N := some 128) (v := ?_) (a' := ?_) #[true, true, true, false, true, false, true, false, false, false, true, true, true, true, true, true, true, true, true, true, false, false, false, false, false, false] rfl rfl (take_ofW HT_.out HW_.out (by kernel_rfl)) (fun _ _ _ h => h) (Or.inl ⟨by rfl, ?_⟩) hHeld ?_ ?_
 rotate_left
 · rintro w' ⟨s0, s1, s2, s3, s4, s5, s6, s7, s8⟩
   go_simp
   with_reducible rfl
 rotate_left
 · simp only [Act.put, List.setIfInBounds_toArray, List.set_cons_zero, List.set_cons_succ, i64_w, i32_w]
   rfl
 refine take_ (i := 8) (N := some 132) (v := ?_) (a' := ?_) #[true, true, true, false, true, false, true, false, true, false, true, true, true, true, true, true, true, true, true, true, false, false, false, false, false, false] rfl rfl (take_ofW HT_.out HW_.out (by kernel_rfl)) (fun _ _ _ h => h) (Or.inl ⟨by rfl, ?_⟩) hHeld ?_ ?_
 rotate_left
 · rintro w' ⟨s0, s1, s2, s3, s4, s5, s6, s7, s8⟩
   go_simp
   with_reducible rfl
 rotate_left
 · simp only [Act.put, List.setIfInBounds_toArray, List.set_cons_zero, List.set_cons_succ, i64_w, i32_w]
   rfl
 refine take_ (i := 21) (N := some 145) (v := ?_) (a' := ?_) #[true, true, true, false, true, false, true, false, true, false, true, true, true, true, true, true, true, true, true, true, false, true, false, false, false, false] rfl rfl (take_ofW HT_.out HW_.out (by kernel_rfl)) (fun _ _ _ h => h) (Or.inl ⟨by rfl, ?_⟩) hHeld ?_ ?_
 rotate_left
 · rintro w' ⟨s0, s1, s2, s3, s4, s5, s6, s7, s8⟩
   go_simp
   with_reducible rfl
 rotate_left
 · simp only [Act.put, List.setIfInBounds_toArray, List.set_cons_zero, List.set_cons_succ, i64_w, i32_w]
   rfl
 refine one_ (i := 3) (N := some 127) #[true, true, true, true, true, false, true, false, true, false, true, true, true, true, true, true, true, true, true, true, false, true, false, false, false, false] rfl rfl (one_of HT_.out (by kernel_rfl)) (by decide) (fun K hK => ?_)
 refine goes_ Try.func48 (by kernel_rfl) rfl #[.int .i64 (wrap64 ((wrap64 (a2)) + 1))] (by rfl) rfl rfl (by (try simp only [List.map_toArray, List.map_cons, List.map_nil]); first | done | rfl | (simp only [List.length_drop, List.length_take]; rfl)) ?_
 with_reducible refine (codewrightref02_Int.calls kj14 (wrap64 ((wrap64 (a2)) + 1)) t145 t146 t149 _ A63.out).mono ?_
 rintro e w72 ⟨v147, v150, rfl, ho0, ho1, hb⟩
 refine ⟨_, rfl, ?_⟩
 replace HO_110001 := yVt HO_110001 hb ho0 ho1
 replace HO_110002 := yVt HO_110002 hb ho0 ho1
 replace HO_119001 := yVt HO_119001 hb ho0 ho1
 replace HO_119002 := yVt HO_119002 hb ho0 ho1
 replace HO_128001 := yVt HO_128001 hb ho0 ho1
 replace HO_128002 := yVt HO_128002 hb ho0 ho1
 replace HO_137001 := yVt HO_137001 hb ho0 ho1
 replace HO_137002 := yVt HO_137002 hb ho0 ho1
 have HO148 := yRl4 ho0 HB GE109 GE118 GE127 GE136
 have HO151 := yRl4 ho1 HB GE109 GE118 GE127 GE136
 replace BK109 := yK BK109 hb
 replace BK118 := yK BK118 hb
 replace BK127 := yK BK127 hb
 replace BK136 := yK BK136 hb
 replace HB := yS4 HB GE109 GE118 GE127 GE136 hb
 (try clear hb)
 (try clear hb2)
 (try clear hk)
 (try clear hi)
 (try clear ho0)
 (try clear ho1)
 obtain ⟨Ao73, co73, eo73⟩ := Kd.R_slice HO148.out
 (first | subst eo73 | (injection eo73 with f1_ f2_ f3_; have f4_ := f1_.symm; have f5_ := f3_.symm; clear f1_ f2_ f3_; subst f4_; subst f5_))
 obtain ⟨Ao74, co74, eo74⟩ := Kd.R_slice HO151.out
 (first | subst eo74 | (injection eo74 with f1_ f2_ f3_; have f4_ := f1_.symm; have f5_ := f3_.symm; clear f1_ f2_ f3_; subst f4_; subst f5_))
 refine hK.out _ _ ⟨(blk_cell BK109.out 0).trans rfl, (blk_cell BK109.out 1).trans rfl, (blk_cell BK109.out 2).trans rfl, (blk_cell BK118.out 0).trans rfl, (blk_cell BK118.out 1).trans rfl, (blk_cell BK118.out 2).trans rfl, (blk_cell BK127.out 0).trans rfl, (blk_cell BK127.out 1).trans rfl, (blk_cell BK127.out 2).trans rfl⟩ (fun hHeld => ?_)
 clear hK K
 refine norm_ (a' := ?_) ?_ ?_
 rotate_left
 · show Act.put _ (some 127) _ = _
   simp only [Act.put, List.setIfInBounds_toArray, List.set_cons_zero, List.set_cons_succ, i64_w, i32_w]
   rfl
 refine one_ (i := 5) (N := some 129) #[true, true, true, true, true, true, true, false, true, false, true, true, true, true, true, true, true, true, true, true, false, true, false, false, false, false] rfl rfl (one_of HT_.out (by kernel_rfl)) (by decide) (fun K hK => ?_)
 refine goes_ Try.func51 (by kernel_rfl) rfl #[.agg #[.bool t145, .slice Ao73 t146.length co73, .slice Ao74 t149.length co74], .agg #[.bool t101, .slice Ao19 t102.length co19, .slice Ao20 t105.length co20]] (by rfl) rfl rfl (by (try simp only [List.map_toArray, List.map_cons, List.map_nil]); first | done | rfl | (simp only [List.length_drop, List.length_take]; rfl)) ?_
 with_reducible refine (codewrightref02_Mul.calls kj14 t145 _ _ t146 _ _ t149 t101 _ _ t102 _ _ t105 t152 t153 t156 _ ?side1 ?side2 ?side3 ?side4 ?side5 ?side6 ?side7 ?side8 A64.out).mono ?_
 (case side1 => exact zC (Kd.R_reads' HO148.out).2.2)
 (case side2 => exact (Kd.R_reads' HO148.out).2.1)
 (case side3 => exact zC (Kd.R_reads' HO151.out).2.2)
 (case side4 => exact (Kd.R_reads' HO151.out).2.1)
 (case side5 => exact zC (Kd.V_reads' HO_110001.out).2.2)
 (case side6 => exact (Kd.V_reads' HO_110001.out).2.1)
 (case side7 => exact zC (Kd.V_reads' HO_110002.out).2.2)
 (case side8 => exact (Kd.V_reads' HO_110002.out).2.1)
 rintro e w75 ⟨v154, v157, rfl, ho0, ho1, hb⟩
 refine ⟨_, rfl, ?_⟩
 replace HO_110001 := yVt HO_110001 hb ho0 ho1
 replace HO_110002 := yVt HO_110002 hb ho0 ho1
 replace HO_119001 := yVt HO_119001 hb ho0 ho1
 replace HO_119002 := yVt HO_119002 hb ho0 ho1
 replace HO_128001 := yVt HO_128001 hb ho0 ho1
 replace HO_128002 := yVt HO_128002 hb ho0 ho1
 replace HO_137001 := yVt HO_137001 hb ho0 ho1
 replace HO_137002 := yVt HO_137002 hb ho0 ho1
 replace ho0 := yn ho0 HO148
 replace ho0 := yn ho0 HO151
 have HO155 := yRl4 ho0 HB GE109 GE118 GE127 GE136
 replace ho1 := yn ho1 HO148
 replace ho1 := yn ho1 HO151
 have HO158 := yRl4 ho1 HB GE109 GE118 GE127 GE136
 replace HO148 := yRt HO148 hb ho0 ho1
 replace HO151 := yRt HO151 hb ho0 ho1
 replace BK109 := yK BK109 hb
 replace BK118 := yK BK118 hb
 replace BK127 := yK BK127 hb
 replace BK136 := yK BK136 hb
 replace HB := yS4 HB GE109 GE118 GE127 GE136 hb
 (try clear hb)
 (try clear hb2)
 (try clear hk)
 (try clear hi)
 (try clear ho0)
 (try clear ho1)
 refine hK.out _ _ ⟨(blk_cell BK109.out 0).trans rfl, (blk_cell BK109.out 1).trans rfl, (blk_cell BK109.out 2).trans rfl, (blk_cell BK118.out 0).trans rfl, (blk_cell BK118.out 1).trans rfl, (blk_cell BK118.out 2).trans rfl, (blk_cell BK127.out 0).trans rfl, (blk_cell BK127.out 1).trans rfl, (blk_cell BK127.out 2).trans rfl⟩ (fun hHeld => ?_)
 clear hK K
 refine norm_ (a' := ?_) ?_ ?_
 rotate_left
 · show Act.put _ (some 129) _ = _
   simp only [Act.put, List.setIfInBounds_toArray, List.set_cons_zero, List.set_cons_succ, i64_w, i32_w]
   rfl
 refine one_ (i := 7) (N := some 131) #[true, true, true, true, true, true, true, true, true, false, true, true, true, true, true, true, true, true, true, true, false, true, false, false, false, false] rfl rfl (one_of HT_.out (by kernel_rfl)) (by decide) (fun K hK => ?_)
 refine goes_ Try.func48 (by kernel_rfl) rfl #[.int .i64 (wrap64 ((wrap64 ((wrap64 ((wrap64 ((wrap64 (a1)) - (wrap64 (a2)))) * (wrap64 ((wrap64 (a0)) - 1)))) + (wrap64 (a2)))) - (wrap64 ((wrap64 (a0)) * (wrap64 (a3))))))] (by rfl) rfl rfl (by (try simp only [List.map_toArray, List.map_cons, List.map_nil]); first | done | rfl | (simp only [List.length_drop, List.length_take]; rfl)) ?_
 with_reducible refine (codewrightref02_Int.calls kj14 (wrap64 ((wrap64 ((wrap64 ((wrap64 ((wrap64 (a1)) - (wrap64 (a2)))) * (wrap64 ((wrap64 (a0)) - 1)))) + (wrap64 (a2)))) - (wrap64 ((wrap64 (a0)) * (wrap64 (a3)))))) t159 t160 t163 _ A65.out).mono ?_
 rintro e w76 ⟨v161, v164, rfl, ho0, ho1, hb⟩
 refine ⟨_, rfl, ?_⟩
 replace HO_110001 := yVt HO_110001 hb ho0 ho1
 replace HO_110002 := yVt HO_110002 hb ho0 ho1
 replace HO_119001 := yVt HO_119001 hb ho0 ho1
 replace HO_119002 := yVt HO_119002 hb ho0 ho1
 replace HO_128001 := yVt HO_128001 hb ho0 ho1
 replace HO_128002 := yVt HO_128002 hb ho0 ho1
 replace HO_137001 := yVt HO_137001 hb ho0 ho1
 replace HO_137002 := yVt HO_137002 hb ho0 ho1
 replace ho0 := yn ho0 HO148
 replace ho0 := yn ho0 HO151
 replace ho0 := yn ho0 HO155
 replace ho0 := yn ho0 HO158
 have HO162 := yRl4 ho0 HB GE109 GE118 GE127 GE136
 replace ho1 := yn ho1 HO148
 replace ho1 := yn ho1 HO151
 replace ho1 := yn ho1 HO155
 replace ho1 := yn ho1 HO158
 have HO165 := yRl4 ho1 HB GE109 GE118 GE127 GE136
 replace HO148 := yRt HO148 hb ho0 ho1
 replace HO151 := yRt HO151 hb ho0 ho1
 replace HO155 := yRt HO155 hb ho0 ho1
 replace HO158 := yRt HO158 hb ho0 ho1
 replace BK109 := yK BK109 hb
 replace BK118 := yK BK118 hb
 replace BK127 := yK BK127 hb
 replace BK136 := yK BK136 hb
 replace HB := yS4 HB GE109 GE118 GE127 GE136 hb
 (try clear hb)
 (try clear hb2)
 (try clear hk)
 (try clear hi)
 (try clear ho0)
 (try clear ho1)
 obtain ⟨Ao77, co77, eo77⟩ := Kd.R_slice HO162.out
 (first | subst eo77 | (injection eo77 with f1_ f2_ f3_; have f4_ := f1_.symm; have f5_ := f3_.symm; clear f1_ f2_ f3_; subst f4_; subst f5_))
 obtain ⟨Ao78, co78, eo78⟩ := Kd.R_slice HO165.out
 (first | subst eo78 | (injection eo78 with f1_ f2_ f3_; have f4_ := f1_.symm; have f5_ := f3_.symm; clear f1_ f2_ f3_; subst f4_; subst f5_))
 refine hK.out _ _ ⟨(blk_cell BK109.out 0).trans rfl, (blk_cell BK109.out 1).trans rfl, (blk_cell BK109.out 2).trans rfl, (blk_cell BK118.out 0).trans rfl, (blk_cell BK118.out 1).trans rfl, (blk_cell BK118.out 2).trans rfl, (blk_cell BK127.out 0).trans rfl, (blk_cell BK127.out 1).trans rfl, (blk_cell BK127.out 2).trans rfl⟩ (fun hHeld => ?_)
 clear hK K
 refine norm_ (a' := ?_) ?_ ?_
 rotate_left
 · show Act.put _ (some 131) _ = _
   simp only [Act.put, List.setIfInBounds_toArray, List.set_cons_zero, List.set_cons_succ, i64_w, i32_w]
   rfl
 refine one_ (i := 9) (N := some 133) #[true, true, true, true, true, true, true, true, true, true, true, true, true, true, true, true, true, true, true, true, false, true, false, false, false, false] rfl rfl (one_of HT_.out (by kernel_rfl)) (by decide) (fun K hK => ?_)
 refine goes_ Try.func51 (by kernel_rfl) rfl #[.agg #[.bool t159, .slice Ao77 t160.length co77, .slice Ao78 t163.length co78], .agg #[.bool t110, .slice Ao25 t111.length co25, .slice Ao26 t114.length co26]] (by rfl) rfl rfl (by (try simp only [List.map_toArray, List.map_cons, List.map_nil]); first | done | rfl | (simp only [List.length_drop, List.length_take]; rfl)) ?_
 with_reducible refine (codewrightref02_Mul.calls kj14 t159 _ _ t160 _ _ t163 t110 _ _ t111 _ _ t114 t166 t167 t170 _ ?side1 ?side2 ?side3 ?side4 ?side5 ?side6 ?side7 ?side8 A66.out).mono ?_
 (case side1 => exact zC (Kd.R_reads' HO162.out).2.2)
 (case side2 => exact (Kd.R_reads' HO162.out).2.1)
 (case side3 => exact zC (Kd.R_reads' HO165.out).2.2)
 (case side4 => exact (Kd.R_reads' HO165.out).2.1)
 (case side5 => exact zC (Kd.V_reads' HO_119001.out).2.2)
 (case side6 => exact (Kd.V_reads' HO_119001.out).2.1)
 (case side7 => exact zC (Kd.V_reads' HO_119002.out).2.2)
 (case side8 => exact (Kd.V_reads' HO_119002.out).2.1)
 rintro e w79 ⟨v168, v171, rfl, ho0, ho1, hb⟩
 refine ⟨_, rfl, ?_⟩
 replace HO_110001 := yVt HO_110001 hb ho0 ho1
 replace HO_110002 := yVt HO_110002 hb ho0 ho1
 replace HO_119001 := yVt HO_119001 hb ho0 ho1
 replace HO_119002 := yVt HO_119002 hb ho0 ho1
 replace HO_128001 := yVt HO_128001 hb ho0 ho1
 replace HO_128002 := yVt HO_128002 hb ho0 ho1
 replace HO_137001 := yVt HO_137001 hb ho0 ho1
 replace HO_137002 := yVt HO_137002 hb ho0 ho1
 replace ho0 := yn ho0 HO148
 replace ho0 := yn ho0 HO151
 replace ho0 := yn ho0 HO155
 replace ho0 := yn ho0 HO158
 replace ho0 := yn ho0 HO162
 replace ho0 := yn ho0 HO165
 have HO169 := yRl4 ho0 HB GE109 GE118 GE127 GE136
 replace ho1 := yn ho1 HO148
 replace ho1 := yn ho1 HO151
 replace ho1 := yn ho1 HO155
 replace ho1 := yn ho1 HO158
 replace ho1 := yn ho1 HO162
 replace ho1 := yn ho1 HO165
 have HO172 := yRl4 ho1 HB GE109 GE118 GE127 GE136
 replace HO148 := yRt HO148 hb ho0 ho1
 replace HO151 := yRt HO151 hb ho0 ho1
 replace HO155 := yRt HO155 hb ho0 ho1
 replace HO158 := yRt HO158 hb ho0 ho1
 replace HO162 := yRt HO162 hb ho0 ho1
 replace HO165 := yRt HO165 hb ho0 ho1
 replace BK109 := yK BK109 hb
 replace BK118 := yK BK118 hb
 replace BK127 := yK BK127 hb
 replace BK136 := yK BK136 hb
 replace HB := yS4 HB GE109 GE118 GE127 GE136 hb
 (try clear hb)
 (try clear hb2)
 (try clear hk)
 (try clear hi)
 (try clear ho0)
 (try clear ho1)
 refine hK.out _ _ ⟨(blk_cell BK109.out 0).trans rfl, (blk_cell BK109.out 1).trans rfl, (blk_cell BK109.out 2).trans rfl, (blk_cell BK118.out 0).trans rfl, (blk_cell BK118.out 1).trans rfl, (blk_cell BK118.out 2).trans rfl, (blk_cell BK127.out 0).trans rfl, (blk_cell BK127.out 1).trans rfl, (blk_cell BK127.out 2).trans rfl⟩ (fun hHeld => ?_)
 clear hK K
 refine norm_ (a' := ?_) ?_ ?_
 rotate_left
 · show Act.put _ (some 133) _ = _
   simp only [Act.put, List.setIfInBounds_toArray, List.set_cons_zero, List.set_cons_succ, i64_w, i32_w]
   rfl
 refine one_ (i := 20) (N := some 144) #[true, true, true, true, true, true, true, true, true, true, true, true, true, true, true, true, true, true, true, true, true, true, false, false, false, false] rfl rfl (one_of HT_.out (by kernel_rfl)) (by decide) (fun K hK => ?_)
 refine goes_ Try.func48 (by kernel_rfl) rfl #[.int .i64 (wrap64 ((wrap64 ((wrap64 (a0)) - 1)) * (wrap64 ((wrap64 ((wrap64 (a1)) - (wrap64 (a2)))) + 1))))] (by rfl) rfl rfl (by (try simp only [List.map_toArray, List.map_cons, List.map_nil]); first | done | rfl | (simp only [List.length_drop, List.length_take]; rfl)) ?_
 with_reducible refine (codewrightref02_Int.calls kj14 (wrap64 ((wrap64 ((wrap64 (a0)) - 1)) * (wrap64 ((wrap64 ((wrap64 (a1)) - (wrap64 (a2)))) + 1)))) t173 t174 t177 _ A67.out).mono ?_
 rintro e w80 ⟨v175, v178, rfl, ho0, ho1, hb⟩
 refine ⟨_, rfl, ?_⟩
 replace HO_110001 := yVt HO_110001 hb ho0 ho1
 replace HO_110002 := yVt HO_110002 hb ho0 ho1
 replace HO_119001 := yVt HO_119001 hb ho0 ho1
 replace HO_119002 := yVt HO_119002 hb ho0 ho1
 replace HO_128001 := yVt HO_128001 hb ho0 ho1
 replace HO_128002 := yVt HO_128002 hb ho0 ho1
 replace HO_137001 := yVt HO_137001 hb ho0 ho1
 replace HO_137002 := yVt HO_137002 hb ho0 ho1
 replace ho0 := yn ho0 HO148
 replace ho0 := yn ho0 HO151
 replace ho0 := yn ho0 HO155
 replace ho0 := yn ho0 HO158
 replace ho0 := yn ho0 HO162
 replace ho0 := yn ho0 HO165
 replace ho0 := yn ho0 HO169
 replace ho0 := yn ho0 HO172
 have HO176 := yRl4 ho0 HB GE109 GE118 GE127 GE136
 replace ho1 := yn ho1 HO148
 replace ho1 := yn ho1 HO151
 replace ho1 := yn ho1 HO155
 replace ho1 := yn ho1 HO158
 replace ho1 := yn ho1 HO162
 replace ho1 := yn ho1 HO165
 replace ho1 := yn ho1 HO169
 replace ho1 := yn ho1 HO172
 have HO179 := yRl4 ho1 HB GE109 GE118 GE127 GE136
 replace HO148 := yRt HO148 hb ho0 ho1
 replace HO151 := yRt HO151 hb ho0 ho1
 replace HO155 := yRt HO155 hb ho0 ho1
 replace HO158 := yRt HO158 hb ho0 ho1
 replace HO162 := yRt HO162 hb ho0 ho1
 replace HO165 := yRt HO165 hb ho0 ho1
 replace HO169 := yRt HO169 hb ho0 ho1
 replace HO172 := yRt HO172 hb ho0 ho1
 replace BK109 := yK BK109 hb
 replace BK118 := yK BK118 hb
 replace BK127 := yK BK127 hb
 replace BK136 := yK BK136 hb
 replace HB := yS4 HB GE109 GE118 GE127 GE136 hb
 (try clear hb)
 (try clear hb2)
 (try clear hk)
 (try clear hi)
 (try clear ho0)
 (try clear ho1)
 obtain ⟨Ao81, co81, eo81⟩ := Kd.R_slice HO176.out
 (first | subst eo81 | (injection eo81 with f1_ f2_ f3_; have f4_ := f1_.symm; have f5_ := f3_.symm; clear f1_ f2_ f3_; subst f4_; subst f5_))
 obtain ⟨Ao82, co82, eo82⟩ := Kd.R_slice HO179.out
 (first | subst eo82 | (injection eo82 with f1_ f2_ f3_; have f4_ := f1_.symm; have f5_ := f3_.symm; clear f1_ f2_ f3_; subst f4_; subst f5_))
 refine hK.out _ _ ⟨(blk_cell BK109.out 0).trans rfl, (blk_cell BK109.out 1).trans rfl, (blk_cell BK109.out 2).trans rfl, (blk_cell BK118.out 0).trans rfl, (blk_cell BK118.out 1).trans rfl, (blk_cell BK118.out 2).trans rfl, (blk_cell BK127.out 0).trans rfl, (blk_cell BK127.out 1).trans rfl, (blk_cell BK127.out 2).trans rfl⟩ (fun hHeld => ?_)
 clear hK K
 refine norm_ (a' := ?_) ?_ ?_
 rotate_left
 · show Act.put _ (some 144) _ = _
   simp only [Act.put, List.setIfInBounds_toArray, List.set_cons_zero, List.set_cons_succ, i64_w, i32_w]
   rfl
 refine one_ (i := 22) (N := some 146) #[true, true, true, true, true, true, true, true, true, true, true, true, true, true, true, true, true, true, true, true, true, true, true, false, false, false] rfl rfl (one_of HT_.out (by kernel_rfl)) (by decide) (fun K hK => ?_)
 refine goes_ Try.func51 (by kernel_rfl) rfl #[.agg #[.bool t173, .slice Ao81 t174.length co81, .slice Ao82 t177.length co82], .agg #[.bool t119, .slice Ao32 t120.length co32, .slice Ao33 t123.length co33]] (by rfl) rfl rfl (by (try simp only [List.map_toArray, List.map_cons, List.map_nil]); first | done | rfl | (simp only [List.length_drop, List.length_take]; rfl)) ?_
 with_reducible refine (codewrightref02_Mul.calls kj14 t173 _ _ t174 _ _ t177 t119 _ _ t120 _ _ t123 t180 t181 t184 _ ?side1 ?side2 ?side3 ?side4 ?side5 ?side6 ?side7 ?side8 A68.out).mono ?_
 (case side1 => exact zC (Kd.R_reads' HO176.out).2.2)
 (case side2 => exact (Kd.R_reads' HO176.out).2.1)
 (case side3 => exact zC (Kd.R_reads' HO179.out).2.2)
 (case side4 => exact (Kd.R_reads' HO179.out).2.1)
 (case side5 => exact zC (Kd.V_reads' HO_128001.out).2.2)
 (case side6 => exact (Kd.V_reads' HO_128001.out).2.1)
 (case side7 => exact zC (Kd.V_reads' HO_128002.out).2.2)
 (case side8 => exact (Kd.V_reads' HO_128002.out).2.1)
 rintro e w83 ⟨v182, v185, rfl, ho0, ho1, hb⟩
 refine ⟨_, rfl, ?_⟩
 replace HO_110001 := yVt HO_110001 hb ho0 ho1
 replace HO_110002 := yVt HO_110002 hb ho0 ho1
 replace HO_119001 := yVt HO_119001 hb ho0 ho1
 replace HO_119002 := yVt HO_119002 hb ho0 ho1
 replace HO_128001 := yVt HO_128001 hb ho0 ho1
 replace HO_128002 := yVt HO_128002 hb ho0 ho1
 replace HO_137001 := yVt HO_137001 hb ho0 ho1
 replace HO_137002 := yVt HO_137002 hb ho0 ho1
 replace ho0 := yn ho0 HO148
 replace ho0 := yn ho0 HO151
 replace ho0 := yn ho0 HO155
 replace ho0 := yn ho0 HO158
 replace ho0 := yn ho0 HO162
 replace ho0 := yn ho0 HO165
 replace ho0 := yn ho0 HO169
 replace ho0 := yn ho0 HO172
 replace ho0 := yn ho0 HO176
 replace ho0 := yn ho0 HO179
 have HO183 := yRl4 ho0 HB GE109 GE118 GE127 GE136
 replace ho1 := yn ho1 HO148
 replace ho1 := yn ho1 HO151
 replace ho1 := yn ho1 HO155
 replace ho1 := yn ho1 HO158
 replace ho1 := yn ho1 HO162
 replace ho1 := yn ho1 HO165
 replace ho1 := yn ho1 HO169
 replace ho1 := yn ho1 HO172
 replace ho1 := yn ho1 HO176
 replace ho1 := yn ho1 HO179
 have HO186 := yRl4 ho1 HB GE109 GE118 GE127 GE136
 replace HO148 := yRt HO148 hb ho0 ho1
 replace HO151 := yRt HO151 hb ho0 ho1
 replace HO155 := yRt HO155 hb ho0 ho1
 replace HO158 := yRt HO158 hb ho0 ho1
 replace HO162 := yRt HO162 hb ho0 ho1
 replace HO165 := yRt HO165 hb ho0 ho1
 replace HO169 := yRt HO169 hb ho0 ho1
 replace HO172 := yRt HO172 hb ho0 ho1
 replace HO176 := yRt HO176 hb ho0 ho1
 replace HO179 := yRt HO179 hb ho0 ho1
 replace BK109 := yK BK109 hb
 replace BK118 := yK BK118 hb
 replace BK127 := yK BK127 hb
 replace BK136 := yK BK136 hb
 replace HB := yS4 HB GE109 GE118 GE127 GE136 hb
 (try clear hb)
 (try clear hb2)
 (try clear hk)
 (try clear hi)
 (try clear ho0)
 (try clear ho1)
 obtain ⟨Ao84, co84, eo84⟩ := Kd.R_slice HO169.out
 (first | subst eo84 | (injection eo84 with f1_ f2_ f3_; have f4_ := f1_.symm; have f5_ := f3_.symm; clear f1_ f2_ f3_; subst f4_; subst f5_))
 obtain ⟨Ao85, co85, eo85⟩ := Kd.R_slice HO172.out
 (first | subst eo85 | (injection eo85 with f1_ f2_ f3_; have f4_ := f1_.symm; have f5_ := f3_.symm; clear f1_ f2_ f3_; subst f4_; subst f5_))
 obtain ⟨Ao86, co86, eo86⟩ := Kd.R_slice HO183.out
 (first | subst eo86 | (injection eo86 with f1_ f2_ f3_; have f4_ := f1_.symm; have f5_ := f3_.symm; clear f1_ f2_ f3_; subst f4_; subst f5_))
 obtain ⟨Ao87, co87, eo87⟩ := Kd.R_slice HO186.out
 (first | subst eo87 | (injection eo87 with f1_ f2_ f3_; have f4_ := f1_.symm; have f5_ := f3_.symm; clear f1_ f2_ f3_; subst f4_; subst f5_))
 refine hK.out _ _ ⟨(blk_cell BK109.out 0).trans rfl, (blk_cell BK109.out 1).trans rfl, (blk_cell BK109.out 2).trans rfl, (blk_cell BK118.out 0).trans rfl, (blk_cell BK118.out 1).trans rfl, (blk_cell BK118.out 2).trans rfl, (blk_cell BK127.out 0).trans rfl, (blk_cell BK127.out 1).trans rfl, (blk_cell BK127.out 2).trans rfl⟩ (fun hHeld => ?_)
 clear hK K
 refine norm_ (a' := ?_) ?_ ?_
 rotate_left
 · show Act.put _ (some 146) _ = _
   simp only [Act.put, List.setIfInBounds_toArray, List.set_cons_zero, List.set_cons_succ, i64_w, i32_w]
   rfl
 refine one_ (i := 23) (N := some 147) #[true, true, true, true, true, true, true, true, true, true, true, true, true, true, true, true, true, true, true, true, true, true, true, true, false, false] rfl rfl (one_of HT_.out (by kernel_rfl)) (by decide) (fun K hK => ?_)
 refine goes_ Try.func56 (by kernel_rfl) rfl #[.agg #[.bool t166, .slice Ao84 t167.length co84, .slice Ao85 t170.length co85], .agg #[.bool t180, .slice Ao86 t181.length co86, .slice Ao87 t184.length co87]] (by rfl) rfl rfl (by (try simp only [List.map_toArray, List.map_cons, List.map_nil]); first | done | rfl | (simp only [List.length_drop, List.length_take]; rfl)) ?_
 with_reducible refine (codewrightref02_Sub.calls kj14 t166 _ _ t167 _ _ t170 t180 _ _ t181 _ _ t184 t187 t188 t191 _ ?side1 ?side2 ?side3 ?side4 ?side5 ?side6 ?side7 ?side8 A69.out).mono ?_
 (case side1 => exact zC (Kd.R_reads' HO169.out).2.2)
 (case side2 => exact (Kd.R_reads' HO169.out).2.1)
 (case side3 => exact zC (Kd.R_reads' HO172.out).2.2)
 (case side4 => exact (Kd.R_reads' HO172.out).2.1)
 (case side5 => exact zC (Kd.R_reads' HO183.out).2.2)
 (case side6 => exact (Kd.R_reads' HO183.out).2.1)
 (case side7 => exact zC (Kd.R_reads' HO186.out).2.2)
 (case side8 => exact (Kd.R_reads' HO186.out).2.1)
 rintro e w88 ⟨v189, v192, rfl, ho0, ho1, hb⟩
 refine ⟨_, rfl, ?_⟩
 replace HO_110001 := yVt HO_110001 hb ho0 ho1
 replace HO_110002 := yVt HO_110002 hb ho0 ho1
 replace HO_119001 := yVt HO_119001 hb ho0 ho1
 replace HO_119002 := yVt HO_119002 hb ho0 ho1
 replace HO_128001 := yVt HO_128001 hb ho0 ho1
 replace HO_128002 := yVt HO_128002 hb ho0 ho1
 replace HO_137001 := yVt HO_137001 hb ho0 ho1
 replace HO_137002 := yVt HO_137002 hb ho0 ho1
 replace ho0 := yn ho0 HO148
 replace ho0 := yn ho0 HO151
 replace ho0 := yn ho0 HO155
 replace ho0 := yn ho0 HO158
 replace ho0 := yn ho0 HO162
 replace ho0 := yn ho0 HO165
 replace ho0 := yn ho0 HO169
 replace ho0 := yn ho0 HO172
 replace ho0 := yn ho0 HO176
 replace ho0 := yn ho0 HO179
 replace ho0 := yn ho0 HO183
 replace ho0 := yn ho0 HO186
 have HO190 := yRl4 ho0 HB GE109 GE118 GE127 GE136
 replace ho1 := yn ho1 HO148
 replace ho1 := yn ho1 HO151
 replace ho1 := yn ho1 HO155
 replace ho1 := yn ho1 HO158
 replace ho1 := yn ho1 HO162
 replace ho1 := yn ho1 HO165
 replace ho1 := yn ho1 HO169
 replace ho1 := yn ho1 HO172
 replace ho1 := yn ho1 HO176
 replace ho1 := yn ho1 HO179
 replace ho1 := yn ho1 HO183
 replace ho1 := yn ho1 HO186
 have HO193 := yRl4 ho1 HB GE109 GE118 GE127 GE136
 replace HO148 := yRt HO148 hb ho0 ho1
 replace HO151 := yRt HO151 hb ho0 ho1
 replace HO155 := yRt HO155 hb ho0 ho1
 replace HO158 := yRt HO158 hb ho0 ho1
 replace HO162 := yRt HO162 hb ho0 ho1
 replace HO165 := yRt HO165 hb ho0 ho1
 replace HO169 := yRt HO169 hb ho0 ho1
 replace HO172 := yRt HO172 hb ho0 ho1
 replace HO176 := yRt HO176 hb ho0 ho1
 replace HO179 := yRt HO179 hb ho0 ho1
 replace HO183 := yRt HO183 hb ho0 ho1
 replace HO186 := yRt HO186 hb ho0 ho1
 replace BK109 := yK BK109 hb
 replace BK118 := yK BK118 hb
 replace BK127 := yK BK127 hb
 replace BK136 := yK BK136 hb
 replace HB := yS4 HB GE109 GE118 GE127 GE136 hb
 (try clear hb)
 (try clear hb2)
 (try clear hk)
 (try clear hi)
 (try clear ho0)
 (try clear ho1)
 obtain ⟨Ao89, co89, eo89⟩ := Kd.R_slice HO155.out
 (first | subst eo89 | (injection eo89 with f1_ f2_ f3_; have f4_ := f1_.symm; have f5_ := f3_.symm; clear f1_ f2_ f3_; subst f4_; subst f5_))
 obtain ⟨Ao90, co90, eo90⟩ := Kd.R_slice HO158.out
 (first | subst eo90 | (injection eo90 with f1_ f2_ f3_; have f4_ := f1_.symm; have f5_ := f3_.symm; clear f1_ f2_ f3_; subst f4_; subst f5_))
 obtain ⟨Ao91, co91, eo91⟩ := Kd.R_slice HO190.out
 (first | subst eo91 | (injection eo91 with f1_ f2_ f3_; have f4_ := f1_.symm; have f5_ := f3_.symm; clear f1_ f2_ f3_; subst f4_; subst f5_))
 obtain ⟨Ao92, co92, eo92⟩ := Kd.R_slice HO193.out
 (first | subst eo92 | (injection eo92 with f1_ f2_ f3_; have f4_ := f1_.symm; have f5_ := f3_.symm; clear f1_ f2_ f3_; subst f4_; subst f5_))
 refine hK.out _ _ ⟨(blk_cell BK109.out 0).trans rfl, (blk_cell BK109.out 1).trans rfl, (blk_cell BK109.out 2).trans rfl, (blk_cell BK118.out 0).trans rfl, (blk_cell BK118.out 1).trans rfl, (blk_cell BK118.out 2).trans rfl, (blk_cell BK127.out 0).trans rfl, (blk_cell BK127.out 1).trans rfl, (blk_cell BK127.out 2).trans rfl⟩ (fun hHeld => ?_)
 clear hK K
 refine norm_ (a' := ?_) ?_ ?_
 rotate_left
 · show Act.put _ (some 147) _ = _
   simp only [Act.put, List.setIfInBounds_toArray, List.set_cons_zero, List.set_cons_succ, i64_w, i32_w]
   rfl
 refine one_ (i := 24) (N := some 148) #[true, true, true, true, true, true, true, true, true, true, true, true, true, true, true, true, true, true, true, true, true, true, true, true, true, false] rfl rfl (one_of HT_.out (by kernel_rfl)) (by decide) (fun K hK => ?_)
 refine goes_ Try.func45 (by kernel_rfl) rfl #[.agg #[.bool t152, .slice Ao89 t153.length co89, .slice Ao90 t156.length co90], .agg #[.bool t187, .slice Ao91 t188.length co91, .slice Ao92 t191.length co92]] (by rfl) rfl rfl (by (try simp only [List.map_toArray, List.map_cons, List.map_nil]); first | done | rfl | (simp only [List.length_drop, List.length_take]; rfl)) ?_
 with_reducible refine (codewrightref02_Same.calls kj14 t152 _ _ t153 _ _ t156 t187 _ _ t188 _ _ t191 t194 _ ?side1 ?side2 ?side3 ?side4 ?side5 ?side6 ?side7 ?side8 A70.out).mono ?_
 (case side1 => exact zC (Kd.R_reads' HO155.out).2.2)
 (case side2 => exact (Kd.R_reads' HO155.out).2.1)
 (case side3 => exact zC (Kd.R_reads' HO158.out).2.2)
 (case side4 => exact (Kd.R_reads' HO158.out).2.1)
 (case side5 => exact zC (Kd.R_reads' HO190.out).2.2)
 (case side6 => exact (Kd.R_reads' HO190.out).2.1)
 (case side7 => exact zC (Kd.R_reads' HO193.out).2.2)
 (case side8 => exact (Kd.R_reads' HO193.out).2.1)
 rintro e w93 ⟨rfl, hb⟩
 refine ⟨_, rfl, ?_⟩
 replace HO_110001 := yVb HO_110001 hb
 replace HO_110002 := yVb HO_110002 hb
 replace HO_119001 := yVb HO_119001 hb
 replace HO_119002 := yVb HO_119002 hb
 replace HO_128001 := yVb HO_128001 hb
 replace HO_128002 := yVb HO_128002 hb
 replace HO_137001 := yVb HO_137001 hb
 replace HO_137002 := yVb HO_137002 hb
 replace HO148 := yRb HO148 hb
 replace HO151 := yRb HO151 hb
 replace HO155 := yRb HO155 hb
 replace HO158 := yRb HO158 hb
 replace HO162 := yRb HO162 hb
 replace HO165 := yRb HO165 hb
 replace HO169 := yRb HO169 hb
 replace HO172 := yRb HO172 hb
 replace HO176 := yRb HO176 hb
 replace HO179 := yRb HO179 hb
 replace HO183 := yRb HO183 hb
 replace HO186 := yRb HO186 hb
 replace HO190 := yRb HO190 hb
 replace HO193 := yRb HO193 hb
 replace BK109 := yK BK109 hb
 replace BK118 := yK BK118 hb
 replace BK127 := yK BK127 hb
 replace BK136 := yK BK136 hb
 replace HB := yS4 HB GE109 GE118 GE127 GE136 hb
 (try clear hb)
 (try clear hb2)
 (try clear hk)
 (try clear hi)
 refine hK.out _ _ ⟨(blk_cell BK109.out 0).trans rfl, (blk_cell BK109.out 1).trans rfl, (blk_cell BK109.out 2).trans rfl, (blk_cell BK118.out 0).trans rfl, (blk_cell BK118.out 1).trans rfl, (blk_cell BK118.out 2).trans rfl, (blk_cell BK127.out 0).trans rfl, (blk_cell BK127.out 1).trans rfl, (blk_cell BK127.out 2).trans rfl⟩ (fun hHeld => ?_)
 clear hK K
 refine norm_ (a' := ?_) ?_ ?_
 rotate_left
 · show Act.put _ (some 148) _ = _
   simp only [Act.put, List.setIfInBounds_toArray, List.set_cons_zero, List.set_cons_succ, i64_w, i32_w]
   rfl
 refine zp (i := 25) (N := some 8) HT_ ?_
 refine done_ (done_of HT_.out (by kernel_rfl)) ?_
 try go_wp2
 go_ret
 exact ⟨zE, zB4 HB.out GE109.out GE118.out GE127.out GE136.out⟩
def codewrightlaw24_MacwilliamsRecurrence.Pure : Prop := ∀ (a0 : Int) (a1 : Int) (a2 : Int) (a3 : Int), (Lit.int .u8 a0).wf = true → (Lit.int .u8 a1).wf = true → (Lit.int .u8 a2).wf = true → (Lit.int .u8 a3).wf = true → ∃ k, codewrightlaw24_MacwilliamsRecurrence.f k a0 a1 a2 a3 = some true
theorem codewrightlaw24_MacwilliamsRecurrence.walk (P : codewrightlaw24_MacwilliamsRecurrence.Pure) (a0 : Int) (a1 : Int) (a2 : Int) (a3 : Int) (w : World) (w0 : (Lit.int .u8 a0).wf = true) (w1 : (Lit.int .u8 a1).wf = true) (w2 : (Lit.int .u8 a2).wf = true) (w3 : (Lit.int .u8 a3).wf = true) :
    Calls Try.prog 13 #[.int .u8 a0, .int .u8 a1, .int .u8 a2, .int .u8 a3] w fun e w' => e = .returned (.bool true) ∧ Below w.heap.size w w' := by
  obtain ⟨k, h⟩ := P a0 a1 a2 a3 w0 w1 w2 w3
  refine (codewrightlaw24_MacwilliamsRecurrence.calls k a0 a1 a2 a3 true w h).mono ?_
  rintro e w' ⟨rfl, hd⟩
  exact ⟨rfl, hd⟩
end Go.Proofs.Ytifkbghnmhineaa.PAll
section
set_option linter.unusedVariables false
set_option linter.unusedSimpArgs false
namespace Mw
open Go Go.RowKit Go.Proofs.YtifkbghnmhineaaW.PrintWords
def Ev {α : Type} (g : Nat → Option α) (r : α) : Prop := ∃ K, ∀ k, K ≤ k → g k = some r
theorem Ev.some {α : Type} (r : α) : Ev (fun _ => some r) r := ⟨0, fun _ _ => rfl⟩
theorem Ev.succ {α : Type} {g : Nat → Option α} {r : α} (h : Ev (fun k => g (k + 1)) r) : Ev g r := by
  obtain ⟨K, h⟩ := h
  refine ⟨K + 1, fun k hk => ?_⟩
  obtain ⟨m, rfl⟩ : ∃ m, k = m + 1 := ⟨k - 1, by omega⟩
  exact h m (by omega)
theorem Ev.bind {α β : Type} {g : Nat → Option α} {f : Nat → α → Option β} {a : α} {r : β} (hg : Ev g a) (hf : Ev (fun k => f k a) r) : Ev (fun k => (g k).bind (f k)) r := by
  obtain ⟨K, hg⟩ := hg
  obtain ⟨L, hf⟩ := hf
  refine ⟨K + L, fun k hk => ?_⟩
  show (g k).bind (f k) = _
  rw [hg k (by omega)]
  exact hf k (by omega)
theorem Ev.cast {α : Type} {g : Nat → Option α} {r s : α} (h : Ev g r) (e : r = s) : Ev g s := e ▸ h
theorem Ev.get {α : Type} {g : Nat → Option α} {r : α} (h : Ev g r) : ∃ k, g k = Option.some r := by
  obtain ⟨K, h⟩ := h
  exact ⟨K, h K (Nat.le_refl K)⟩
theorem w64 {x : Int} (h0 : -9223372036854775808 ≤ x) (h1 : x ≤ 9223372036854775807) : wrap64 x = x := by unfold wrap64; omega
theorem wn {x : Int} {n : Nat} (h : x = (n : Int)) (hn : n < 9223372036854775808) : wrap64 x = (n : Int) := by subst h; exact w64 (by omega) (by omega)
theorem u64w {x : Int} (h0 : 0 ≤ x) (h1 : x < 18446744073709551616) : IntKind.u64.wrap x = x := by
  simp [IntKind.wrap, IntKind.bits, IntKind.signed]; omega
theorem u64m (x : Int) : IntKind.u64.wrap x = x % 18446744073709551616 := by
  simp [IntKind.wrap, IntKind.bits, IntKind.signed]
def bp : Nat → Nat
  | 0 => 1
  | n + 1 => 4294967296 * bp n
theorem bp_pos : ∀ n, 0 < bp n
  | 0 => by decide
  | n + 1 => by have := bp_pos n; simp only [bp]; omega
theorem bp_mono : ∀ {m n : Nat}, m ≤ n → bp m ≤ bp n := by
  intro m n h
  induction n with
  | zero => have : m = 0 := by omega
            subst this; exact Nat.le_refl _
  | succ n ih =>
    by_cases e : m = n + 1
    · subst e; exact Nat.le_refl _
    · have := ih (by omega); simp only [bp]; omega
theorem bp_add : ∀ (m n : Nat), bp (m + n) = bp m * bp n
  | m, 0 => by simp [bp]
  | m, n + 1 => by rw [← Nat.add_assoc, bp, bp, bp_add m n, Nat.mul_left_comm]
def lv : List Int → Int
  | [] => 0
  | a :: l => a + 4294967296 * lv l
def Lm (l : List Int) : Prop := ∀ x ∈ l, 0 ≤ x ∧ x < 4294967296
def dg (n : Nat) : List Int := if n = 0 then [] else ((n % 4294967296 : Nat) : Int) :: dg (n / 4294967296)
termination_by n
decreasing_by omega
theorem dg_zero : dg 0 = [] := by rw [dg]; rfl
theorem dg_pos {n : Nat} (h : n ≠ 0) : dg n = ((n % 4294967296 : Nat) : Int) :: dg (n / 4294967296) := by rw [dg, if_neg h]
theorem lv_dg : ∀ n : Nat, lv (dg n) = n := by
  intro n
  induction n using Nat.strongRecOn with
  | _ n ih =>
    by_cases h : n = 0
    · subst h; rw [dg_zero]; rfl
    · rw [dg_pos h, lv, ih _ (by omega)]; omega
theorem lm_nil : Lm [] := by intro x hx; simp at hx
theorem lm_cons {a : Int} {l : List Int} : Lm (a :: l) ↔ (0 ≤ a ∧ a < 4294967296) ∧ Lm l := by
  constructor
  · intro h; exact ⟨h a (by simp), fun x hx => h x (by simp [hx])⟩
  · intro h x hx
    exact (List.mem_cons.mp hx).elim (fun e => e ▸ h.1) (fun e => h.2 x e)
theorem lm_dg : ∀ n : Nat, Lm (dg n) := by
  intro n
  induction n using Nat.strongRecOn with
  | _ n ih =>
    by_cases h : n = 0
    · subst h; rw [dg_zero]; exact lm_nil
    · rw [dg_pos h, lm_cons]; exact ⟨by omega, ih _ (by omega)⟩
theorem lv_nonneg : ∀ {l : List Int}, Lm l → 0 ≤ lv l
  | [], _ => Int.le_refl 0
  | a :: l, h => by have := lv_nonneg (lm_cons.mp h).2; have := (lm_cons.mp h).1; simp only [lv]; omega
theorem lv_lt : ∀ {l : List Int}, Lm l → lv l < bp l.length
  | [], _ => by simp [lv, bp]
  | a :: l, h => by
    have h1 := lv_lt (lm_cons.mp h).2
    have h2 := (lm_cons.mp h).1
    simp only [lv, List.length_cons, bp]
    omega
theorem lv_append : ∀ (l m : List Int), lv (l ++ m) = lv l + (bp l.length : Int) * lv m
  | [], m => by simp [lv, bp]
  | a :: l, m => by
    simp only [List.cons_append, lv, List.length_cons, bp, Int.natCast_mul]
    rw [lv_append l m, Int.mul_add, Int.mul_assoc]
    omega
theorem lv_rep : ∀ n : Nat, lv (List.replicate n 0) = 0
  | 0 => rfl
  | n + 1 => by rw [List.replicate_succ, lv, lv_rep n]; rfl
theorem lm_rep (n : Nat) : Lm (List.replicate n 0) := by
  intro x hx; rw [(List.mem_replicate.mp hx).2]; omega
theorem dg_lv : ∀ {l : List Int}, Lm l → (∀ h : l ≠ [], l.getLast h ≠ 0) → dg (lv l).toNat = l
  | [], _, _ => by simp only [lv]; exact dg_zero
  | a :: l, h, hl => by
    have h1 := lm_cons.mp h
    have h0 := lv_nonneg h1.2
    have ih : l ≠ [] → dg (lv l).toNat = l := fun hne => dg_lv h1.2 (fun hh => by
      have := hl (by simp)
      rwa [List.getLast_cons hh] at this)
    by_cases hne : l = []
    · subst hne
      have ha := hl (by simp)
      simp only [List.getLast_singleton] at ha
      simp only [lv]
      rw [dg_pos (by omega), show (a + 4294967296 * 0).toNat / 4294967296 = 0 by omega, dg_zero]
      congr 1
      omega
    · have ih := ih hne
      have hpos : lv l ≠ 0 := by
        intro e
        rw [e] at ih
        rw [show (0 : Int).toNat = 0 from rfl, dg_zero] at ih
        exact hne ih.symm
      simp only [lv]
      rw [dg_pos (by omega), show (a + 4294967296 * lv l).toNat / 4294967296 = (lv l).toNat by omega, ih]
      congr 1
      omega
theorem dg_last : ∀ (n : Nat) (h : dg n ≠ []), (dg n).getLast h ≠ 0 := by
  intro n
  induction n using Nat.strongRecOn with
  | _ n ih =>
    intro h
    by_cases h0 : n = 0
    · subst h0; exact absurd dg_zero h
    · have e := dg_pos h0
      by_cases hd : n / 4294967296 = 0
      · rw [hd, dg_zero] at e
        simp only [e, List.getLast_singleton]
        omega
      · have hne : dg (n / 4294967296) ≠ [] := by rw [dg_pos hd]; simp
        have := ih (n / 4294967296) (by omega) hne
        simp only [e]
        rw [List.getLast_cons hne]
        exact this
theorem dg_inj {m n : Nat} (h : dg m = dg n) : m = n := by
  have := lv_dg m
  rw [h, lv_dg] at this
  omega
theorem dg_len_le {n m : Nat} (h : n < bp m) : (dg n).length ≤ m := by
  induction m generalizing n with
  | zero => have : n = 0 := by simp only [bp] at h; omega
            subst this; rw [dg_zero]; simp
  | succ m ih =>
    by_cases h0 : n = 0
    · subst h0; rw [dg_zero]; simp
    · rw [dg_pos h0, List.length_cons]
      have := ih (n := n / 4294967296) (by simp only [bp] at h; omega)
      omega
theorem dg_lt_len (n : Nat) : n < bp (dg n).length := by
  have h := lv_lt (lm_dg n)
  rw [lv_dg] at h
  omega
theorem dg_len_zero {n : Nat} : (dg n).length = 0 ↔ n = 0 := by
  constructor
  · intro h
    by_cases h0 : n = 0
    · exact h0
    · rw [dg_pos h0] at h; simp at h
  · intro h; subst h; rw [dg_zero]; rfl
theorem dg_len_mono {m n : Nat} (h : m ≤ n) : (dg m).length ≤ (dg n).length := dg_len_le (Nat.lt_of_le_of_lt h (dg_lt_len n))
theorem dg_small {n : Nat} (h0 : n ≠ 0) (h : n < 4294967296) : dg n = [(n : Int)] := by
  rw [dg_pos h0, show n / 4294967296 = 0 by omega, dg_zero, show n % 4294967296 = n by omega]
theorem dg_one : dg 1 = [1] := dg_small (by decide) (by decide)
theorem lv_le_of_len {l : List Int} (h : Lm l) {m : Nat} (hm : l.length ≤ m) : (lv l).toNat < bp m := by
  have h1 := lv_lt h
  have h2 := bp_mono hm
  have h3 := lv_nonneg h
  omega
theorem rd_lt {l : List Int} {i : Nat} (h : i < l.length) : rd l (i : Int) = l[i] := by
  unfold rd
  simp [List.getD_eq_getElem?_getD, h]
theorem rd_ge {l : List Int} {i : Nat} (h : l.length ≤ i) : rd l (i : Int) = 0 := by
  unfold rd
  simp [List.getD_eq_getElem?_getD, h]
theorem rd_lm {l : List Int} (hl : Lm l) (i : Int) : 0 ≤ rd l i ∧ rd l i < 4294967296 := by
  unfold rd
  rw [List.getD_eq_getElem?_getD]
  by_cases h : i.toNat < l.length
  · rw [List.getElem?_eq_getElem h]
    exact hl _ (List.getElem_mem h)
  · rw [List.getElem?_eq_none (by omega)]; simp
theorem take_succ_rd {l : List Int} {i : Nat} (h : i < l.length) : l.take (i + 1) = l.take i ++ [rd l (i : Int)] := by
  rw [List.take_succ_eq_append_getElem h, rd_lt h]
theorem lv_take_succ {l : List Int} {i : Nat} (h : i < l.length) : lv (l.take (i + 1)) = lv (l.take i) + (bp i : Int) * rd l (i : Int) := by
  rw [take_succ_rd h, lv_append, List.length_take, Nat.min_eq_left (by omega)]
  simp [lv]
theorem lv_set : ∀ {l : List Int} {i : Nat} (v : Int), i < l.length → lv (l.set i v) = lv l + (bp i : Int) * (v - rd l (i : Int))
  | [], i, v, h => by simp at h
  | a :: l, 0, v, _ => by
    rw [show ((0 : Nat) : Int) = ((0 : Nat) : Int) from rfl, rd_lt (by simp)]
    simp only [List.set_cons_zero, lv, List.getElem_cons_zero, bp]; omega
  | a :: l, i + 1, v, h => by
    have h' : i < l.length := by simpa using h
    have ih := lv_set v h'
    rw [rd_lt h'] at ih
    rw [rd_lt h]
    simp only [List.set_cons_succ, lv, List.getElem_cons_succ, bp, Int.natCast_mul]
    rw [ih, Int.mul_add, Int.mul_assoc]
    omega
theorem lm_set {l : List Int} {i : Nat} {v : Int} (h : Lm l) (h0 : 0 ≤ v) (h1 : v < 4294967296) : Lm (l.set i v) := by
  intro x hx
  rcases List.mem_or_eq_of_mem_set hx with e | e
  · exact h x e
  · subst e; exact ⟨h0, h1⟩
theorem rd_set_ne {l : List Int} {i j : Nat} (v : Int) (h : i ≠ j) : rd (l.set i v) (j : Int) = rd l (j : Int) := by
  unfold rd
  simp [List.getD_eq_getElem?_getD, h]
theorem lm_take {l : List Int} (h : Lm l) (n : Nat) : Lm (l.take n) := fun x hx => h x (List.mem_of_mem_take hx)
theorem lm_append {l m : List Int} (h1 : Lm l) (h2 : Lm m) : Lm (l ++ m) := by
  intro x hx
  rcases List.mem_append.mp hx with e | e
  · exact h1 x e
  · exact h2 x e
theorem dg_take {l : List Int} (h : Lm l) {n : Nat} (hn : n ≤ l.length) (hz : ∀ i : Nat, n ≤ i → i < l.length → rd l (i : Int) = 0) (hl : n = 0 ∨ rd l ((n - 1 : Nat) : Int) ≠ 0) :
    l.take n = dg (lv l).toNat := by
  have hv : lv l = lv (l.take n) := by
    have : ∀ m : Nat, n + m ≤ l.length → lv (l.take (n + m)) = lv (l.take n) := by
      intro m
      induction m with
      | zero => intro _; rfl
      | succ m ih =>
        intro hm
        rw [← Nat.add_assoc, lv_take_succ (by omega), hz (n + m) (by omega) (by omega), ih (by omega)]; simp
    have := this (l.length - n) (by omega)
    rw [show n + (l.length - n) = l.length by omega, List.take_of_length_le (Nat.le_refl _)] at this
    exact this
  rw [hv]
  symm
  refine dg_lv (lm_take h n) (fun hne => ?_)
  rcases hl with e | e
  · subst e; simp at hne
  · rw [List.getLast_eq_getElem]
    simp only [List.length_take, Nat.min_eq_left hn]
    have hp : n ≠ 0 := by intro e0; subst e0; simp at hne
    rw [List.getElem_take]
    rw [rd_lt (by omega)] at e
    exact e
theorem lv_nil : lv [] = 0 := rfl
theorem lv_cons (a : Int) (l : List Int) : lv (a :: l) = a + 4294967296 * lv l := rfl
theorem bp_zero : bp 0 = 1 := rfl
theorem bp_succ (n : Nat) : bp (n + 1) = 4294967296 * bp n := rfl
attribute [irreducible] lv bp
end Mw
end
section
set_option linter.unusedVariables false
set_option linter.unusedSimpArgs false
namespace Mw
open Go Go.RowKit Go.Proofs.YtifkbghnmhineaaW.PrintWords Go.Proofs.YtifkbghnmhineaaW.PrintLast Go.Proofs.YtifkbghnmhineaaW.PrintMore Go.Proofs.Ytifkbghnmhineaa.PAll
theorem short_loop {l : List Int} (hl : Lm l) (hlen : l.length < 1099511627776) : ∀ n : Nat, n ≤ l.length → (∀ i : Nat, n ≤ i → i < l.length → rd l (i : Int) = 0) →
    Ev (fun k => nat_short.l0 k l (n : Int)) (dg (lv l).toNat) := by
  intro n
  induction n with
  | zero =>
    intro hn hz
    refine Ev.succ ?_
    simp only [nat_short.l0, if_neg (show ¬ ((0 : Nat) : Int) > 0 by omega), if_pos (show (0 : Int) ≤ ((0 : Nat) : Int) by omega), if_pos (show ((0 : Nat) : Int) ≤ (l.length : Int) by omega)]
    refine Ev.cast (Ev.some _) ?_
    rw [show (((0 : Nat) : Int)).toNat = 0 from rfl]
    exact dg_take hl hn hz (.inl rfl)
  | succ n ih =>
    intro hn hz
    refine Ev.succ ?_
    have e : wrap64 (((n + 1 : Nat) : Int) - 1) = (n : Int) := by rw [w64 (by omega) (by omega)]; omega
    by_cases h : rd l (n : Int) = 0
    · simp only [nat_short.l0, e, if_pos (show ((n + 1 : Nat) : Int) > 0 by omega), if_pos (show (0 : Int) ≤ (n : Int) by omega), if_pos (show (n : Int) < (l.length : Int) by omega), if_pos h]
      exact ih (by omega) (fun i h1 h2 => by
        by_cases e2 : i = n
        · subst e2; exact h
        · exact hz i (by omega) h2)
    · simp only [nat_short.l0, e, if_pos (show ((n + 1 : Nat) : Int) > 0 by omega), if_pos (show (0 : Int) ≤ (n : Int) by omega), if_pos (show (n : Int) < (l.length : Int) by omega), if_neg h, if_pos (show (0 : Int) ≤ ((n + 1 : Nat) : Int) by omega), if_pos (show ((n + 1 : Nat) : Int) ≤ (l.length : Int) by omega)]
      refine Ev.cast (Ev.some _) ?_
      rw [show (((n + 1 : Nat) : Int)).toNat = n + 1 by omega]
      exact dg_take hl hn hz (.inr h)
theorem short_ev {l : List Int} (hl : Lm l) (hlen : l.length < 1099511627776) : Ev (fun k => nat_short.f k l) (dg (lv l).toNat) := by
  simp only [nat_short.f]
  exact short_loop hl hlen l.length (Nat.le_refl _) (fun i h1 h2 => by omega)
theorem dg_len_of {l : List Int} (hl : Lm l) : (dg (lv l).toNat).length ≤ l.length := dg_len_le (lv_le_of_len hl (Nat.le_refl _))
theorem trim_ev {l : List Int} (hl : Lm l) (hlen : l.length < 1099511627776) : Ev (fun k => nat_Trim.f k l) (dg (lv l).toNat) := by
  simp only [nat_Trim.f]
  refine Ev.bind (short_ev hl hlen) ?_
  have := dg_len_of hl
  simp only [List.length_nil, List.nil_append, if_pos (show 0 + (dg (lv l).toNat).length < 35184372088832 by omega)]
  exact Ev.some _
theorem of_ev {n : Nat} (hn : n < 18446744073709551616) : Ev (fun k => nat_Of.f k (n : Int)) (dg n) := by
  simp only [nat_Of.f]
  have hl : Lm [(n : Int) % 4294967296, ((n : Int) / 4294967296) % 4294967296] := by
    rw [lm_cons, lm_cons]
    exact ⟨by omega, by omega, lm_nil⟩
  refine Ev.bind (trim_ev hl (by simp)) ?_
  refine Ev.cast (Ev.some _) ?_
  congr 1
  simp only [lv_cons, lv_nil]
  omega
theorem plus_loop {a b : List Int} (ha : Lm a) (hb : Lm b) (hab : b.length ≤ a.length) (hlen : a.length < 549755813888) : ∀ (d : Nat) (i : Nat) (o : List Int) (c : Int), i + d = a.length → o.length = a.length + 1 → Lm o →
    0 ≤ c → c ≤ 1 → (∀ j : Nat, i ≤ j → rd o (j : Int) = 0) → Aside0 (lv o + (bp i : Int) * c = lv (a.take i) + lv (b.take i)) →
    Ev (fun k => nat_plus.l0 k a b o c (a.length : Int) (i : Int)) (dg (lv a + lv b).toNat) := by
  intro d
  induction d with
  | zero =>
    intro i o c hi ho hol hc0 hc1 hz hv
    have hi : i = a.length := by omega
    subst hi
    refine Ev.succ ?_
    simp only [nat_plus.l0, if_neg (show ¬ ((a.length : Nat) : Int) < (a.length : Int) by omega), if_pos (show (0 : Int) ≤ (a.length : Int) by omega), if_pos (show (a.length : Int) < (o.length : Int) by omega)]
    have hs : Lm (o.set ((a.length : Int) : Int).toNat (c % 4294967296)) := lm_set hol (by omega) (by omega)
    refine Ev.bind (short_ev hs (by rw [List.length_set]; omega)) ?_
    refine Ev.cast (Ev.some _) ?_
    congr 2
    rw [Int.toNat_natCast, lv_set _ (by omega), hz _ (Nat.le_refl _), show c % 4294967296 = c by omega, Int.sub_zero, hv.out, List.take_of_length_le (Nat.le_refl _), List.take_of_length_le hab]
  | succ d ih =>
    intro i o c hi ho hol hc0 hc1 hz hv
    have hia : i < a.length := by omega
    refine Ev.succ ?_
    have ra := rd_lm ha (i : Int)
    have rb := rd_lm hb (i : Int)
    have e1 : wrap64 ((i : Int) + 1) = ((i + 1 : Nat) : Int) := by rw [w64 (by omega) (by omega)]; omega
    have step : ∀ s : Int, 0 ≤ s → s ≤ 8589934591 → s = rd a (i : Int) + c + rd b (i : Int) →
        Ev (fun k => nat_plus.l0 k a b (o.set ((i : Int)).toNat (s % 4294967296)) (s / 4294967296) (a.length : Int) ((i + 1 : Nat) : Int)) (dg (lv a + lv b).toNat) := by
      intro s hs0 hs1 hs
      refine ih (i + 1) _ _ (by omega) (by rw [List.length_set]; exact ho) (lm_set hol (by omega) (by omega)) (by omega) (by omega) (fun j hj => ?_) ?_
      · rw [Int.toNat_natCast, rd_set_ne _ (by omega)]; exact hz j (by omega)
      · refine ⟨?_⟩
        rw [Int.toNat_natCast, lv_set _ (by omega), hz i (Nat.le_refl _), lv_take_succ hia]
        have hbt : lv (b.take (i + 1)) = lv (b.take i) + (bp i : Int) * rd b (i : Int) := by
          by_cases hib : i < b.length
          · exact lv_take_succ hib
          · rw [rd_ge (by omega), List.take_of_length_le (by omega), List.take_of_length_le (by omega)]; simp
        rw [hbt]
        have hdiv : s % 4294967296 + 4294967296 * (s / 4294967296) = rd a (i : Int) + c + rd b (i : Int) := by omega
        have hm := congrArg (fun z => (bp i : Int) * z) hdiv
        simp only [Int.mul_add] at hm
        rw [Int.mul_left_comm] at hm
        rw [Int.sub_zero, bp_succ, Int.natCast_mul, Int.mul_assoc]
        have hv := hv.out
        clear ih hz hdiv hs hs0 hs1 ra rb e1 hc0 hc1
        omega
    by_cases hib : i < b.length
    · have e2 : IntKind.u64.wrap (IntKind.u64.wrap (IntKind.u64.wrap (rd a (i : Int)) + c) + IntKind.u64.wrap (rd b (i : Int))) = rd a (i : Int) + c + rd b (i : Int) := by
        rw [u64w ra.1 (by omega), u64w rb.1 (by omega), u64w (x := rd a (i : Int) + c) (by omega) (by omega), u64w (x := rd a (i : Int) + c + rd b (i : Int)) (by omega) (by omega)]
      simp only [nat_plus.l0, e1, e2, if_pos (show (i : Int) < (a.length : Int) by omega), if_pos (show (0 : Int) ≤ (i : Int) by omega), if_pos (show (i : Int) < (b.length : Int) by omega), if_pos (show (i : Int) < (o.length : Int) by omega)]
      exact step (rd a (i : Int) + c + rd b (i : Int)) (by omega) (by omega) rfl
    · have e2 : IntKind.u64.wrap (IntKind.u64.wrap (rd a (i : Int)) + c) = rd a (i : Int) + c := by
        rw [u64w ra.1 (by omega), u64w (x := rd a (i : Int) + c) (by omega) (by omega)]
      simp only [nat_plus.l0, e1, e2, if_pos (show (i : Int) < (a.length : Int) by omega), if_pos (show (0 : Int) ≤ (i : Int) by omega), if_neg (show ¬ (i : Int) < (b.length : Int) by omega), if_pos (show (i : Int) < (o.length : Int) by omega)]
      exact step (rd a (i : Int) + c) (by omega) (by omega) (by rw [rd_ge (l := b) (by omega)]; omega)
theorem plus_long {a b : List Int} (ha : Lm a) (hb : Lm b) (hab : b.length ≤ a.length) (hlen : a.length < 549755813888) : Ev (fun k => nat_plus.j0 k a b) (dg (lv a + lv b).toNat) := by
  refine Ev.succ ?_
  have e1 : wrap64 ((a.length : Int) + 1) = ((a.length + 1 : Nat) : Int) := by rw [w64 (by omega) (by omega)]; omega
  simp only [nat_plus.j0, e1, Int.toNat_natCast, if_pos (show (0 : Int) ≤ ((a.length + 1 : Nat) : Int) by omega), if_pos (show a.length + 1 ≤ 70368744177664 by omega)]
  exact plus_loop ha hb hab hlen a.length 0 _ 0 (by omega) (by simp) (lm_rep _) (by omega) (by omega) (fun j _ => by
    by_cases h : j < a.length + 1
    · rw [rd_lt (by simpa using h)]; simp
    · exact rd_ge (by simp; omega)) ⟨by rw [lv_rep]; simp [lv_nil]⟩
theorem plus_ev {a b : List Int} (ha : Lm a) (hb : Lm b) (h1 : a.length < 549755813888) (h2 : b.length < 549755813888) : Ev (fun k => nat_plus.f k a b) (dg (lv a + lv b).toNat) := by
  simp only [nat_plus.f]
  by_cases h : (a.length : Int) < (b.length : Int)
  · simp only [if_pos h]
    rw [Int.add_comm]
    exact plus_long hb ha (by omega) h2
  · simp only [if_neg h]
    exact plus_long ha hb (by omega) h1
def lsum : List (List Int) → Int
  | [] => 0
  | a :: l => lv a + lsum l
def Lms (l : List (List Int)) : Prop := ∀ x ∈ l, Lm x ∧ x.length < 1073741824
theorem rd3_lt {l : List (List Int)} {i : Nat} (h : i < l.length) : rd_L3 l (i : Int) = l[i] := by
  unfold rd_L3
  simp [List.getD_eq_getElem?_getD, h]
theorem lsum_take {l : List (List Int)} {i : Nat} (h : i < l.length) : lsum (l.take (i + 1)) = lsum (l.take i) + lv l[i] := by
  have app : ∀ (a b : List (List Int)), lsum (a ++ b) = lsum a + lsum b := by
    intro a
    induction a with
    | nil => intro b; simp [lsum]
    | cons x a ih => intro b; simp only [List.cons_append, lsum]; rw [ih]; omega
  rw [List.take_succ_eq_append_getElem h, app]
  simp [lsum]
theorem lv_dg_toNat {x : Int} (h : 0 ≤ x) : lv (dg x.toNat) = x := by rw [lv_dg]; omega
theorem add_loop {l : List (List Int)} (hl : Lms l) (hlen : l.length < 1073741824) : ∀ (d i : Nat) (s : List Int), i + d = l.length → Lm s → s.length ≤ 1073741824 + i → lv s = lsum (l.take i) →
    Ev (fun k => nat_Add.l0 k s l (l.length : Int) (i : Int)) (dg (lsum l).toNat) := by
  intro d
  induction d with
  | zero =>
    intro i s hi hs hsl hv
    have hi : i = l.length := by omega
    subst hi
    refine Ev.succ ?_
    simp only [nat_Add.l0, if_neg (show ¬ ((l.length : Nat) : Int) < (l.length : Int) by omega)]
    refine Ev.bind (trim_ev hs (by omega)) ?_
    refine Ev.cast (Ev.some _) ?_
    rw [hv, List.take_of_length_le (Nat.le_refl _)]
  | succ d ih =>
    intro i s hi hs hsl hv
    have hil : i < l.length := by omega
    have hx := hl l[i] (List.getElem_mem hil)
    refine Ev.succ ?_
    have e1 : wrap64 ((i : Int) + 1) = ((i + 1 : Nat) : Int) := by rw [w64 (by omega) (by omega)]; omega
    simp only [nat_Add.l0, e1, rd3_lt hil, if_pos (show (i : Int) < (l.length : Int) by omega), if_pos (show (0 : Int) ≤ (i : Int) by omega)]
    refine Ev.bind (short_ev hx.1 (by omega)) ?_
    have h2 := dg_len_of hx.1
    refine Ev.bind (plus_ev hs (lm_dg _) (by omega) (by omega)) ?_
    have h3 : 0 ≤ lv s := lv_nonneg hs
    have h4 : 0 ≤ lv l[i] := lv_nonneg hx.1
    refine ih (i + 1) _ (by omega) (lm_dg _) ?_ ?_
    · rw [lv_dg_toNat h4]
      have h5 := lv_le_of_len hs hsl
      have h6 := lv_le_of_len hx.1 (m := 1073741824 + i) (by omega)
      refine dg_len_le ?_
      rw [show 1073741824 + (i + 1) = (1073741824 + i) + 1 by omega, bp_succ]
      generalize bp (1073741824 + i) = p at *
      omega
    · rw [lv_dg_toNat h4, lv_dg_toNat (by omega), hv, lsum_take hil]
theorem add_ev {l : List (List Int)} (hl : Lms l) (hlen : l.length < 1073741824) : Ev (fun k => nat_Add.f k l) (dg (lsum l).toNat) := by
  simp only [nat_Add.f]
  exact add_loop hl hlen l.length 0 [] (by omega) lm_nil (by simp) (by simp [lv_nil, lsum])
theorem add2_ev {a b : Nat} (ha : (dg a).length < 1073741824) (hb : (dg b).length < 1073741824) : Ev (fun k => nat_Add.f k [dg a, dg b]) (dg (a + b)) := by
  refine Ev.cast (add_ev (l := [dg a, dg b]) (fun x hx => ?_) (by simp)) ?_
  · rcases List.mem_cons.mp hx with e | e
    · exact e ▸ ⟨lm_dg a, ha⟩
    · rw [List.mem_singleton.mp e]; exact ⟨lm_dg b, hb⟩
  · congr 1
    simp only [lsum, lv_dg]
    omega
end Mw
end
section
namespace Mw
def sm : Nat → (Nat → Int) → Int
  | 0, _ => 0
  | n + 1, f => sm n f + f n
theorem sm_congr {n : Nat} {f g : Nat → Int} (h : ∀ i, i < n → f i = g i) : sm n f = sm n g := by
  induction n with
  | zero => rfl
  | succ n ih => simp only [sm]; rw [ih (fun i hi => h i (by omega)), h n (by omega)]
theorem sm_zero {n : Nat} {f : Nat → Int} (h : ∀ i, i < n → f i = 0) : sm n f = 0 := by
  induction n with
  | zero => rfl
  | succ n ih => simp only [sm]; rw [ih (fun i hi => h i (by omega)), h n (by omega)]; rfl
theorem sm_sub (n : Nat) (f g : Nat → Int) : sm n (fun i => f i - g i) = sm n f - sm n g := by
  induction n with
  | zero => rfl
  | succ n ih => simp only [sm]; rw [ih]; omega
theorem sm_head (n : Nat) (f : Nat → Int) : sm (n + 1) f = f 0 + sm n (fun i => f (i + 1)) := by
  induction n with
  | zero => simp [sm]
  | succ n ih => rw [sm, ih]; simp only [sm]; omega
theorem sm_single {n a : Nat} {f : Nat → Int} (ha : a < n) (h : ∀ i, i < n → i ≠ a → f i = 0) : sm n f = f a := by
  induction n with
  | zero => omega
  | succ n ih =>
    simp only [sm]
    by_cases e : a = n
    · subst e; rw [sm_zero (fun i hi => h i (by omega) (by omega))]; omega
    · rw [ih (by omega) (fun i hi hne => h i (by omega) hne), h n (by omega) (by omega)]; omega
def bin : Nat → Nat → Nat
  | _, 0 => 1
  | 0, _ + 1 => 0
  | n + 1, k + 1 => bin n k + bin n (k + 1)
theorem bin_zero (n : Nat) : bin n 0 = 1 := by cases n <;> rfl
theorem bin_succ (n k : Nat) : bin (n + 1) (k + 1) = bin n k + bin n (k + 1) := rfl
theorem bin_above : ∀ {n k : Nat}, n < k → bin n k = 0
  | 0, 0, h => by omega
  | 0, _ + 1, _ => rfl
  | n + 1, 0, h => by omega
  | n + 1, k + 1, h => by rw [bin_succ, bin_above (n := n) (k := k) (by omega), bin_above (n := n) (k := k + 1) (by omega)]
theorem bin_self (n : Nat) : bin n n = 1 := by
  induction n with
  | zero => rfl
  | succ n ih => rw [bin_succ, ih, bin_above (by omega)]
theorem bin_one (n : Nat) : bin n 1 = n := by
  induction n with
  | zero => rfl
  | succ n ih => rw [bin_succ, ih, bin_zero]; omega
theorem bin_step : ∀ (n k : Nat), (k + 1) * bin n (k + 1) = (n - k) * bin n k
  | 0, k => by rw [bin_above (by omega)]; simp
  | n + 1, 0 => by rw [bin_one, bin_zero]; omega
  | n + 1, k + 1 => by
    rw [bin_succ, bin_succ]
    have h1 := bin_step n k
    have h2 := bin_step n (k + 1)
    by_cases hk : k + 1 ≤ n
    · obtain ⟨m, rfl⟩ : ∃ m, n = m + (k + 1) := ⟨n - (k + 1), by omega⟩
      rw [show m + (k + 1) - k = m + 1 by omega] at h1
      rw [show m + (k + 1) - (k + 1) = m by omega] at h2
      rw [show m + (k + 1) + 1 - (k + 1) = m + 1 by omega]
      grind
    · by_cases hk2 : k = n
      · subst hk2
        rw [bin_above (n := k) (k := k + 1 + 1) (by omega), bin_above (n := k) (k := k + 1) (by omega)]; simp
      · rw [bin_above (n := n) (k := k + 1 + 1) (by omega), bin_above (n := n) (k := k + 1) (by omega), bin_above (n := n) (k := k) (by omega)]; simp
theorem bin_symm : ∀ {n k : Nat}, k ≤ n → bin n (n - k) = bin n k
  | 0, k, h => by have : k = 0 := by omega
                  subst this; rfl
  | n + 1, 0, _ => by rw [Nat.sub_zero, bin_self, bin_zero]
  | n + 1, k + 1, h => by
    rw [Nat.add_sub_add_right]
    by_cases e : k = n
    · subst e; rw [Nat.sub_self, bin_zero, bin_self]
    · obtain ⟨m, hm⟩ : ∃ m, n - k = m + 1 := ⟨n - k - 1, by omega⟩
      rw [hm, bin_succ, bin_succ]
      have h1 := bin_symm (n := n) (k := k) (by omega)
      have h2 := bin_symm (n := n) (k := k + 1) (by omega)
      rw [hm] at h1
      rw [show n - (k + 1) = m by omega] at h2
      omega
def kr (g : Int) : Nat → Nat → Nat → Int
  | 0, 0, 0 => 1
  | 0, 0, _ + 1 => 0
  | a + 1, 0, 0 => kr g a 0 0
  | a + 1, 0, k + 1 => kr g a 0 (k + 1) + g * kr g a 0 k
  | a, b + 1, 0 => kr g a b 0
  | a, b + 1, k + 1 => kr g a b (k + 1) - kr g a b k
theorem kr_b0 (g : Int) (a b : Nat) : kr g a (b + 1) 0 = kr g a b 0 := by cases a <;> simp [kr]
theorem kr_b (g : Int) (a b k : Nat) : kr g a (b + 1) (k + 1) = kr g a b (k + 1) - kr g a b k := by cases a <;> simp [kr]
theorem kr_zero (g : Int) (a b : Nat) : kr g a b 0 = 1 := by
  induction b with
  | zero => induction a with
    | zero => simp [kr]
    | succ a ih => simp [kr, ih]
  | succ b ih => rw [kr_b0, ih]
theorem kr_a (g : Int) (a b k : Nat) : kr g (a + 1) b (k + 1) = kr g a b (k + 1) + g * kr g a b k := by
  induction b generalizing k with
  | zero => simp [kr]
  | succ b ih =>
    rw [kr_b, kr_b, ih]
    cases k with
    | zero => rw [kr_zero, kr_zero, kr_zero]; omega
    | succ k => rw [ih, kr_b]; grind
theorem kr_first (g : Int) (a k : Nat) : kr g a 0 k = (bin a k : Int) * g ^ k := by
  induction a generalizing k with
  | zero => cases k with
    | zero => simp [kr, bin]
    | succ k => simp [kr, bin]
  | succ a ih => cases k with
    | zero => simp [kr_zero, bin_zero]
    | succ k => rw [kr_a, ih, ih, bin_succ, Int.pow_succ, Int.natCast_add]; grind
theorem kr_row (g : Int) (a b k : Nat) : kr g a (b + 1) (k + 1) = kr g (a + 1) b (k + 1) - kr g (a + 1) b k - g * kr g a (b + 1) k := by
  have h := kr_a g a (b + 1) k
  rw [kr_b] at h
  omega
def krF (g : Int) (a b k : Nat) : Int := sm (k + 1) (fun j => (-1) ^ j * (g ^ (k - j) * ((bin b j : Int) * (bin a (k - j) : Int))))
theorem kr_formula (g : Int) (a b k : Nat) : kr g a b k = krF g a b k := by
  induction b generalizing k with
  | zero =>
    rw [kr_first, krF]
    rw [sm_single (a := 0) (by omega)]
    · simp [bin_zero]; grind
    · intro i _ hne
      obtain ⟨m, rfl⟩ : ∃ m, i = m + 1 := ⟨i - 1, by omega⟩
      simp [bin]
  | succ b ih =>
    cases k with
    | zero => rw [kr_zero]; simp [krF, sm, bin_zero]
    | succ k =>
      rw [kr_b, ih, ih, krF, krF, krF]
      rw [sm_head (k + 1) (fun j => (-1) ^ j * (g ^ (k + 1 - j) * ((bin (b + 1) j : Int) * (bin a (k + 1 - j) : Int))))]
      rw [sm_head (k + 1) (fun j => (-1) ^ j * (g ^ (k + 1 - j) * ((bin b j : Int) * (bin a (k + 1 - j) : Int))))]
      simp only [bin_zero, Nat.add_sub_add_right]
      rw [Int.add_sub_assoc]
      congr 1
      rw [← sm_sub]
      refine sm_congr fun i hi => ?_
      rw [bin_succ, Int.natCast_add, Int.pow_succ]
      grind
theorem kr_three (g : Int) (a b j : Nat) :
    ((j : Int) + 2) * kr g a b (j + 2) = (((a : Int) + b - (j + 1)) * g + (j + 1) - (g + 1) * b) * kr g a b (j + 1) - g * ((a : Int) + b - j) * kr g a b j := by
  induction b generalizing j with
  | zero =>
    rw [kr_first, kr_first, kr_first]
    have h1 := bin_step a (j + 1)
    have h2 := bin_step a j
    by_cases hj : j + 1 ≤ a
    · have h1' : ((j : Int) + 2) * (bin a (j + 2) : Int) = ((a : Int) - (j + 1)) * (bin a (j + 1) : Int) := by
        have := congrArg (fun x : Nat => (x : Int)) h1
        simp only [Int.natCast_mul] at this
        rw [show ((a - (j + 1) : Nat) : Int) = (a : Int) - (j + 1) by omega, show ((j + 1 + 1 : Nat) : Int) = (j : Int) + 2 by omega] at this
        exact this
      have h2' : ((j : Int) + 1) * (bin a (j + 1) : Int) = ((a : Int) - j) * (bin a j : Int) := by
        have := congrArg (fun x : Nat => (x : Int)) h2
        simp only [Int.natCast_mul] at this
        rw [show ((a - j : Nat) : Int) = (a : Int) - j by omega, show ((j + 1 : Nat) : Int) = (j : Int) + 1 by omega] at this
        exact this
      rw [Int.pow_succ, Int.pow_succ]
      simp only [Int.natCast_zero, Int.add_zero, Int.mul_zero, Int.sub_zero]
      generalize (bin a (j + 2) : Int) = x at *
      generalize (bin a (j + 1) : Int) = y at *
      generalize (bin a j : Int) = w at *
      generalize g ^ j = p
      grind
    · by_cases e : j = a
      · subst e
        rw [bin_above (n := j) (k := j + 2) (by omega), bin_above (n := j) (k := j + 1) (by omega)]; simp
      · rw [bin_above (n := a) (k := j + 2) (by omega), bin_above (n := a) (k := j + 1) (by omega), bin_above (n := a) (k := j) (by omega)]; simp
  | succ b ih =>
    have h1 := ih j
    cases j with
    | zero =>
      rw [kr_b, kr_b, kr_zero, kr_zero]
      rw [kr_zero] at h1
      have k1 : kr g a b 1 = (a : Int) * g - b := by
        clear h1 ih
        induction b with
        | zero => rw [kr_first, bin_one]; simp [Int.pow_succ]
        | succ b ih => rw [show (1 : Nat) = 0 + 1 from rfl, kr_b, kr_zero, ih]; omega
      simp only [Int.natCast_zero, Int.natCast_add, Int.natCast_one] at h1 ⊢
      simp only [Nat.zero_add] at h1 ⊢
      rw [k1] at h1 ⊢
      generalize kr g a b 2 = x at *
      grind
    | succ j =>
      have h2 := ih j
      rw [kr_b, kr_b, kr_b]
      simp only [Int.natCast_add, Int.natCast_one] at h1 h2 ⊢
      rw [show j + 1 + 2 = j + 3 by omega, show j + 1 + 1 = j + 2 by omega] at *
      generalize kr g a b (j + 3) = x at *
      generalize kr g a b (j + 2) = y at *
      generalize kr g a b (j + 1) = w at *
      generalize kr g a b j = v at *
      grind
end Mw
end
section
set_option linter.unusedVariables false
set_option linter.unusedSimpArgs false
namespace Mw
open Go Go.RowKit Go.Proofs.YtifkbghnmhineaaW.PrintWords Go.Proofs.YtifkbghnmhineaaW.PrintLast Go.Proofs.YtifkbghnmhineaaW.PrintMore Go.Proofs.Ytifkbghnmhineaa.PAll
theorem rd_rep (n : Nat) (j : Nat) : rd (List.replicate n 0) (j : Int) = 0 := by
  by_cases h : j < n
  · rw [rd_lt (by simpa using h)]; simp
  · exact rd_ge (by simp; omega)
theorem mac_bound {x y z c : Int} (hx0 : 0 ≤ x) (hx1 : x < 4294967296) (hy0 : 0 ≤ y) (hy1 : y < 4294967296) (hz0 : 0 ≤ z) (hz1 : z < 4294967296) (hc0 : 0 ≤ c) (hc1 : c < 4294967296) :
    0 ≤ x * y ∧ x * y + z + c < 18446744073709551616 := by
  have hp0 : 0 ≤ x * y := Int.mul_nonneg hx0 hy0
  have hp1 : x * y ≤ 4294967295 * 4294967295 := Int.mul_le_mul (by omega) (by omega) hy0 (by decide)
  generalize x * y = p at *
  omega
theorem mac_wrap {x y z c : Int} (hx0 : 0 ≤ x) (hx1 : x < 4294967296) (hy0 : 0 ≤ y) (hy1 : y < 4294967296) (hz0 : 0 ≤ z) (hz1 : z < 4294967296) (hc0 : 0 ≤ c) (hc1 : c < 4294967296) :
    IntKind.u64.wrap (IntKind.u64.wrap (IntKind.u64.wrap (IntKind.u64.wrap x * IntKind.u64.wrap y) + IntKind.u64.wrap z) + c) = x * y + z + c := by
  have hb := mac_bound hx0 hx1 hy0 hy1 hz0 hz1 hc0 hc1
  rw [u64w (x := x) (by omega) (by omega), u64w (x := y) (by omega) (by omega), u64w (x := z) (by omega) (by omega)]
  generalize x * y = p at *
  rw [u64w (x := p) (by omega) (by omega), u64w (x := p + z) (by omega) (by omega), u64w (x := p + z + c) (by omega) (by omega)]
theorem split_div (s : Int) : s % 4294967296 + 4294967296 * (s / 4294967296) = s := by omega
theorem div_bound {s : Int} (h0 : 0 ≤ s) (h1 : s < 18446744073709551616) : 0 ≤ s % 4294967296 ∧ s % 4294967296 < 4294967296 ∧ 0 ≤ s / 4294967296 ∧ s / 4294967296 < 4294967296 := by omega
theorem times_inner {x : Int} {b l18 : List Int} (hx0 : 0 ≤ x) (hx1 : x < 4294967296) (hb : Lm b) (hbl : b.length < 536870912) (x19 : Int) (i L : Nat) (hL : i + b.length + 1 ≤ L) (hL2 : L < 1073741824) (V : Int) (R : List Int)
    (next : ∀ o : List Int, o.length = L → Lm o → (∀ j : Nat, i + 1 + b.length ≤ j → rd o (j : Int) = 0) → Aside0 (lv o = V + (bp i : Int) * (x * lv b)) → Ev (fun k => nat_times.l0 k b o l18 x19 ((i + 1 : Nat) : Int)) R) :
    ∀ (d j : Nat) (o : List Int) (c : Int), j + d = b.length → o.length = L → Lm o → 0 ≤ c → c < 4294967296 → (∀ m : Nat, i + b.length ≤ m → rd o (m : Int) = 0) →
      Aside0 (lv o + (bp (i + j) : Int) * c = V + (bp i : Int) * (x * lv (b.take j))) →
      Ev (fun k => nat_times.l1 k b o (i : Int) x c l18 x19 (i : Int) b (b.length : Int) (j : Int)) R := by
  intro d
  induction d with
  | zero =>
    intro j o c hj ho hol hc0 hc1 hz hv
    have hj : j = b.length := by omega
    subst hj
    refine Ev.succ ?_
    simp only [nat_times.l1, wn (show (i : Int) + (b.length : Int) = ((i + b.length : Nat) : Int) by omega) (by omega), wn (show (i : Int) + 1 = ((i + 1 : Nat) : Int) by omega) (by omega), if_neg (show ¬ ((b.length : Nat) : Int) < (b.length : Int) by omega), if_pos (show (0 : Int) ≤ ((i + b.length : Nat) : Int) by omega), if_pos (show ((i + b.length : Nat) : Int) < (o.length : Int) by omega)]
    rw [Int.toNat_natCast, show c % 4294967296 = c by omega]
    refine next _ (by rw [List.length_set]; omega) (lm_set hol hc0 hc1) (fun m hm => ?_) ⟨?_⟩
    · rw [rd_set_ne _ (by omega)]; exact hz m (by omega)
    · rw [lv_set _ (by omega), hz _ (Nat.le_refl _), Int.sub_zero, hv.out, List.take_of_length_le (Nat.le_refl _)]
  | succ d ih =>
    intro j o c hj ho hol hc0 hc1 hz hv
    have hjb : j < b.length := by omega
    refine Ev.succ ?_
    have rb := rd_lm hb (j : Int)
    have ro := rd_lm hol ((i + j : Nat) : Int)
    simp only [nat_times.l1, wn (show (i : Int) + (j : Int) = ((i + j : Nat) : Int) by omega) (by omega), wn (show (j : Int) + 1 = ((j + 1 : Nat) : Int) by omega) (by omega), if_pos (show (j : Int) < (b.length : Int) by omega), if_pos (show (0 : Int) ≤ (j : Int) by omega), if_pos (show (0 : Int) ≤ ((i + j : Nat) : Int) by omega), if_pos (show ((i + j : Nat) : Int) < (o.length : Int) by omega), mac_wrap hx0 hx1 rb.1 rb.2 ro.1 ro.2 hc0 hc1]
    have hb2 := mac_bound hx0 hx1 rb.1 rb.2 ro.1 ro.2 hc0 hc1
    have hdef : ∃ s, s = x * rd b (j : Int) + rd o ((i + j : Nat) : Int) + c := ⟨_, rfl⟩
    obtain ⟨s, hs⟩ := hdef
    have hs0 : 0 ≤ s := by rw [hs]; exact Int.add_nonneg (Int.add_nonneg hb2.1 ro.1) hc0
    have hs1 : s < 18446744073709551616 := by rw [hs]; exact hb2.2
    have hd := div_bound hs0 hs1
    clear hb2
    rw [← hs]
    rw [Int.toNat_natCast]
    have hs := Aside0.mk hs
    refine ih (j + 1) _ _ (by omega) (by rw [List.length_set]; omega) (lm_set hol hd.1 hd.2.1) hd.2.2.1 hd.2.2.2 (fun m hm => ?_) ⟨?_⟩
    · rw [rd_set_ne _ (by omega)]; exact hz m hm
    · rw [lv_set _ (by omega), lv_take_succ hjb, ← Nat.add_assoc, bp_succ, Int.natCast_mul]
      have hdiv : s % 4294967296 + 4294967296 * (s / 4294967296) = x * rd b (j : Int) + rd o ((i + j : Nat) : Int) + c := by rw [split_div]; exact hs.out
      have hv := hv.out
      have hbp : ((bp (i + j) : Nat) : Int) = (bp i : Int) * (bp j : Int) := by rw [bp_add, Int.natCast_mul]
      clear ih hz next hs hs0 hs1 hd rb ro hc0 hc1
      generalize s % 4294967296 = y at *
      generalize s / 4294967296 = u at *
      generalize (bp (i + j) : Int) = p at *
      generalize (bp i : Int) = pi at *
      generalize (bp j : Int) = pj at *
      generalize rd b (j : Int) = rb at *
      generalize rd o ((i + j : Nat) : Int) = ro at *
      generalize lv o = lo at *
      generalize lv (b.take j) = lt at *
      subst hbp
      have h1 : lo + pi * pj * c = V + pi * (x * lt) := hv
      have h2 : y + 4294967296 * u = x * rb + ro + c := hdiv
      show lo + pi * pj * (y - ro) + 4294967296 * (pi * pj) * u = V + pi * (x * (lt + pj * rb))
      have h3 : pi * pj * (y + 4294967296 * u) = pi * pj * (x * rb + ro + c) := by rw [h2]
      grind
theorem times_outer {b l : List Int} (hb : Lm b) (hl : Lm l) (hbl : b.length < 268435456) (hll : l.length < 268435456) : ∀ (d i : Nat) (o : List Int), i + d = l.length → o.length = l.length + b.length → Lm o → (∀ m : Nat, i + b.length ≤ m → rd o (m : Int) = 0) →
    Aside0 (lv o = lv (l.take i) * lv b) → Ev (fun k => nat_times.l0 k b o l (l.length : Int) (i : Int)) (dg (lv l * lv b).toNat) := by
  intro d
  induction d with
  | zero =>
    intro i o hi ho hol hz hv
    have hi : i = l.length := by omega
    subst hi
    refine Ev.succ ?_
    simp only [nat_times.l0, if_neg (show ¬ ((l.length : Nat) : Int) < (l.length : Int) by omega)]
    refine Ev.bind (short_ev hol (by omega)) ?_
    refine Ev.cast (Ev.some _) ?_
    rw [hv.out, List.take_of_length_le (Nat.le_refl _)]
  | succ d ih =>
    intro i o hi ho hol hz hv
    have hil : i < l.length := by omega
    refine Ev.succ ?_
    have rl := rd_lm hl (i : Int)
    simp only [nat_times.l0, if_pos (show (i : Int) < (l.length : Int) by omega), if_pos (show (0 : Int) ≤ (i : Int) by omega)]
    refine times_inner (l18 := l) rl.1 rl.2 hb (by omega) (l.length : Int) i (l.length + b.length) (by omega) (by omega) (lv (l.take i) * lv b) _ (fun o2 h1 h2 h3 h4 => ?_) b.length 0 o 0 (by omega) ho hol (by omega) (by omega) hz ⟨?_⟩
    · refine ih (i + 1) o2 (by omega) h1 h2 (fun m hm => h3 m hm) ⟨?_⟩
      rw [h4.out, lv_take_succ hil, Int.add_mul, Int.mul_assoc]
    · rw [hv.out]; simp [lv_nil]
theorem times_ev {a b : List Int} (ha : Lm a) (hb : Lm b) (h1 : a.length < 268435456) (h2 : b.length < 268435456) : Ev (fun k => nat_times.f k a b) (dg (lv a * lv b).toNat) := by
  simp only [nat_times.f]
  simp only [wn (show (a.length : Int) + (b.length : Int) = ((a.length + b.length : Nat) : Int) by omega) (by omega), Int.toNat_natCast, if_pos (show (0 : Int) ≤ ((a.length + b.length : Nat) : Int) by omega), if_pos (show a.length + b.length ≤ 70368744177664 by omega)]
  exact times_outer hb ha h2 h1 a.length 0 _ (by omega) (by simp) (lm_rep _) (fun m _ => rd_rep _ m) ⟨by rw [lv_rep]; simp [lv_nil]⟩
theorem mul2_ev {a b : Nat} (ha : (dg a).length < 134217728) (hb : (dg b).length < 134217728) : Ev (fun k => nat_Mul.f k [dg a, dg b]) (dg (a * b)) := by
  simp only [nat_Mul.f]
  have mul_len : ∀ x y : Nat, (dg (x * y)).length ≤ (dg x).length + (dg y).length := by
    intro x y
    refine dg_len_le ?_
    rw [bp_add]
    exact Nat.mul_lt_mul'' (dg_lt_len x) (dg_lt_len y)
  have one : lv [1] = 1 := by rw [lv_cons, lv_nil]; rfl
  have l1 : Lm [1] := by rw [lm_cons]; exact ⟨by omega, lm_nil⟩
  refine Ev.succ ?_
  simp only [nat_Mul.l0, List.length_cons, List.length_nil, w64 (x := (0 : Int) + 1) (by omega) (by omega)]
  rw [show ((0 + 1 + 1 : Nat) : Int) = 2 from rfl]
  simp only [if_pos (show (0 : Int) < 2 by omega), if_pos (show (0 : Int) ≤ 0 by omega)]
  rw [show rd_L3 [dg a, dg b] 0 = dg a from rfl]
  refine Ev.bind (short_ev (lm_dg a) (by omega)) ?_
  rw [lv_dg, Int.toNat_natCast]
  refine Ev.bind (times_ev l1 (lm_dg a) (by simp) (by omega)) ?_
  rw [one, lv_dg, Int.one_mul, Int.toNat_natCast]
  refine Ev.succ ?_
  rw [show (0 : Int) + 1 = 1 from rfl]
  simp only [nat_Mul.l0, List.length_cons, List.length_nil, w64 (x := (1 : Int) + 1) (by omega) (by omega)]
  rw [show ((0 + 1 + 1 : Nat) : Int) = 2 from rfl]
  simp only [if_pos (show (1 : Int) < 2 by omega), if_pos (show (0 : Int) ≤ 1 by omega)]
  rw [show rd_L3 [dg a, dg b] 1 = dg b from rfl]
  refine Ev.bind (short_ev (lm_dg b) (by omega)) ?_
  rw [lv_dg, Int.toNat_natCast]
  refine Ev.bind (times_ev (lm_dg a) (lm_dg b) (by omega) (by omega)) ?_
  rw [lv_dg, lv_dg, ← Int.natCast_mul, Int.toNat_natCast]
  rw [show (1 : Int) + 1 = 2 from rfl]
  refine Ev.succ ?_
  simp only [nat_Mul.l0, if_neg (show ¬ (2 : Int) < 2 by omega)]
  have := mul_len a b
  refine Ev.bind (trim_ev (lm_dg (a * b)) (by omega)) ?_
  rw [lv_dg, Int.toNat_natCast]
  exact Ev.some _
end Mw
end
section
set_option linter.unusedVariables false
set_option linter.unusedSimpArgs false
namespace Mw
open Go Go.RowKit Go.Proofs.YtifkbghnmhineaaW.PrintWords Go.Proofs.YtifkbghnmhineaaW.PrintLast Go.Proofs.YtifkbghnmhineaaW.PrintMore Go.Proofs.Ytifkbghnmhineaa.PAll
theorem wraps_u64 (n : Int) (h0 : 0 ≤ n) (h1 : n < 2 ^ 64) : IntKind.u64.wrap n = n := u64w h0 (by omega)
theorem join32 {x y : Int} (hx0 : 0 ≤ x) (hx1 : x < 4294967296) (hy0 : 0 ≤ y) (hy1 : y < 4294967296) : Go.bits .or .u64 (IntKind.u64.wrap (x * 4294967296)) (IntKind.u64.wrap y) = x * 4294967296 + y := by
  rw [u64w (x := x * 4294967296) (by omega) (by omega), u64w (x := y) (by omega) (by omega)]
  exact bits_join .u64 64 (by decide) wraps_u64 32 _ _ (by omega) (by omega) (by omega) hy0 (by omega) (by omega)
theorem digit_bounds {r b y : Int} (hr0 : 0 ≤ r) (hrb : r < b) (hb : b < 4294967296) (hy0 : 0 ≤ y) (hy1 : y < 4294967296) :
    0 ≤ (r * 4294967296 + y) / b ∧ (r * 4294967296 + y) / b < 4294967296 ∧ 0 ≤ (r * 4294967296 + y) % b ∧ (r * 4294967296 + y) % b < b := by
  have hbp : 0 < b := by omega
  refine ⟨Int.ediv_nonneg (by omega) (by omega), ?_, Int.emod_nonneg _ (by omega), Int.emod_lt_of_pos _ hbp⟩
  refine Int.ediv_lt_of_lt_mul hbp ?_
  have : (r + 1) * 4294967296 ≤ b * 4294967296 := by omega
  omega
theorem digit_loop {a : List Int} {b : Int} (ha : Lm a) (hb0 : 0 < b) (hb1 : b < 4294967296) (hlen : a.length < 1073741824) : ∀ (n : Nat) (o : List Int) (r : Int), n ≤ a.length → o.length = a.length → Lm o → (∀ j : Nat, j < n → rd o (j : Int) = 0) → 0 ≤ r → r < b →
    Aside0 (lv o * b + (bp n : Int) * r = lv a - lv (a.take n)) → Ev (fun k => nat_digit.l0 k a b o r ((n : Int) - 1)) (dg (lv a / b).toNat, lv a % b) := by
  intro n
  induction n with
  | zero =>
    intro o r hn ho hol hz hr0 hr1 hv
    refine Ev.succ ?_
    simp only [nat_digit.l0, if_neg (show ¬ ((0 : Nat) : Int) - 1 ≥ 0 by omega)]
    refine Ev.bind (short_ev hol (by omega)) ?_
    refine Ev.cast (Ev.some _) ?_
    have hv := hv.out
    rw [List.take_zero, lv_nil, bp_zero] at hv
    have e : lv a = b * lv o + r := by rw [Int.mul_comm]; omega
    have h1 : lv a / b = lv o := by
      rw [e, Int.add_comm, Int.add_mul_ediv_left _ _ (by omega), Int.ediv_eq_zero_of_lt hr0 hr1]; omega
    have h2 : lv a % b = r := by
      rw [e, Int.add_comm, Int.add_mul_emod_self_left, Int.emod_eq_of_lt hr0 hr1]
    rw [h1, h2]
    clear hv e h1 h2
    congr 1
    omega
  | succ n ih =>
    intro o r hn ho hol hz hr0 hr1 hv
    refine Ev.succ ?_
    have ra := rd_lm ha (n : Int)
    have hd := digit_bounds hr0 hr1 hb1 ra.1 ra.2
    have hdiv : b * ((r * 4294967296 + rd a (n : Int)) / b) + (r * 4294967296 + rd a (n : Int)) % b = r * 4294967296 + rd a (n : Int) := Int.mul_ediv_add_emod _ _
    have t0 : 0 ≤ r * 4294967296 + rd a (n : Int) := by omega
    simp only [nat_digit.l0, show ((n + 1 : Nat) : Int) - 1 = (n : Int) from by omega, if_pos (show (n : Int) ≥ 0 by omega), if_pos (show (0 : Int) ≤ (n : Int) by omega), if_pos (show (n : Int) < (a.length : Int) by omega), if_pos (show (n : Int) < (o.length : Int) by omega), if_neg (show ¬ b = 0 by omega),
      join32 hr0 (by omega) ra.1 ra.2, w64 (x := (n : Int) - 1) (by omega) (by omega), u64w (x := b) (by omega) (by omega)]
    rw [Int.tdiv_eq_ediv_of_nonneg t0, Int.tmod_eq_emod_of_nonneg t0]
    generalize (r * 4294967296 + rd a (n : Int)) / b = q at *
    generalize (r * 4294967296 + rd a (n : Int)) % b = s at *
    rw [u64w (x := q) hd.1 (by omega), show q % 4294967296 = q by omega, Int.toNat_natCast]
    refine ih _ _ (by omega) (by rw [List.length_set]; exact ho) (lm_set hol hd.1 hd.2.1) (fun j hj => ?_) hd.2.2.1 hd.2.2.2 ⟨?_⟩
    · rw [rd_set_ne _ (by omega)]; exact hz j (by omega)
    · have hv := hv.out
      rw [lv_take_succ (l := a) (i := n) (by omega), bp_succ, Int.natCast_mul] at hv
      rw [lv_set (l := o) (i := n) _ (by omega), hz n (by omega)]
      clear ih hz hd ra t0
      generalize lv o = x at *
      generalize (bp n : Int) = p at *
      generalize rd a (n : Int) = y at *
      generalize lv a = A at *
      generalize lv (a.take n) = T at *
      have hv : x * b + 4294967296 * p * r = A - (T + p * y) := hv
      have h3 : p * (b * q + s) = p * (r * 4294967296 + y) := by rw [hdiv]
      grind
theorem digit_ev {a : List Int} {b : Int} (ha : Lm a) (hb0 : 0 < b) (hb1 : b < 4294967296) (hlen : a.length < 1073741824) : Ev (fun k => nat_digit.f k a b) (dg (lv a / b).toNat, lv a % b) := by
  simp only [nat_digit.f, Int.toNat_natCast, if_pos (show (0 : Int) ≤ (a.length : Int) by omega), if_pos (show a.length ≤ 70368744177664 by omega), w64 (x := (a.length : Int) - 1) (by omega) (by omega)]
  exact digit_loop ha hb0 hb1 hlen a.length _ 0 (Nat.le_refl _) (by simp) (lm_rep _) (fun j _ => rd_rep _ j) (by omega) (by omega) ⟨by rw [lv_rep, List.take_of_length_le (Nat.le_refl _)]; simp⟩
theorem bin_mul (n i : Nat) : bin n i * (n - i) = (i + 1) * bin n (i + 1) := by rw [bin_step, Nat.mul_comm]
theorem bin_lt (n k : Nat) : bin n k ≤ 2 ^ n := by
  induction n generalizing k with
  | zero => cases k <;> simp [bin]
  | succ n ih => cases k with
    | zero => rw [bin_zero]; exact Nat.one_le_two_pow
    | succ k => rw [bin_succ, Nat.pow_succ]; have h1 := ih k; have h2 := ih (k + 1); omega
theorem pow2_bp (m : Nat) : 2 ^ (32 * m) = bp m := by
  induction m with
  | zero => rw [bp_zero]
  | succ m ih => rw [Nat.mul_succ, Nat.pow_add, ih, bp_succ, Nat.mul_comm]
theorem bin_len {n : Nat} (hn : n ≤ 4096) (k : Nat) : (dg (bin n k)).length ≤ 129 := by
  refine dg_len_le ?_
  have h1 := bin_lt n k
  have h2 : ∀ m, n ≤ 32 * m → 2 ^ n ≤ bp m := fun m h => by rw [← pow2_bp]; exact Nat.pow_le_pow_right (by decide) h
  have h2 := h2 128 (by omega)
  have h3 := bp_pos 128
  rw [show 129 = 128 + 1 from rfl, bp_succ]
  generalize 2 ^ n = p at *
  generalize bp 128 = u at *
  omega
theorem binomial_loop {n : Nat} (hn : n ≤ 4096) : ∀ (d i m : Nat), i + d = m → m ≤ n → Ev (fun k => nat_Binomial.l0 k (n : Int) (dg (bin n i)) (m : Int) (i : Int)) (dg (bin n m), 0) := by
  intro d
  induction d with
  | zero =>
    intro i m hi hm
    have hi : i = m := by omega
    subst hi
    refine Ev.succ ?_
    simp only [nat_Binomial.l0, if_neg (show ¬ (i : Int) < (i : Int) by omega)]
    have := bin_len hn i
    refine Ev.bind (trim_ev (lm_dg _) (by omega)) ?_
    rw [lv_dg, Int.toNat_natCast]
    exact Ev.some _
  | succ d ih =>
    intro i m hi hm
    refine Ev.succ ?_
    have hl := bin_len hn i
    have e0 : ((n : Int) - (i : Int)) % 4294967296 = ((n - i : Nat) : Int) := by omega
    have e1 : ((i + 1 : Nat) : Int) % 4294967296 = ((i + 1 : Nat) : Int) := by omega
    simp only [nat_Binomial.l0, w64 (x := (n : Int) - (i : Int)) (by omega) (by omega), wn (show (i : Int) + 1 = ((i + 1 : Nat) : Int) by omega) (by omega), if_pos (show (i : Int) < (m : Int) by omega), e0, e1]
    have l1 : Lm [((n - i : Nat) : Int)] := by rw [lm_cons]; exact ⟨by omega, lm_nil⟩
    refine Ev.bind (times_ev (lm_dg _) l1 (by omega) (by simp)) ?_
    have v1 : lv (dg (bin n i)) * lv [((n - i : Nat) : Int)] = ((bin n i * (n - i) : Nat) : Int) := by rw [lv_dg, lv_cons, lv_nil, Int.natCast_mul]; simp
    rw [v1, Int.toNat_natCast, bin_mul]
    have hl2 : (dg ((i + 1) * bin n (i + 1))).length ≤ 130 := by
      refine dg_len_le ?_
      rw [← bin_mul]
      have h1 := dg_lt_len (bin n i)
      have h2 := bp_mono hl
      have h3 : bin n i < bp 129 := by omega
      rw [show 130 = 129 + 1 from rfl, bp_succ, Nat.mul_comm]
      have h4 : n - i ≤ 4294967296 := by omega
      exact Nat.lt_of_le_of_lt (Nat.mul_le_mul_right _ h4) (Nat.mul_lt_mul_of_pos_left h3 (by decide))
    refine Ev.bind (digit_ev (lm_dg _) (by omega) (by omega) (by omega)) ?_
    rw [lv_dg]
    have v2 : (((i + 1) * bin n (i + 1) : Nat) : Int) / ((i + 1 : Nat) : Int) = ((bin n (i + 1) : Nat) : Int) := by
      rw [Int.natCast_mul, Int.mul_ediv_cancel_left _ (by omega)]
    rw [v2, Int.toNat_natCast]
    exact ih (i + 1) m (by omega) hm
theorem binomial_ev {n m : Nat} (hn : n ≤ 4096) (hm : m ≤ n) : Ev (fun k => nat_Binomial.f k (n : Int) (m : Int)) (dg (bin n m), 0) := by
  simp only [nat_Binomial.f, if_neg (show ¬ (n : Int) < 0 by omega), decide_eq_false (show ¬ (n : Int) > 4096 by omega)]
  refine Ev.succ ?_
  simp only [nat_Binomial.j0, Bool.false_eq_true, if_false, if_neg (show ¬ (m : Int) < 0 by omega), decide_eq_false (show ¬ (m : Int) > (n : Int) by omega)]
  refine Ev.succ ?_
  simp only [nat_Binomial.j1, Bool.false_eq_true, if_false, wn (show (n : Int) - (m : Int) = ((n - m : Nat) : Int) by omega) (by omega)]
  have hone : ([1] : List Int) = dg (bin n 0) := by rw [bin_zero, dg_one]
  rw [hone]
  have hz : (0 : Int) = ((0 : Nat) : Int) := rfl
  by_cases h : m ≤ n - m
  · rw [show mn (m : Int) ((n - m : Nat) : Int) = (m : Int) from by unfold mn; split <;> omega]
    exact binomial_loop hn m 0 m (by omega) hm
  · rw [show mn (m : Int) ((n - m : Nat) : Int) = ((n - m : Nat) : Int) from by unfold mn; split <;> omega, ← bin_symm hm]
    exact binomial_loop hn (n - m) 0 (n - m) (by omega) (by omega)
theorem bits_half (x : Nat) (h : x < 4294967296) : Lib.bitLen x ≤ 32 := Lib.bitLen_le x 32 (by decide) (by omega)
theorem bitLen_zero : Lib.bitLen 0 = 0 := by decide
theorem bitLen_pos {x : Nat} (h0 : x ≠ 0) (h : x < 4294967296) : 1 ≤ Lib.bitLen x := by
  rw [Lib.bitLen_half x h0 (by omega)]; omega
theorem bitLen_lt : ∀ (b x : Nat), x < 4294967296 → Lib.bitLen x ≤ b → x < 2 ^ b := by
  intro b
  induction b with
  | zero =>
    intro x hx hb
    by_cases h : x = 0
    · subst h; decide
    · have := bitLen_pos h hx; omega
  | succ b ih =>
    intro x hx hb
    by_cases h : x = 0
    · subst h; exact Nat.two_pow_pos _
    · rw [Lib.bitLen_half x h (by omega)] at hb
      have := ih (x / 2) (by omega) (by omega)
      rw [Nat.pow_succ]
      omega
theorem dg_head {n : Nat} {i : Nat} (hi : i + 1 = (dg n).length) : rd (dg n) (i : Int) ≠ 0 := by
  have hne : dg n ≠ [] := by intro e; rw [e] at hi; simp at hi
  have := dg_last n hne
  rw [List.getLast_eq_getElem] at this
  rw [rd_lt (by omega)]
  have e : (dg n).length - 1 = i := by omega
  simpa [e] using this
def bl (n : Nat) : Nat := if n = 0 then 0 else 32 * ((dg n).length - 1) + Lib.bitLen (rd (dg n) (((dg n).length - 1 : Nat) : Int)).toNat
theorem bits_ev {n : Nat} (hn : (dg n).length < 33554432) : Ev (fun k => nat_Bits.f k (dg n)) ((bl n : Nat) : Int) := by
  simp only [nat_Bits.f]
  refine Ev.bind (short_ev (lm_dg n) (by omega)) ?_
  rw [lv_dg, Int.toNat_natCast]
  by_cases h : n = 0
  · subst h
    rw [dg_zero]
    simp only [List.length_nil, if_pos (show ((0 : Nat) : Int) = 0 from rfl)]
    exact Ev.cast (Ev.some _) (by simp [bl])
  · have hp : (dg n).length ≠ 0 := by rw [Ne, dg_len_zero]; exact h
    obtain ⟨m, hm⟩ : ∃ m, (dg n).length = m + 1 := ⟨(dg n).length - 1, by omega⟩
    have hb : bl n = 32 * m + Lib.bitLen (rd (dg n) (m : Int)).toNat := by unfold bl; rw [if_neg h, hm]; rfl
    have hr := rd_lm (lm_dg n) (m : Int)
    have hbl := bits_half (rd (dg n) (m : Int)).toNat (by omega)
    rw [hb, hm]
    have f1 : bits_Len32.f (rd (dg n) (m : Int)) = some ((Lib.bitLen (rd (dg n) (m : Int)).toNat : Nat) : Int) := by
      unfold bits_Len32.f
      rw [if_pos hr.1, if_pos (by omega)]
    simp only [if_neg (show ¬ ((m + 1 : Nat) : Int) = 0 by omega), wn (show ((m + 1 : Nat) : Int) - 1 = (m : Int) by omega) (by omega), if_pos (show (0 : Int) ≤ (m : Int) by omega), if_pos (show (m : Int) < ((m + 1 : Nat) : Int) by omega), f1, Option.bind_some]
    refine Ev.cast (Ev.some _) ?_
    rw [wn (show (32 : Int) * (m : Int) = ((32 * m : Nat) : Int) by omega) (by omega), wn (show ((32 * m : Nat) : Int) + ((Lib.bitLen (rd (dg n) (m : Int)).toNat : Nat) : Int) = ((32 * m + Lib.bitLen (rd (dg n) (m : Int)).toNat : Nat) : Int) by omega) (by omega)]
theorem bl_zero {n : Nat} : bl n = 0 ↔ n = 0 := by
  constructor
  · intro h
    by_cases h0 : n = 0
    · exact h0
    · unfold bl at h
      rw [if_neg h0] at h
      have hp : (dg n).length ≠ 0 := by rw [Ne, dg_len_zero]; exact h0
      obtain ⟨m, hm⟩ : ∃ m, (dg n).length = m + 1 := ⟨(dg n).length - 1, by omega⟩
      have hr := rd_lm (lm_dg n) (m : Int)
      have h1 := dg_head hm.symm
      rw [hm, show m + 1 - 1 = m from rfl] at h
      have := bitLen_pos (x := (rd (dg n) (m : Int)).toNat) (by omega) (by omega)
      omega
  · intro h; subst h; rfl
theorem bl_small {n : Nat} (h0 : n ≠ 0) (h : n < 4294967296) : bl n = Lib.bitLen n := by
  unfold bl
  rw [if_neg h0, dg_small h0 h]
  simp [rd]
theorem bl_one {n : Nat} : bl n = 1 ↔ n = 1 := by
  constructor
  · intro h
    have hn0 : n ≠ 0 := by intro e; subst e; rw [bl_zero.mpr rfl] at h; omega
    unfold bl at h
    rw [if_neg hn0] at h
    have hp : (dg n).length ≠ 0 := by rw [Ne, dg_len_zero]; exact hn0
    obtain ⟨m, hm⟩ : ∃ m, (dg n).length = m + 1 := ⟨(dg n).length - 1, by omega⟩
    have hr := rd_lm (lm_dg n) (m : Int)
    have h1 := dg_head hm.symm
    rw [hm, show m + 1 - 1 = m from rfl] at h
    have h2 := bitLen_pos (x := (rd (dg n) (m : Int)).toNat) (by omega) (by omega)
    have hm0 : m = 0 := by omega
    subst hm0
    have hn : n < 4294967296 := by
      have := dg_lt_len n
      rw [hm, show (0 + 1 : Nat) = 0 + 1 from rfl, bp_succ, bp_zero] at this
      omega
    have h4 : dg n = [(n : Int)] := dg_small hn0 hn
    rw [h4] at h
    have h3 := bitLen_lt 1 n hn (by simp [rd] at h; omega)
    omega
  · intro h; subst h; rw [bl_small (by decide) (by decide)]; decide
theorem pow_len (x n m : Nat) (h : (dg x).length ≤ m) : (dg (x ^ n)).length ≤ m * n + 1 := by
  refine dg_len_le ?_
  have h1 := dg_lt_len x
  have h2 := bp_mono h
  have h3 : ∀ n, x ^ n ≤ bp (m * n) := by
    intro n
    induction n with
    | zero => simp [bp_zero]
    | succ n ih => rw [Nat.pow_succ, Nat.mul_succ, bp_add]; exact Nat.mul_le_mul ih (by omega)
  have h4 := h3 n
  rw [bp_succ]
  have h5 := bp_pos (m * n)
  omega
theorem and1 {n : Nat} (hn : n < 9223372036854775808) : Go.bits .and .i64 (n : Int) 1 = ((n % 2 : Nat) : Int) := by
  have := bits_mask .i64 63 (by decide) (fun n h0 h1 => by
    rw [IntKind.wrap_i64]
    have : n < 9223372036854775808 := by omega
    omega) 1 (by decide) (n : Int) (by omega) (by have : (n : Int) < 9223372036854775808 := by omega
                                                  omega)
  rw [show (2 : Int) ^ 1 - 1 = 1 from rfl, show (2 : Int) ^ 1 = 2 from rfl] at this
  rw [this]
  omega
theorem mul_len (x y : Nat) : (dg (x * y)).length ≤ (dg x).length + (dg y).length := by
  refine dg_len_le ?_
  rw [bp_add]
  exact Nat.mul_lt_mul'' (dg_lt_len x) (dg_lt_len y)
theorem times2_ev {a b : Nat} (h1 : (dg a).length < 268435456) (h2 : (dg b).length < 268435456) : Ev (fun k => nat_times.f k (dg a) (dg b)) (dg (a * b)) := by
  refine Ev.cast (times_ev (lm_dg a) (lm_dg b) h1 h2) ?_
  rw [lv_dg, lv_dg, ← Int.natCast_mul, Int.toNat_natCast]
theorem trim2_ev {a : Nat} (h1 : (dg a).length < 268435456) : Ev (fun k => nat_Trim.f k (dg a)) (dg a) := by
  refine Ev.cast (trim_ev (lm_dg a) (by omega)) ?_
  rw [lv_dg, Int.toNat_natCast]
theorem pow_half (y x n : Nat) : y * x ^ n = (if n % 2 = 1 then y * x else y) * (x * x) ^ (n / 2) := by
  have e : n = 2 * (n / 2) + n % 2 := by omega
  have h : x ^ n = (x * x) ^ (n / 2) * x ^ (n % 2) := by
    conv => lhs; rw [e]
    rw [Nat.pow_add, Nat.pow_mul, Nat.pow_two]
  rw [h]
  by_cases g : n % 2 = 1
  · rw [if_pos g, g, Nat.pow_one]; simp only [Nat.mul_assoc, Nat.mul_comm x]
  · rw [if_neg g, show n % 2 = 0 by omega, Nat.pow_zero, Nat.mul_one]
theorem pow_loop : ∀ (n : Nat), 0 < n → n < 4611686018427387904 → ∀ (y x : Nat), Aside0 ((dg x).length * n + (dg y).length ≤ 4096) → Ev (fun k => nat_Pow.l0 k (n : Int) (dg y) (dg x)) (dg (y * x ^ n), 0) := by
  intro n
  induction n using Nat.strongRecOn with
  | _ n ih =>
    intro h0 h1 y x hl
    have hx : (dg x).length ≤ 4096 := by
      have h2 := hl.out
      have h3 : (dg x).length * 1 ≤ (dg x).length * n := Nat.mul_le_mul_left _ h0
      omega
    have hy : (dg y).length ≤ 4096 := by have := hl.out; omega
    have hyx := mul_len y x
    have hxx := mul_len x x
    refine Ev.succ ?_
    have hd : (n : Int) / 2 = ((n / 2 : Nat) : Int) := by omega
    have hy2 : Aside0 ((dg (x * x)).length * (n / 2) + (dg (if n % 2 = 1 then y * x else y)).length ≤ 4096) := by
      refine ⟨?_⟩
      have h2 := hl.out
      have h3 : (dg (x * x)).length * (n / 2) ≤ ((dg x).length + (dg x).length) * (n / 2) := Nat.mul_le_mul_right _ hxx
      have h4 : ((dg x).length + (dg x).length) * (n / 2) + (dg x).length * (n % 2) = (dg x).length * n := by
        conv => rhs; rw [show n = 2 * (n / 2) + n % 2 by omega]
        rw [Nat.mul_add, ← Nat.two_mul, Nat.mul_assoc, Nat.mul_left_comm]
      by_cases g : n % 2 = 1
      · rw [if_pos g]
        rw [g, Nat.mul_one] at h4
        omega
      · rw [if_neg g]
        rw [show n % 2 = 0 by omega, Nat.mul_zero] at h4
        omega
    have fin : n / 2 = 0 → Ev (fun k => if (((dg (if n % 2 = 1 then y * x else y)).length : Nat) : Int) > 4096 then some (([] : List Int), (8 : Int)) else (nat_Trim.f k (dg (if n % 2 = 1 then y * x else y))).bind fun t => some (t, 0)) (dg (y * x ^ n), 0) := by
      intro hz
      have h2 := hy2.out
      rw [hz, Nat.mul_zero] at h2
      rw [pow_half y x n, hz, Nat.pow_zero, Nat.mul_one]
      simp only [if_neg (show ¬ (((dg (if n % 2 = 1 then y * x else y)).length : Nat) : Int) > 4096 by omega)]
      refine Ev.bind (trim2_ev (by omega)) ?_
      exact Ev.some _
    have go : n / 2 ≠ 0 → Ev (fun k => (nat_times.f k (dg x) (dg x)).bind fun t => nat_Pow.l0 k ((n / 2 : Nat) : Int) (dg (if n % 2 = 1 then y * x else y)) t) (dg (y * x ^ n), 0) := by
      intro hz
      refine Ev.bind (times2_ev (by omega) (by omega)) ?_
      rw [pow_half y x n]
      exact ih (n / 2) (by omega) (by omega) (by omega) _ _ hy2
    simp only [nat_Pow.l0, and1 (show n < 9223372036854775808 by omega), hd]
    clear hy2 hl
    by_cases g : n % 2 = 1
    · rw [if_pos g] at fin go
      simp only [if_pos (show ((n % 2 : Nat) : Int) = 1 by omega)]
      refine Ev.bind (times2_ev (by omega) (by omega)) ?_
      by_cases hz : n / 2 = 0
      · simp only [if_pos (show ((n / 2 : Nat) : Int) = 0 by omega)]
        exact fin hz
      · simp only [if_neg (show ¬ ((n / 2 : Nat) : Int) = 0 by omega)]
        exact go hz
    · rw [if_neg g] at fin go
      simp only [if_neg (show ¬ ((n % 2 : Nat) : Int) = 1 by omega)]
      by_cases hz : n / 2 = 0
      · simp only [if_pos (show ((n / 2 : Nat) : Int) = 0 by omega)]
        exact fin hz
      · simp only [if_neg (show ¬ ((n / 2 : Nat) : Int) = 0 by omega)]
        exact go hz
theorem pow_ev {x n : Nat} (hx : x < 4294967296) (hn : n < 4096) : Ev (fun k => nat_Pow.f k (dg x) (n : Int)) (dg (x ^ n), 0) := by
  have hxl : (dg x).length ≤ 1 := dg_len_le (by rw [show (1 : Nat) = 0 + 1 from rfl, bp_succ, bp_zero]; omega)
  simp only [nat_Pow.f, if_neg (show ¬ (n : Int) < 0 by omega)]
  refine Ev.bind (bits_ev (by omega)) ?_
  have one : ([1] : List Int) = dg 1 := dg_one.symm
  by_cases h0 : n = 0
  · subst h0
    simp only [if_pos (show ((0 : Nat) : Int) = 0 from rfl)]
    refine Ev.succ ?_
    simp only [nat_Pow.j0, if_true, Nat.pow_zero, one]
    exact Ev.some _
  · simp only [if_neg (show ¬ (n : Int) = 0 by omega)]
    by_cases h1 : x = 1
    · subst h1
      rw [bl_one.mpr rfl]
      refine Ev.succ ?_
      simp only [nat_Pow.j0, Nat.one_pow, one]
      exact Ev.some _
    · have hb1 : bl x ≠ 1 := fun e => h1 (bl_one.mp e)
      have hbl : bl x ≤ 32 := by
        by_cases hx0 : x = 0
        · subst hx0; rw [bl_zero.mpr rfl]; omega
        · rw [bl_small hx0 hx]; exact bits_half x hx
      rw [show (((bl x : Nat) : Int) == 1) = false from by simp; omega]
      refine Ev.succ ?_
      simp only [nat_Pow.j0, Bool.false_eq_true, if_false]
      by_cases hx0 : x = 0
      · subst hx0
        simp only [bl_zero.mpr rfl, if_pos (show ((0 : Nat) : Int) = 0 from rfl)]
        rw [Nat.zero_pow (by omega), dg_zero]
        exact Ev.some _
      · have hb0 : bl x ≠ 0 := fun e => hx0 (bl_zero.mp e)
        have hmul : (bl x - 1) * n ≤ 31 * 4095 := Nat.mul_le_mul (by omega) (by omega)
        have e2 : wrap64 (wrap64 ((bl x : Int) - 1) * (n : Int)) = (((bl x - 1) * n : Nat) : Int) := by
          rw [wn (show (bl x : Int) - 1 = ((bl x - 1 : Nat) : Int) by omega) (by omega)]
          exact wn (by rw [Int.natCast_mul]) (by omega)
        have e3 : ¬ wrap64 (wrap64 ((bl x : Int) - 1) * (n : Int)) ≥ 131072 := by rw [e2]; clear e2; omega
        simp only [if_neg (show ¬ ((bl x : Nat) : Int) = 0 by clear e2 e3; omega), if_neg (show ¬ (n : Int) > 131072 by clear e2 e3; omega), if_neg e3]
        clear e2 e3
        refine Ev.bind (short_ev (lm_dg x) (by omega)) ?_
        rw [lv_dg, Int.toNat_natCast, one]
        refine Ev.cast (pow_loop n (by omega) (by omega) 1 x ⟨?_⟩) (by rw [Nat.one_mul])
        have h5 : (dg x).length * n ≤ 1 * 4095 := Nat.mul_le_mul hxl (by omega)
        rw [dg_one]
        simp only [List.length_cons, List.length_nil]
        omega
end Mw
end
section
set_option linter.unusedVariables false
set_option linter.unusedSimpArgs false
namespace Mw
open Go Go.RowKit Go.Proofs.YtifkbghnmhineaaW.PrintWords Go.Proofs.YtifkbghnmhineaaW.PrintLast Go.Proofs.YtifkbghnmhineaaW.PrintMore Go.Proofs.Ytifkbghnmhineaa.PAll
theorem rtrim_loop {l : List Int} (hl : Lm l) (hlen : l.length < 1099511627776) : ∀ n : Nat, n ≤ l.length → (∀ i : Nat, n ≤ i → i < l.length → rd l (i : Int) = 0) →
    Ev (fun k => codewrightref01_Trim.l0 k l (n : Int)) (dg (lv l).toNat) := by
  intro n
  induction n with
  | zero =>
    intro hn hz
    refine Ev.succ ?_
    simp only [codewrightref01_Trim.l0, Option.bind_some, if_neg (show ¬ ((0 : Nat) : Int) > 0 by omega), if_pos (show (0 : Int) ≤ ((0 : Nat) : Int) by omega), if_pos (show ((0 : Nat) : Int) ≤ (l.length : Int) by omega), if_pos (show ([] : List Int).length + (l.take ((0 : Nat) : Int).toNat).length < 35184372088832 by simp), List.nil_append]
    refine Ev.cast (Ev.some _) ?_
    rw [show (((0 : Nat) : Int)).toNat = 0 from rfl]
    exact dg_take hl hn hz (.inl rfl)
  | succ n ih =>
    intro hn hz
    refine Ev.succ ?_
    have e : wrap64 (((n + 1 : Nat) : Int) - 1) = (n : Int) := by rw [w64 (by omega) (by omega)]; omega
    by_cases h : rd l (n : Int) = 0
    · simp only [codewrightref01_Trim.l0, e, if_pos (show ((n + 1 : Nat) : Int) > 0 by omega), if_pos (show (0 : Int) ≤ (n : Int) by omega), if_pos (show (n : Int) < (l.length : Int) by omega), if_pos h]
      exact ih (by omega) (fun i h1 h2 => by
        by_cases e2 : i = n
        · subst e2; exact h
        · exact hz i (by omega) h2)
    · have hlt : ([] : List Int).length + (l.take ((n + 1 : Nat) : Int).toNat).length < 35184372088832 := by
        rw [List.length_take, List.length_nil]; clear e; omega
      simp only [codewrightref01_Trim.l0, Option.bind_some, e, if_pos (show ((n + 1 : Nat) : Int) > 0 by omega), if_pos (show (0 : Int) ≤ (n : Int) by omega), if_pos (show (n : Int) < (l.length : Int) by omega), if_neg h, if_pos (show (0 : Int) ≤ ((n + 1 : Nat) : Int) by omega), if_pos (show ((n + 1 : Nat) : Int) ≤ (l.length : Int) by omega), if_pos hlt, List.nil_append]
      refine Ev.cast (Ev.some _) ?_
      rw [show (((n + 1 : Nat) : Int)).toNat = n + 1 by omega]
      exact dg_take hl hn hz (.inr h)
theorem rtrim_ev {l : List Int} (hl : Lm l) (hlen : l.length < 1099511627776) : Ev (fun k => codewrightref01_Trim.f k l) (dg (lv l).toNat) := by
  simp only [codewrightref01_Trim.f]
  exact rtrim_loop hl hlen l.length (Nat.le_refl _) (fun i h1 h2 => by omega)
theorem rtrim2_ev {a : Nat} (h1 : (dg a).length < 268435456) : Ev (fun k => codewrightref01_Trim.f k (dg a)) (dg a) := by
  refine Ev.cast (rtrim_ev (lm_dg a) (by omega)) ?_
  rw [lv_dg, Int.toNat_natCast]
theorem rof_ev {n : Nat} (hn : n < 18446744073709551616) : Ev (fun k => codewrightref01_Of.f k (n : Int)) (dg n) := by
  simp only [codewrightref01_Of.f]
  have e1 : Int.tmod (n : Int) 4294967296 = (n : Int) % 4294967296 := Int.tmod_eq_emod_of_nonneg (by omega)
  have e2 : Int.tdiv (n : Int) 4294967296 = (n : Int) / 4294967296 := Int.tdiv_eq_ediv_of_nonneg (by omega)
  rw [e1, e2, u64w (x := (n : Int) / 4294967296) (by clear e1 e2; omega) (by clear e1 e2; omega)]
  have hl : Lm [(n : Int) % 4294967296 % 4294967296, ((n : Int) / 4294967296) % 4294967296] := by
    rw [lm_cons, lm_cons]
    clear e1 e2
    exact ⟨by omega, by omega, lm_nil⟩
  refine Ev.bind (rtrim_ev hl (by simp)) ?_
  refine Ev.cast (Ev.some _) ?_
  congr 1
  simp only [lv_cons, lv_nil]
  clear e1 e2
  omega
theorem limb_eq {l : List Int} (hl : Lm l) (i : Nat) : codewrightref01_limb.f l (i : Int) = some (rd l (i : Int)) := by
  unfold codewrightref01_limb.f
  have r := rd_lm hl (i : Int)
  by_cases h : i < l.length
  · rw [if_pos (by omega), if_pos (by omega), u64w r.1 (by omega)]
  · rw [if_neg (by omega), rd_ge (by omega)]
theorem lv_take_any (l : List Int) (i : Nat) : lv (l.take (i + 1)) = lv (l.take i) + (bp i : Int) * rd l (i : Int) := by
  by_cases h : i < l.length
  · exact lv_take_succ h
  · rw [rd_ge (by omega), List.take_of_length_le (by omega), List.take_of_length_le (by omega)]; simp
theorem radd_sum {a b c : Int} (ha0 : 0 ≤ a) (ha1 : a < 4294967296) (hb0 : 0 ≤ b) (hb1 : b < 4294967296) (hc0 : 0 ≤ c) (hc1 : c ≤ 1) :
    IntKind.u64.wrap (IntKind.u64.wrap (a + b) + c) = a + b + c := by
  rw [u64w (x := a + b) (by omega) (by omega), u64w (by omega) (by omega)]
theorem tmod_nn {a : Int} (b : Int) (h : 0 ≤ a) : Int.tmod a b = a % b := Int.tmod_eq_emod_of_nonneg h
theorem tdiv_nn {a : Int} (b : Int) (h : 0 ≤ a) : Int.tdiv a b = a / b := Int.tdiv_eq_ediv_of_nonneg h
theorem radd_loop {a b : List Int} (ha : Lm a) (hb : Lm b) (hla : a.length < 549755813888) (hlb : b.length < 549755813888) : ∀ (d i : Nat) (o : List Int) (c : Int), i + d = max a.length b.length + 1 → o.length = i → Lm o → 0 ≤ c → c ≤ 1 → (d = 0 → c = 0) →
    Aside0 (lv o + (bp i : Int) * c = lv (a.take i) + lv (b.take i)) → Ev (fun k => codewrightref01_Add.l0 k a b o c (i : Int)) (dg (lv a + lv b).toNat) := by
  intro d
  induction d with
  | zero =>
    intro i o c hi ho hol hc0 hc1 hz hv
    have hc := hz rfl
    subst hc
    refine Ev.succ ?_
    simp only [codewrightref01_Add.l0, if_neg (show ¬ (i : Int) < (a.length : Int) by omega), if_neg (show ¬ (i : Int) < (b.length : Int) by omega), decide_eq_false (show ¬ (0 : Int) > 0 by omega)]
    refine Ev.succ ?_
    simp only [codewrightref01_Add.j1, Bool.false_eq_true, if_false]
    refine Ev.bind (rtrim_ev hol (by omega)) ?_
    refine Ev.cast (Ev.some _) ?_
    have hv := hv.out
    rw [List.take_of_length_le (by omega), List.take_of_length_le (by omega), Int.mul_zero, Int.add_zero] at hv
    rw [hv]
  | succ d ih =>
    intro i o c hi ho hol hc0 hc1 hz hv
    have ra := rd_lm ha (i : Int)
    have rb := rd_lm hb (i : Int)
    have body : Ev (fun k => codewrightref01_Add.j1 k a b o c (i : Int) true) (dg (lv a + lv b).toNat) := by
      refine Ev.succ ?_
      simp only [codewrightref01_Add.j1, if_true, limb_eq ha, limb_eq hb, Option.bind_some, if_pos (show o.length < 35184372088832 by omega), radd_sum ra.1 ra.2 rb.1 rb.2 hc0 hc1, tmod_nn 4294967296 (show 0 ≤ rd a (i : Int) + rd b (i : Int) + c by omega), tdiv_nn 4294967296 (show 0 ≤ rd a (i : Int) + rd b (i : Int) + c by omega), wn (show (i : Int) + 1 = ((i + 1 : Nat) : Int) by omega) (by omega), u64w (x := (rd a (i : Int) + rd b (i : Int) + c) / 4294967296) (by omega) (by omega), show (rd a (i : Int) + rd b (i : Int) + c) % 4294967296 % 4294967296 = (rd a (i : Int) + rd b (i : Int) + c) % 4294967296 by omega]
      have hs : ∃ s, s = rd a (i : Int) + rd b (i : Int) + c := ⟨_, rfl⟩
      obtain ⟨s, hs⟩ := hs
      rw [← hs]
      have hs0 : 0 ≤ s := by omega
      have hs1 : s ≤ 8589934591 := by omega
      refine ih (i + 1) _ _ (by omega) (by rw [List.length_append]; simp [ho]) (lm_append hol (lm_cons.mpr ⟨by omega, lm_nil⟩)) (by omega) (by omega) (fun hd => ?_) ⟨?_⟩
      · have h1 : rd a (i : Int) = 0 := rd_ge (by omega)
        have h2 : rd b (i : Int) = 0 := rd_ge (by omega)
        omega
      · rw [lv_append, lv_cons, lv_nil, ho, lv_take_any, lv_take_any, bp_succ, Int.natCast_mul]
        have hv := hv.out
        have hdiv : s % 4294967296 + 4294967296 * (s / 4294967296) = rd a (i : Int) + rd b (i : Int) + c := by rw [split_div]; exact hs
        clear ih hz hs hs0 hs1 ra rb hc0 hc1
        generalize s % 4294967296 = y at *
        generalize s / 4294967296 = u at *
        generalize (bp i : Int) = p at *
        generalize rd a (i : Int) = x at *
        generalize rd b (i : Int) = z at *
        generalize lv (a.take i) = la at *
        generalize lv (b.take i) = lb at *
        generalize lv o = lo at *
        show lo + p * (y + 4294967296 * 0) + 4294967296 * p * u = la + p * x + (lb + p * z)
        have h3 : p * (y + 4294967296 * u) = p * (x + z + c) := by rw [hdiv]
        have h4 : lo + p * c = la + lb := hv
        grind
    refine Ev.succ ?_
    simp only [codewrightref01_Add.l0]
    by_cases h1 : (i : Int) < (a.length : Int)
    · simp only [if_pos h1]; exact body
    · simp only [if_neg h1]
      by_cases h2 : (i : Int) < (b.length : Int)
      · simp only [if_pos h2]; exact body
      · simp only [if_neg h2]
        by_cases h3 : c > 0
        · simp only [decide_eq_true h3]; exact body
        · simp only [decide_eq_false h3]
          have hc : c = 0 := by omega
          subst hc
          refine Ev.succ ?_
          simp only [codewrightref01_Add.j1, Bool.false_eq_true, if_false]
          refine Ev.bind (rtrim_ev hol (by omega)) ?_
          refine Ev.cast (Ev.some _) ?_
          have hv := hv.out
          rw [List.take_of_length_le (by omega), List.take_of_length_le (by omega), Int.mul_zero, Int.add_zero] at hv
          rw [hv]
theorem radd_ev {a b : List Int} (ha : Lm a) (hb : Lm b) (hla : a.length < 549755813888) (hlb : b.length < 549755813888) : Ev (fun k => codewrightref01_Add.f k a b) (dg (lv a + lv b).toNat) := by
  simp only [codewrightref01_Add.f]
  exact radd_loop ha hb hla hlb _ 0 [] 0 (by rw [Nat.zero_add]) rfl lm_nil (by omega) (by omega) (fun h => by omega) ⟨by simp [lv_nil]⟩
theorem radd2_ev {a b : Nat} (ha : (dg a).length < 268435456) (hb : (dg b).length < 268435456) : Ev (fun k => codewrightref01_Add.f k (dg a) (dg b)) (dg (a + b)) := by
  refine Ev.cast (radd_ev (lm_dg a) (lm_dg b) (by omega) (by omega)) ?_
  rw [lv_dg, lv_dg, ← Int.natCast_add, Int.toNat_natCast]
theorem same_loop (a b : List Int) (hab : a.length = b.length) (hlen : a.length < 549755813888) : ∀ (d i : Nat), i + d = a.length → a.take i = b.take i → Ev (fun k => codewrightref01_Same.l0 k a b (i : Int)) (decide (a = b)) := by
  intro d
  induction d with
  | zero =>
    intro i hi he
    refine Ev.succ ?_
    simp only [codewrightref01_Same.l0, if_neg (show ¬ (i : Int) < (a.length : Int) by omega)]
    rw [List.take_of_length_le (by omega), List.take_of_length_le (by omega)] at he
    refine Ev.cast (Ev.some _) (decide_eq_true he).symm
  | succ d ih =>
    intro i hi he
    refine Ev.succ ?_
    simp only [codewrightref01_Same.l0, if_pos (show (i : Int) < (a.length : Int) by omega), if_pos (show (0 : Int) ≤ (i : Int) by omega), if_pos (show (i : Int) < (b.length : Int) by omega), wn (show (i : Int) + 1 = ((i + 1 : Nat) : Int) by omega) (by omega)]
    by_cases h : rd a (i : Int) = rd b (i : Int)
    · simp only [if_pos h]
      exact ih (i + 1) (by omega) (by rw [take_succ_rd (by omega), take_succ_rd (by omega), he, h])
    · simp only [if_neg h]
      exact Ev.cast (Ev.some _) (decide_eq_false (fun e => h (by rw [e]))).symm
theorem same_ev (a b : List Int) (hlen : a.length < 549755813888) : Ev (fun k => codewrightref01_Same.f k a b) (decide (a = b)) := by
  simp only [codewrightref01_Same.f]
  by_cases h : a.length = b.length
  · simp only [if_pos (show (a.length : Int) = (b.length : Int) by omega)]
    exact same_loop a b h hlen a.length 0 (by omega) rfl
  · simp only [if_neg (show ¬ (a.length : Int) = (b.length : Int) by omega)]
    exact Ev.cast (Ev.some _) (decide_eq_false (fun e => h (by rw [e]))).symm
theorem rmul_inner {b l : List Int} (hl : Lm l) (hb : Lm b) (hbl : b.length < 268435456) (hll : l.length < 268435456) (i : Nat) (hi : i < l.length) (V : Int) (R : List Int)
    (next : ∀ o : List Int, o.length = l.length + b.length → Lm o → (∀ j : Nat, i + 1 + b.length ≤ j → rd o (j : Int) = 0) → Aside0 (lv o = V + (bp i : Int) * (rd l (i : Int) * lv b)) → Ev (fun k => codewrightref01_Mul.l0 k l b o ((i + 1 : Nat) : Int)) R) :
    ∀ (d j : Nat) (o : List Int) (c : Int), j + d = b.length → o.length = l.length + b.length → Lm o → 0 ≤ c → c < 4294967296 → (∀ m : Nat, i + b.length ≤ m → rd o (m : Int) = 0) →
      Aside0 (lv o + (bp (i + j) : Int) * c = V + (bp i : Int) * (rd l (i : Int) * lv (b.take j))) →
      Ev (fun k => codewrightref01_Mul.l1 k l b o (i : Int) c (j : Int)) R := by
  intro d
  induction d with
  | zero =>
    intro j o c hj ho hol hc0 hc1 hz hv
    have hj : j = b.length := by omega
    subst hj
    refine Ev.succ ?_
    simp only [codewrightref01_Mul.l1, wn (show (i : Int) + (b.length : Int) = ((i + b.length : Nat) : Int) by omega) (by omega), wn (show (i : Int) + 1 = ((i + 1 : Nat) : Int) by omega) (by omega), if_neg (show ¬ ((b.length : Nat) : Int) < (b.length : Int) by omega), if_pos (show (0 : Int) ≤ ((i + b.length : Nat) : Int) by omega), if_pos (show ((i + b.length : Nat) : Int) < (o.length : Int) by omega)]
    rw [Int.toNat_natCast, show c % 4294967296 = c by omega]
    refine next _ (by rw [List.length_set]; omega) (lm_set hol hc0 hc1) (fun m hm => ?_) ⟨?_⟩
    · rw [rd_set_ne _ (by omega)]; exact hz m (by omega)
    · rw [lv_set _ (by omega), hz _ (Nat.le_refl _), Int.sub_zero, hv.out, List.take_of_length_le (Nat.le_refl _)]
  | succ d ih =>
    intro j o c hj ho hol hc0 hc1 hz hv
    have hjb : j < b.length := by omega
    have rl := rd_lm hl (i : Int)
    refine Ev.succ ?_
    have rb := rd_lm hb (j : Int)
    have ro := rd_lm hol ((i + j : Nat) : Int)
    have hb2 := mac_bound rl.1 rl.2 rb.1 rb.2 ro.1 ro.2 hc0 hc1
    have hs00 : 0 ≤ rd l (i : Int) * rd b (j : Int) + rd o ((i + j : Nat) : Int) + c := Int.add_nonneg (Int.add_nonneg hb2.1 ro.1) hc0
    simp only [codewrightref01_Mul.l1, wn (show (i : Int) + (j : Int) = ((i + j : Nat) : Int) by omega) (by omega), wn (show (j : Int) + 1 = ((j + 1 : Nat) : Int) by omega) (by omega), if_pos (show (j : Int) < (b.length : Int) by omega), if_pos (show (0 : Int) ≤ (i : Int) by omega), if_pos (show (i : Int) < (l.length : Int) by omega), if_pos (show (0 : Int) ≤ (j : Int) by omega), if_pos (show (0 : Int) ≤ ((i + j : Nat) : Int) by omega), if_pos (show ((i + j : Nat) : Int) < (o.length : Int) by omega), mac_wrap rl.1 rl.2 rb.1 rb.2 ro.1 ro.2 hc0 hc1, tmod_nn 4294967296 hs00, tdiv_nn 4294967296 hs00]
    have hdef : ∃ s, s = rd l (i : Int) * rd b (j : Int) + rd o ((i + j : Nat) : Int) + c := ⟨_, rfl⟩
    obtain ⟨s, hs⟩ := hdef
    have hs0 : 0 ≤ s := by rw [hs]; exact hs00
    have hs1 : s < 18446744073709551616 := by rw [hs]; exact hb2.2
    have hd := div_bound hs0 hs1
    clear hb2
    rw [← hs]
    rw [Int.toNat_natCast]
    have hs := Aside0.mk hs
    have hq : IntKind.u64.wrap (s / 4294967296) = s / 4294967296 := u64w hd.2.2.1 (by omega)
    rw [hq]
    clear hq
    rw [show s % 4294967296 % 4294967296 = s % 4294967296 by omega]
    refine ih (j + 1) _ _ (by omega) (by rw [List.length_set]; omega) (lm_set hol hd.1 hd.2.1) hd.2.2.1 hd.2.2.2 (fun m hm => ?_) ⟨?_⟩
    · rw [rd_set_ne _ (by omega)]; exact hz m hm
    · rw [lv_set _ (by omega), lv_take_succ hjb, ← Nat.add_assoc, bp_succ, Int.natCast_mul]
      have hdiv : s % 4294967296 + 4294967296 * (s / 4294967296) = rd l (i : Int) * rd b (j : Int) + rd o ((i + j : Nat) : Int) + c := by rw [split_div]; exact hs.out
      have hv := hv.out
      have hbp : ((bp (i + j) : Nat) : Int) = (bp i : Int) * (bp j : Int) := by rw [bp_add, Int.natCast_mul]
      clear ih hz next hs hs0 hs1 hd rb ro hc0 hc1 hs00 rl
      generalize s % 4294967296 = y at *
      generalize s / 4294967296 = u at *
      generalize (bp (i + j) : Int) = p at *
      generalize (bp i : Int) = pi at *
      generalize (bp j : Int) = pj at *
      generalize rd b (j : Int) = rb at *
      generalize rd l (i : Int) = x at *
      generalize rd o ((i + j : Nat) : Int) = ro at *
      generalize lv o = lo at *
      generalize lv (b.take j) = lt at *
      subst hbp
      have h1 : lo + pi * pj * c = V + pi * (x * lt) := hv
      have h2 : y + 4294967296 * u = x * rb + ro + c := hdiv
      show lo + pi * pj * (y - ro) + 4294967296 * (pi * pj) * u = V + pi * (x * (lt + pj * rb))
      have h3 : pi * pj * (y + 4294967296 * u) = pi * pj * (x * rb + ro + c) := by rw [h2]
      grind
theorem rmul_outer {b l : List Int} (hb : Lm b) (hl : Lm l) (hbl : b.length < 268435456) (hll : l.length < 268435456) : ∀ (d i : Nat) (o : List Int), i + d = l.length → o.length = l.length + b.length → Lm o → (∀ m : Nat, i + b.length ≤ m → rd o (m : Int) = 0) →
    Aside0 (lv o = lv (l.take i) * lv b) → Ev (fun k => codewrightref01_Mul.l0 k l b o (i : Int)) (dg (lv l * lv b).toNat) := by
  intro d
  induction d with
  | zero =>
    intro i o hi ho hol hz hv
    have hi : i = l.length := by omega
    subst hi
    refine Ev.succ ?_
    simp only [codewrightref01_Mul.l0, if_neg (show ¬ ((l.length : Nat) : Int) < (l.length : Int) by omega)]
    refine Ev.bind (rtrim_ev hol (by omega)) ?_
    refine Ev.cast (Ev.some _) ?_
    rw [hv.out, List.take_of_length_le (Nat.le_refl _)]
  | succ d ih =>
    intro i o hi ho hol hz hv
    have hil : i < l.length := by omega
    refine Ev.succ ?_
    simp only [codewrightref01_Mul.l0, if_pos (show (i : Int) < (l.length : Int) by omega)]
    refine rmul_inner hl hb hbl hll i hil (lv (l.take i) * lv b) _ (fun o2 h1 h2 h3 h4 => ?_) b.length 0 o 0 (by omega) ho hol (by omega) (by omega) hz ⟨?_⟩
    · refine ih (i + 1) o2 (by omega) h1 h2 (fun m hm => h3 m hm) ⟨?_⟩
      rw [h4.out, lv_take_succ hil, Int.add_mul, Int.mul_assoc]
    · rw [hv.out]; simp [lv_nil]
theorem rmul_ev {a b : List Int} (ha : Lm a) (hb : Lm b) (h1 : a.length < 268435456) (h2 : b.length < 268435456) : Ev (fun k => codewrightref01_Mul.f k a b) (dg (lv a * lv b).toNat) := by
  simp only [codewrightref01_Mul.f]
  simp only [wn (show (a.length : Int) + (b.length : Int) = ((a.length + b.length : Nat) : Int) by omega) (by omega), Int.toNat_natCast, if_pos (show (0 : Int) ≤ ((a.length + b.length : Nat) : Int) by omega), if_pos (show a.length + b.length ≤ 70368744177664 by omega)]
  exact rmul_outer hb ha h2 h1 a.length 0 _ (by omega) (by simp) (lm_rep _) (fun m _ => rd_rep _ m) ⟨by rw [lv_rep]; simp [lv_nil]⟩
theorem rmul2_ev {a b : Nat} (h1 : (dg a).length < 268435456) (h2 : (dg b).length < 268435456) : Ev (fun k => codewrightref01_Mul.f k (dg a) (dg b)) (dg (a * b)) := by
  refine Ev.cast (rmul_ev (lm_dg a) (lm_dg b) h1 h2) ?_
  rw [lv_dg, lv_dg, ← Int.natCast_mul, Int.toNat_natCast]
end Mw
end
section
set_option linter.unusedVariables false
set_option linter.unusedSimpArgs false
namespace Mw
open Go Go.RowKit Go.Proofs.YtifkbghnmhineaaW.PrintWords Go.Proofs.YtifkbghnmhineaaW.PrintLast Go.Proofs.YtifkbghnmhineaaW.PrintMore Go.Proofs.Ytifkbghnmhineaa.PAll
theorem rbits_loop : ∀ (b x n : Nat), x < 4294967296 → Lib.bitLen x = b → n + b < 9223372036854775000 → Ev (fun k => codewrightref01_Bits.l0 k (n : Int) (x : Int)) ((n + b : Nat) : Int) := by
  intro b
  induction b with
  | zero =>
    intro x n hx hb hn
    have h0 : x = 0 := by
      by_cases h : x = 0
      · exact h
      · have := bitLen_pos h hx; omega
    subst h0
    refine Ev.succ ?_
    simp only [codewrightref01_Bits.l0, if_neg (show ¬ ((0 : Nat) : Int) > 0 by omega)]
    exact Ev.some _
  | succ b ih =>
    intro x n hx hb hn
    have h0 : x ≠ 0 := by intro h; subst h; rw [bitLen_zero] at hb; omega
    have hb2 : b + 1 ≤ 32 := by rw [← hb]; exact bits_half x hx
    rw [Lib.bitLen_half x h0 (by omega)] at hb
    refine Ev.succ ?_
    simp only [codewrightref01_Bits.l0, if_pos (show (x : Int) > 0 by omega), tdiv_nn 2 (show (0 : Int) ≤ (x : Int) by omega), show (x : Int) / 2 % 4294967296 = ((x / 2 : Nat) : Int) by omega, wn (show (n : Int) + 1 = ((n + 1 : Nat) : Int) by omega) (by omega)]
    refine Ev.cast (ih (x / 2) (n + 1) (by omega) (by omega) (by omega)) (by omega)
theorem rbits_ev {n : Nat} (hn : (dg n).length < 33554432) : Ev (fun k => codewrightref01_Bits.f k (dg n)) ((bl n : Nat) : Int) := by
  simp only [codewrightref01_Bits.f]
  refine Ev.bind (rtrim2_ev (by omega)) ?_
  by_cases h : n = 0
  · subst h
    rw [dg_zero]
    simp only [List.length_nil, if_pos (show ((0 : Nat) : Int) = 0 from rfl)]
    exact Ev.cast (Ev.some _) (by simp [bl])
  · have hp : (dg n).length ≠ 0 := by rw [Ne, dg_len_zero]; exact h
    obtain ⟨m, hm⟩ : ∃ m, (dg n).length = m + 1 := ⟨(dg n).length - 1, by omega⟩
    have hb : bl n = 32 * m + Lib.bitLen (rd (dg n) (m : Int)).toNat := by unfold bl; rw [if_neg h, hm]; rfl
    have hr := rd_lm (lm_dg n) (m : Int)
    have hbl := bits_half (rd (dg n) (m : Int)).toNat (by omega)
    rw [hb, hm]
    simp only [if_neg (show ¬ ((m + 1 : Nat) : Int) = 0 by omega), wn (show ((m + 1 : Nat) : Int) - 1 = (m : Int) by omega) (by omega), if_pos (show (0 : Int) ≤ (m : Int) by omega), if_pos (show (m : Int) < ((m + 1 : Nat) : Int) by omega)]
    rw [wn (show (32 : Int) * (m : Int) = ((32 * m : Nat) : Int) by omega) (by omega)]
    obtain ⟨x, hx⟩ : ∃ x : Nat, rd (dg n) (m : Int) = (x : Int) := ⟨(rd (dg n) (m : Int)).toNat, by omega⟩
    rw [hx] at hr hbl ⊢
    exact rbits_loop _ x (32 * m) (by omega) rfl (by omega)
end Mw
end
section
set_option linter.unusedVariables false
set_option linter.unusedSimpArgs false
namespace Mw
open Go Go.RowKit Go.Proofs.YtifkbghnmhineaaW.PrintWords Go.Proofs.YtifkbghnmhineaaW.PrintLast Go.Proofs.YtifkbghnmhineaaW.PrintMore Go.Proofs.Ytifkbghnmhineaa.PAll
def cmpZ (x y : Int) : Int := if x < y then -1 else if y < x then 1 else 0
theorem take_bound {a : List Int} (ha : Lm a) (n : Nat) : 0 ≤ lv (a.take n) ∧ lv (a.take n) < bp n := by
  have h1 := lv_nonneg (lm_take ha n)
  have h2 := lv_le_of_len (lm_take ha n) (m := n) (by rw [List.length_take]; omega)
  omega
theorem cmp_lt {a b : List Int} (ha : Lm a) (hb : Lm b) (n : Nat) (h : rd a (n : Int) < rd b (n : Int)) : lv (a.take (n + 1)) < lv (b.take (n + 1)) := by
  have h1 := take_bound ha n
  have h2 := take_bound hb n
  have h3 : (bp n : Int) * (rd a (n : Int) + 1) ≤ (bp n : Int) * rd b (n : Int) := Int.mul_le_mul_of_nonneg_left (by omega) (by omega)
  rw [lv_take_any, lv_take_any]
  rw [Int.mul_add, Int.mul_one] at h3
  generalize (bp n : Int) * rd a (n : Int) = x at *
  generalize (bp n : Int) * rd b (n : Int) = y at *
  omega
theorem cmp_step {a b : List Int} (ha : Lm a) (hb : Lm b) (n : Nat) : cmpZ (lv (a.take (n + 1))) (lv (b.take (n + 1))) = if rd a (n : Int) < rd b (n : Int) then -1 else if rd b (n : Int) < rd a (n : Int) then 1 else cmpZ (lv (a.take n)) (lv (b.take n)) := by
  by_cases h : rd a (n : Int) < rd b (n : Int)
  · rw [if_pos h]
    unfold cmpZ
    rw [if_pos (cmp_lt ha hb n h)]
  · rw [if_neg h]
    by_cases g : rd b (n : Int) < rd a (n : Int)
    · rw [if_pos g]
      have := cmp_lt hb ha n g
      unfold cmpZ
      rw [if_neg (by omega), if_pos this]
    · rw [if_neg g]
      have e : rd a (n : Int) = rd b (n : Int) := by omega
      rw [lv_take_any, lv_take_any, e]
      unfold cmpZ
      generalize (bp n : Int) * rd b (n : Int) = y at *
      by_cases h1 : lv (a.take n) < lv (b.take n)
      · rw [if_pos h1, if_pos (by omega)]
      · rw [if_neg h1, if_neg (by omega)]
        by_cases h2 : lv (b.take n) < lv (a.take n)
        · rw [if_pos h2, if_pos (by omega)]
        · rw [if_neg h2, if_neg (by omega)]
theorem ncmp_loop {a b : List Int} (ha : Lm a) (hb : Lm b) (hlen : a.length < 1073741824) (hab : a.length = b.length) : ∀ n : Nat, n ≤ a.length → Ev (fun k => nat_Cmp.l0 k a b ((n : Int) - 1)) (cmpZ (lv (a.take n)) (lv (b.take n))) := by
  intro n
  induction n with
  | zero =>
    intro _
    refine Ev.succ ?_
    simp only [nat_Cmp.l0, if_neg (show ¬ ((0 : Nat) : Int) - 1 ≥ 0 by omega)]
    exact Ev.cast (Ev.some _) (by simp [cmpZ])
  | succ n ih =>
    intro hn
    refine Ev.succ ?_
    rw [cmp_step ha hb n]
    simp only [nat_Cmp.l0, show ((n + 1 : Nat) : Int) - 1 = (n : Int) from by omega, if_pos (show (n : Int) ≥ 0 by omega), if_pos (show (0 : Int) ≤ (n : Int) by omega), if_pos (show (n : Int) < (a.length : Int) by omega), if_pos (show (n : Int) < (b.length : Int) by omega), w64 (x := (n : Int) - 1) (by omega) (by omega)]
    by_cases h : rd a (n : Int) < rd b (n : Int)
    · simp only [if_pos h]; exact Ev.some _
    · simp only [if_neg h]
      by_cases g : rd b (n : Int) < rd a (n : Int)
      · simp only [if_pos g, if_pos (show rd a (n : Int) > rd b (n : Int) from g)]; exact Ev.some _
      · simp only [if_neg g, if_neg (show ¬ rd a (n : Int) > rd b (n : Int) from g)]; exact ih (by omega)
theorem ncmp_ev {a b : Nat} (h1 : (dg a).length < 268435456) (h2 : (dg b).length < 268435456) : Ev (fun k => nat_Cmp.f k (dg a) (dg b)) (cmpZ (a : Int) (b : Int)) := by
  simp only [nat_Cmp.f]
  refine Ev.bind (short_ev (lm_dg a) (by omega)) ?_
  refine Ev.bind (short_ev (lm_dg b) (by omega)) ?_
  rw [lv_dg, lv_dg, Int.toNat_natCast, Int.toNat_natCast]
  by_cases h : (dg a).length = (dg b).length
  · simp only [if_pos (show ((dg a).length : Int) = ((dg b).length : Int) by omega), w64 (x := ((dg a).length : Int) - 1) (by omega) (by omega)]
    have := ncmp_loop (lm_dg a) (lm_dg b) (by omega) h _ (Nat.le_refl _)
    rw [List.take_of_length_le (Nat.le_refl _), List.take_of_length_le (by omega), lv_dg, lv_dg] at this
    exact this
  · simp only [if_neg (show ¬ ((dg a).length : Int) = ((dg b).length : Int) by omega)]
    by_cases g : (dg a).length < (dg b).length
    · simp only [if_pos (show ((dg a).length : Int) < ((dg b).length : Int) by omega)]
      have hlt : a < b := by
        by_cases e : b ≤ a
        · have := dg_len_mono e; omega
        · omega
      exact Ev.cast (Ev.some _) (by unfold cmpZ; rw [if_pos (by omega)])
    · simp only [if_neg (show ¬ ((dg a).length : Int) < ((dg b).length : Int) by omega)]
      have hlt : b < a := by
        by_cases e : a ≤ b
        · have := dg_len_mono e; omega
        · omega
      exact Ev.cast (Ev.some _) (by unfold cmpZ; rw [if_neg (by omega), if_pos (by omega)])
theorem rcmp_loop {a b : List Int} (ha : Lm a) (hb : Lm b) : ∀ n : Nat, n < 1073741824 → Ev (fun k => codewrightref01_Cmp.l0 k a b ((n : Int) - 1)) (cmpZ (lv (a.take n)) (lv (b.take n))) := by
  intro n
  induction n with
  | zero =>
    intro _
    refine Ev.succ ?_
    simp only [codewrightref01_Cmp.l0, if_neg (show ¬ ((0 : Nat) : Int) - 1 ≥ 0 by omega)]
    exact Ev.cast (Ev.some _) (by simp [cmpZ])
  | succ n ih =>
    intro hn
    refine Ev.succ ?_
    rw [cmp_step ha hb n]
    simp only [codewrightref01_Cmp.l0, show ((n + 1 : Nat) : Int) - 1 = (n : Int) from by omega, if_pos (show (n : Int) ≥ 0 by omega), limb_eq ha, limb_eq hb, Option.bind_some, w64 (x := (n : Int) - 1) (by omega) (by omega)]
    by_cases h : rd a (n : Int) < rd b (n : Int)
    · simp only [if_pos h]; exact Ev.some _
    · simp only [if_neg h]
      by_cases g : rd b (n : Int) < rd a (n : Int)
      · simp only [if_pos g, if_pos (show rd a (n : Int) > rd b (n : Int) from g)]; exact Ev.some _
      · simp only [if_neg g, if_neg (show ¬ rd a (n : Int) > rd b (n : Int) from g)]; exact ih (by omega)
theorem rcmp_ev {a b : Nat} (h1 : (dg a).length < 268435456) (h2 : (dg b).length < 268435456) : Ev (fun k => codewrightref01_Cmp.f k (dg a) (dg b)) (cmpZ (a : Int) (b : Int)) := by
  simp only [codewrightref01_Cmp.f]
  have hm : mx ((dg a).length : Int) ((dg b).length : Int) = ((max (dg a).length (dg b).length : Nat) : Int) := by unfold mx; split <;> omega
  rw [hm, w64 (x := ((max (dg a).length (dg b).length : Nat) : Int) - 1) (by clear hm; omega) (by clear hm; omega)]
  have := rcmp_loop (lm_dg a) (lm_dg b) (max (dg a).length (dg b).length) (by clear hm; omega)
  rw [List.take_of_length_le (by clear hm; omega), List.take_of_length_le (by clear hm; omega), lv_dg, lv_dg] at this
  exact this
theorem sub_low {a b c : Int} (ha0 : 0 ≤ a) (ha1 : a < 4294967296) (hb0 : 0 ≤ b) (hb1 : b < 4294967296) (hc0 : 0 ≤ c) (hc1 : c ≤ 1) :
    IntKind.u64.wrap (IntKind.u64.wrap (IntKind.u64.wrap a - c) - IntKind.u64.wrap b) % 4294967296 = (a - c - b) % 4294967296 := by
  simp only [u64m]; omega
theorem sub_high {a b c : Int} (ha0 : 0 ≤ a) (ha1 : a < 4294967296) (hb0 : 0 ≤ b) (hb1 : b < 4294967296) (hc0 : 0 ≤ c) (hc1 : c ≤ 1) :
    IntKind.u64.wrap (IntKind.u64.wrap (IntKind.u64.wrap a - c) - IntKind.u64.wrap b) / 9223372036854775808 = -((a - c - b) / 4294967296) := by
  simp only [u64m]; omega
theorem sub_low0 {a c : Int} (ha0 : 0 ≤ a) (ha1 : a < 4294967296) (hc0 : 0 ≤ c) (hc1 : c ≤ 1) : IntKind.u64.wrap (IntKind.u64.wrap a - c) % 4294967296 = (a - c - 0) % 4294967296 := by
  simp only [u64m]; omega
theorem sub_high0 {a c : Int} (ha0 : 0 ≤ a) (ha1 : a < 4294967296) (hc0 : 0 ≤ c) (hc1 : c ≤ 1) : IntKind.u64.wrap (IntKind.u64.wrap a - c) / 9223372036854775808 = -((a - c - 0) / 4294967296) := by
  simp only [u64m]; omega
theorem sub_bounds {a b c : Int} (ha0 : 0 ≤ a) (ha1 : a < 4294967296) (hb0 : 0 ≤ b) (hb1 : b < 4294967296) (hc0 : 0 ≤ c) (hc1 : c ≤ 1) :
    0 ≤ (a - c - b) % 4294967296 ∧ (a - c - b) % 4294967296 < 4294967296 ∧ 0 ≤ -((a - c - b) / 4294967296) ∧ -((a - c - b) / 4294967296) ≤ 1 ∧ (a - c - b) % 4294967296 = a - c - b + 4294967296 * -((a - c - b) / 4294967296) := by omega
theorem nsub_loop {a b : List Int} (ha : Lm a) (hb : Lm b) (hlen : a.length < 1073741824) (hba : b.length ≤ a.length) (hle : lv b ≤ lv a) : ∀ (d i : Nat) (o : List Int) (c : Int), i + d = a.length → o.length = a.length → Lm o → 0 ≤ c → c ≤ 1 → (∀ j : Nat, i ≤ j → rd o (j : Int) = rd a (j : Int)) →
    Aside0 (lv o = lv a - lv (b.take i) + (bp i : Int) * c) → Ev (fun k => nat_Sub.l0 k b o c (a.length : Int) (i : Int)) (dg (lv a - lv b).toNat, 0) := by
  intro d
  induction d with
  | zero =>
    intro i o c hi ho hol hc0 hc1 hr hv
    have hi : i = a.length := by omega
    subst hi
    refine Ev.succ ?_
    simp only [nat_Sub.l0, if_neg (show ¬ ((a.length : Nat) : Int) < (a.length : Int) by omega)]
    refine Ev.bind (short_ev hol (by omega)) ?_
    refine Ev.cast (Ev.some _) ?_
    have hv := hv.out
    rw [List.take_of_length_le hba] at hv
    have h1 := lv_le_of_len hol (m := a.length) (by omega)
    have h2 := lv_nonneg hol
    have hc : c = 0 := by
      by_cases e : c = 1
      · subst e; rw [Int.mul_one] at hv; omega
      · omega
    subst hc
    rw [hv, Int.mul_zero, Int.add_zero]
  | succ d ih =>
    intro i o c hi ho hol hc0 hc1 hr hv
    have hia : i < a.length := by omega
    have ra := rd_lm ha (i : Int)
    have rb := rd_lm hb (i : Int)
    have hri := hr i (Nat.le_refl _)
    have step : Ev (fun k => nat_Sub.l0 k b (o.set ((i : Int)).toNat ((rd a (i : Int) - c - rd b (i : Int)) % 4294967296)) (-((rd a (i : Int) - c - rd b (i : Int)) / 4294967296)) (a.length : Int) ((i + 1 : Nat) : Int)) (dg (lv a - lv b).toNat, 0) := by
      have sb := sub_bounds ra.1 ra.2 rb.1 rb.2 hc0 hc1
      rw [Int.toNat_natCast]
      refine ih (i + 1) _ _ (by omega) (by rw [List.length_set]; exact ho) (lm_set hol sb.1 sb.2.1) sb.2.2.1 sb.2.2.2.1 (fun j hj => ?_) ⟨?_⟩
      · rw [rd_set_ne _ (by omega)]; exact hr j (by omega)
      · rw [lv_set _ (by omega), lv_take_any, bp_succ, Int.natCast_mul, sb.2.2.2.2, hri, hv.out]
        generalize -((rd a (i : Int) - c - rd b (i : Int)) / 4294967296) = u at *
        generalize (bp i : Int) = p at *
        generalize rd a (i : Int) = x at *
        generalize rd b (i : Int) = y at *
        show lv a - lv (b.take i) + p * c + p * (x - c - y + 4294967296 * u - x) = lv a - (lv (b.take i) + p * y) + 4294967296 * p * u
        grind
    refine Ev.succ ?_
    by_cases hib : i < b.length
    · simp only [nat_Sub.l0, wn (show (i : Int) + 1 = ((i + 1 : Nat) : Int) by omega) (by omega), if_pos (show (i : Int) < (a.length : Int) by omega), if_pos (show (0 : Int) ≤ (i : Int) by omega), if_pos (show (i : Int) < (o.length : Int) by omega), if_pos (show (i : Int) < (b.length : Int) by omega), hri, sub_low ra.1 ra.2 rb.1 rb.2 hc0 hc1, sub_high ra.1 ra.2 rb.1 rb.2 hc0 hc1]
      exact step
    · have hb0 : rd b (i : Int) = 0 := rd_ge (by omega)
      rw [hb0] at step
      simp only [nat_Sub.l0, wn (show (i : Int) + 1 = ((i + 1 : Nat) : Int) by omega) (by omega), if_pos (show (i : Int) < (a.length : Int) by omega), if_pos (show (0 : Int) ≤ (i : Int) by omega), if_pos (show (i : Int) < (o.length : Int) by omega), if_neg (show ¬ (i : Int) < (b.length : Int) by omega), hri, sub_low0 ra.1 ra.2 hc0 hc1, sub_high0 ra.1 ra.2 hc0 hc1]
      exact step
theorem nsub_ev {a b : Nat} (h1 : (dg a).length < 268435456) (hab : b ≤ a) : Ev (fun k => nat_Sub.f k (dg a) (dg b)) (dg (a - b), 0) := by
  have hl := dg_len_mono hab
  simp only [nat_Sub.f]
  refine Ev.bind (ncmp_ev (by omega) (by omega)) ?_
  have hc : ¬ cmpZ (a : Int) (b : Int) < 0 := by unfold cmpZ; rw [if_neg (by omega)]; split <;> omega
  simp only [if_neg hc]
  refine Ev.bind (trim2_ev (by omega)) ?_
  refine Ev.cast (nsub_loop (lm_dg a) (lm_dg b) (by omega) hl (by rw [lv_dg, lv_dg]; omega) (dg a).length 0 _ 0 (by omega) rfl (lm_dg a) (by omega) (by omega) (fun j _ => rfl) ⟨by simp [lv_nil]⟩) ?_
  rw [lv_dg, lv_dg]
  congr 2
  omega
theorem rsub_sum {a b c : Int} (ha0 : 0 ≤ a) (ha1 : a < 4294967296) (hb0 : 0 ≤ b) (hb1 : b < 4294967296) (hc0 : 0 ≤ c) (hc1 : c ≤ 1) :
    IntKind.u64.wrap (IntKind.u64.wrap (IntKind.u64.wrap (a + 4294967296) - b) - c) = a + 4294967296 - b - c := by
  rw [u64w (x := a + 4294967296) (by omega) (by omega), u64w (x := a + 4294967296 - b) (by omega) (by omega), u64w (by omega) (by omega)]
theorem rsub_loop {a b : List Int} (ha : Lm a) (hb : Lm b) (hlen : a.length < 1073741824) (hba : b.length ≤ a.length) (hle : lv b ≤ lv a) : ∀ (d i : Nat) (o : List Int) (c : Int), i + d = a.length → o.length = i → Lm o → 0 ≤ c → c ≤ 1 →
    Aside0 (lv o = lv (a.take i) - lv (b.take i) + (bp i : Int) * c) → Ev (fun k => codewrightref01_Sub.l0 k a b o c (i : Int)) (dg (lv a - lv b).toNat) := by
  intro d
  induction d with
  | zero =>
    intro i o c hi ho hol hc0 hc1 hv
    have hi : i = a.length := by omega
    subst hi
    refine Ev.succ ?_
    simp only [codewrightref01_Sub.l0, if_neg (show ¬ ((a.length : Nat) : Int) < (a.length : Int) by omega)]
    refine Ev.bind (rtrim_ev hol (by omega)) ?_
    refine Ev.cast (Ev.some _) ?_
    have hv := hv.out
    rw [List.take_of_length_le (Nat.le_refl _), List.take_of_length_le hba] at hv
    have h1 := lv_le_of_len hol (m := a.length) (by omega)
    have h2 := lv_nonneg hol
    have hc : c = 0 := by
      by_cases e : c = 1
      · subst e; rw [Int.mul_one] at hv; omega
      · omega
    subst hc
    rw [hv, Int.mul_zero, Int.add_zero]
  | succ d ih =>
    intro i o c hi ho hol hc0 hc1 hv
    have hia : i < a.length := by omega
    have ra := rd_lm ha (i : Int)
    have rb := rd_lm hb (i : Int)
    have hsd : ∃ s, s = rd a (i : Int) + 4294967296 - rd b (i : Int) - c := ⟨_, rfl⟩
    obtain ⟨s, hs⟩ := hsd
    have hs0 : 0 ≤ s := by omega
    have hs1 : s < 8589934592 := by omega
    refine Ev.succ ?_
    simp only [codewrightref01_Sub.l0, limb_eq ha, limb_eq hb, Option.bind_some, if_pos (show (i : Int) < (a.length : Int) by omega), if_pos (show o.length < 35184372088832 by omega), rsub_sum ra.1 ra.2 rb.1 rb.2 hc0 hc1, ← hs, tmod_nn 4294967296 hs0, tdiv_nn 4294967296 hs0, wn (show (i : Int) + 1 = ((i + 1 : Nat) : Int) by omega) (by omega), u64w (x := s / 4294967296) (by omega) (by omega), u64w (x := 1 - s / 4294967296) (by omega) (by omega), show s % 4294967296 % 4294967296 = s % 4294967296 by omega]
    refine ih (i + 1) _ _ (by omega) (by rw [List.length_append]; simp [ho]) (lm_append hol (lm_cons.mpr ⟨by omega, lm_nil⟩)) (by omega) (by omega) ⟨?_⟩
    rw [lv_append, lv_cons, lv_nil, ho, lv_take_any, lv_take_any, bp_succ, Int.natCast_mul, hv.out]
    have hdiv : s % 4294967296 + 4294967296 * (s / 4294967296) = rd a (i : Int) + 4294967296 - rd b (i : Int) - c := by rw [split_div]; exact hs
    clear ih hs hs0 hs1 ra rb hc0 hc1 hv
    generalize s % 4294967296 = y at *
    generalize s / 4294967296 = u at *
    generalize (bp i : Int) = p at *
    generalize rd a (i : Int) = x at *
    generalize rd b (i : Int) = z at *
    generalize lv (a.take i) = la at *
    generalize lv (b.take i) = lb at *
    show la - lb + p * c + p * (y + 4294967296 * 0) = la + p * x - (lb + p * z) + 4294967296 * p * (1 - u)
    have h3 : p * (y + 4294967296 * u) = p * (x + 4294967296 - z - c) := by rw [hdiv]
    grind
theorem rsub_ev {a b : Nat} (h1 : (dg a).length < 268435456) (hab : b ≤ a) : Ev (fun k => codewrightref01_Sub.f k (dg a) (dg b)) (dg (a - b)) := by
  have hl := dg_len_mono hab
  simp only [codewrightref01_Sub.f]
  refine Ev.cast (rsub_loop (lm_dg a) (lm_dg b) (by omega) hl (by rw [lv_dg, lv_dg]; omega) (dg a).length 0 [] 0 (by omega) rfl lm_nil (by omega) (by omega) ⟨by simp [lv_nil]⟩) ?_
  rw [lv_dg, lv_dg]
  congr 1
  omega
end Mw
end
section
set_option linter.unusedVariables false
set_option linter.unusedSimpArgs false
namespace Mw
open Go Go.RowKit Go.Proofs.YtifkbghnmhineaaW.PrintWords Go.Proofs.YtifkbghnmhineaaW.PrintLast Go.Proofs.YtifkbghnmhineaaW.PrintMore Go.Proofs.Ytifkbghnmhineaa.PAll
theorem bitLen_ge : ∀ (b x : Nat), x < 4294967296 → x ≠ 0 → Lib.bitLen x = b + 1 → 2 ^ b ≤ x := by
  intro b
  induction b with
  | zero => intro x _ h0 _; rw [Nat.pow_zero]; omega
  | succ b ih =>
    intro x hx h0 hb
    rw [Lib.bitLen_half x h0 (by omega)] at hb
    have h2 : x / 2 ≠ 0 := by intro e; rw [e, bitLen_zero] at hb; omega
    have := ih (x / 2) (by omega) h2 (by omega)
    rw [Nat.pow_succ]
    omega
theorem bl_bounds {n : Nat} (h : n ≠ 0) : 2 ^ (bl n - 1) ≤ n ∧ n < 2 ^ bl n ∧ 1 ≤ bl n := by
  have hp : (dg n).length ≠ 0 := by rw [Ne, dg_len_zero]; exact h
  obtain ⟨m, hm⟩ : ∃ m, (dg n).length = m + 1 := ⟨(dg n).length - 1, by omega⟩
  have hb : bl n = 32 * m + Lib.bitLen (rd (dg n) (m : Int)).toNat := by unfold bl; rw [if_neg h, hm]; rfl
  have hr := rd_lm (lm_dg n) (m : Int)
  have ht := dg_head hm.symm
  obtain ⟨x, hx⟩ : ∃ x : Nat, rd (dg n) (m : Int) = (x : Int) := ⟨(rd (dg n) (m : Int)).toNat, by omega⟩
  have hv : lv (dg n) = lv ((dg n).take m) + (bp m : Int) * (x : Int) := by
    have := lv_take_succ (l := dg n) (i := m) (by omega)
    rw [← hm, List.take_of_length_le (Nat.le_refl _), hx] at this
    exact this
  have hlow := take_bound (lm_dg n) m
  rw [lv_dg] at hv
  rw [hx] at hr ht hb
  rw [Int.toNat_natCast] at hb
  have hx0 : x ≠ 0 := by omega
  have hx1 : x < 4294967296 := by omega
  obtain ⟨c, hc⟩ : ∃ c, Lib.bitLen x = c + 1 := ⟨Lib.bitLen x - 1, by have := bitLen_pos hx0 hx1; omega⟩
  have h1 := bitLen_ge c x hx1 hx0 hc
  have h2 := bitLen_lt (c + 1) x hx1 (by omega)
  obtain ⟨y, hy⟩ : ∃ y : Nat, lv ((dg n).take m) = (y : Int) := ⟨(lv ((dg n).take m)).toNat, by omega⟩
  rw [hy] at hlow hv
  have hn : n = y + bp m * x := by
    have : ((n : Nat) : Int) = ((y + bp m * x : Nat) : Int) := by rw [hv, Int.natCast_add, Int.natCast_mul]
    omega
  have hy2 : y < bp m := by omega
  rw [hb, hc]
  refine ⟨?_, ?_, by omega⟩
  · rw [show 32 * m + (c + 1) - 1 = 32 * m + c by omega, Nat.pow_add, pow2_bp]
    have := Nat.mul_le_mul_left (bp m) h1
    omega
  · rw [Nat.pow_add, pow2_bp]
    have h3 : bp m * (x + 1) ≤ bp m * 2 ^ (c + 1) := Nat.mul_le_mul_left _ (by omega)
    rw [Nat.mul_add, Nat.mul_one] at h3
    omega
theorem shl_limb {x c : Int} {m : Nat} (hx0 : 0 ≤ x) (hx1 : x < 4294967296) (hm : m < 32) (hc0 : 0 ≤ c) (hc1 : c < 4294967296) :
    IntKind.u64.wrap (shl .u64 (IntKind.u64.wrap x) (m : Int) + c) = x * ((2 ^ m : Nat) : Int) + c ∧ 0 ≤ x * ((2 ^ m : Nat) : Int) + c ∧ x * ((2 ^ m : Nat) : Int) + c < 18446744073709551616 := by
  have hp : 2 ^ m ≤ 2147483648 := Nat.pow_le_pow_right (n := 2) (by decide) (show m ≤ 31 by omega)
  have hb : x * ((2 ^ m : Nat) : Int) ≤ 4294967295 * 2147483648 := Int.mul_le_mul (by omega) (Int.ofNat_le.mpr hp) (Int.natCast_nonneg _) (by decide)
  have h0 : 0 ≤ x * ((2 ^ m : Nat) : Int) := Int.mul_nonneg hx0 (Int.natCast_nonneg _)
  have e : shl .u64 (IntKind.u64.wrap x) (m : Int) = x * ((2 ^ m : Nat) : Int) := by
    unfold shl
    rw [u64w (x := x) hx0 (by omega), Int.toNat_natCast, Nat.min_eq_left (show m ≤ IntKind.u64.bits by simp [IntKind.bits]; omega)]
    rw [show (2 : Int) ^ m = ((2 ^ m : Nat) : Int) by rw [Int.natCast_pow]; rfl]
    exact u64w h0 (by omega)
  rw [e]
  generalize x * ((2 ^ m : Nat) : Int) = y at *
  exact ⟨u64w (by omega) (by omega), by omega, by omega⟩
theorem rshift_loop {a : List Int} {n m z : Nat} (ha : Lm a) (hla : a.length < 268435456) (hz : z < 268435456) (hnm : Int.tmod (n : Int) 32 = (m : Int)) (hm : m < 32) : ∀ (d i : Nat) (o : List Int) (c : Int), i + d = a.length → o.length = z + i → Lm o → 0 ≤ c → c < 4294967296 →
    Aside0 (lv o + (bp (z + i) : Int) * c = (bp z : Int) * (lv (a.take i) * ((2 ^ m : Nat) : Int))) → Ev (fun k => codewrightref01_shift.l0 k a (n : Int) o c (i : Int)) (dg ((bp z : Int) * (lv a * ((2 ^ m : Nat) : Int))).toNat) := by
  intro d
  induction d with
  | zero =>
    intro i o c hi ho hol hc0 hc1 hv
    have hi : i = a.length := by omega
    subst hi
    refine Ev.succ ?_
    simp only [codewrightref01_shift.l0, if_neg (show ¬ ((a.length : Nat) : Int) < (a.length : Int) by omega), if_pos (show o.length < 35184372088832 by omega)]
    have hl : Lm (o ++ [c % 4294967296]) := lm_append hol (lm_cons.mpr ⟨by omega, lm_nil⟩)
    refine Ev.bind (rtrim_ev hl (by rw [List.length_append]; simp; omega)) ?_
    refine Ev.cast (Ev.some _) ?_
    have hv := hv.out
    rw [List.take_of_length_le (Nat.le_refl _)] at hv
    rw [lv_append, lv_cons, lv_nil, ho, show c % 4294967296 = c by omega, Int.mul_zero, Int.add_zero, hv]
  | succ d ih =>
    intro i o c hi ho hol hc0 hc1 hv
    have hia : i < a.length := by omega
    have ra := rd_lm ha (i : Int)
    have sl := shl_limb ra.1 ra.2 hm hc0 hc1
    refine Ev.succ ?_
    simp only [codewrightref01_shift.l0, hnm, sl.1, if_pos (show (i : Int) < (a.length : Int) by omega), if_pos (show (0 : Int) ≤ (i : Int) by omega), if_pos (show (0 : Int) ≤ (m : Int) by omega), if_pos (show o.length < 35184372088832 by omega), wn (show (i : Int) + 1 = ((i + 1 : Nat) : Int) by omega) (by omega), tmod_nn 4294967296 sl.2.1, tdiv_nn 4294967296 sl.2.1]
    have hsd : ∃ s, s = rd a (i : Int) * ((2 ^ m : Nat) : Int) + c := ⟨_, rfl⟩
    obtain ⟨s, hs⟩ := hsd
    have hs0 : 0 ≤ s := by rw [hs]; exact sl.2.1
    have hs1 : s < 18446744073709551616 := by rw [hs]; exact sl.2.2
    clear sl
    rw [← hs]
    have hd := div_bound hs0 hs1
    have hs := Aside0.mk hs
    rw [show s % 4294967296 % 4294967296 = s % 4294967296 by omega]
    rw [u64w (x := s / 4294967296) hd.2.2.1 (by omega)]
    refine ih (i + 1) _ _ (by omega) (by rw [List.length_append]; simp [ho]; omega) (lm_append hol (lm_cons.mpr ⟨⟨hd.1, hd.2.1⟩, lm_nil⟩)) hd.2.2.1 hd.2.2.2 ⟨?_⟩
    have hdiv : s % 4294967296 + 4294967296 * (s / 4294967296) = rd a (i : Int) * ((2 ^ m : Nat) : Int) + c := by rw [split_div]; exact hs.out
    rw [lv_append, lv_cons, lv_nil, ho, lv_take_any, ← Nat.add_assoc, bp_succ, Int.natCast_mul]
    have hv := hv.out
    have hbp : ((bp (z + i) : Nat) : Int) = (bp z : Int) * (bp i : Int) := by rw [bp_add, Int.natCast_mul]
    clear ih hs hs0 hs1 hd ra hc0 hc1 hnm hm
    generalize s % 4294967296 = y at *
    generalize s / 4294967296 = u at *
    generalize (bp (z + i) : Int) = p at *
    generalize (bp z : Int) = pz at *
    generalize (bp i : Int) = pi at *
    generalize rd a (i : Int) = x at *
    generalize ((2 ^ m : Nat) : Int) = P at *
    generalize lv (a.take i) = la at *
    generalize lv o = lo at *
    subst hbp
    show lo + pz * pi * (y + 4294967296 * 0) + 4294967296 * (pz * pi) * u = pz * ((la + pi * x) * P)
    have h3 : pz * pi * (y + 4294967296 * u) = pz * pi * (x * P + c) := by rw [hdiv]
    grind
theorem rshift_ev {a n : Nat} (ha : (dg a).length < 134217728) (hn : n < 4294967296) : Ev (fun k => codewrightref01_shift.f k (dg a) (n : Int)) (dg (a * 2 ^ n)) := by
  have h1 : Int.tdiv (n : Int) 32 = ((n / 32 : Nat) : Int) := by rw [Int.tdiv_eq_ediv_of_nonneg (by omega)]; rfl
  have h2 : Int.tmod (n : Int) 32 = ((n % 32 : Nat) : Int) := by rw [Int.tmod_eq_emod_of_nonneg (by omega)]; rfl
  have h3 : wrap64 ((n / 32 : Nat) : Int) = ((n / 32 : Nat) : Int) := wn rfl (by clear h1 h2; omega)
  simp only [codewrightref01_shift.f, h1, h3, if_pos (show (0 : Int) ≤ ((n / 32 : Nat) : Int) by omega), Int.toNat_natCast, if_pos (show n / 32 ≤ 70368744177664 by clear h1 h2 h3; omega)]
  clear h1 h3
  refine Ev.cast (rshift_loop (z := n / 32) (lm_dg a) (by clear h2; omega) (by clear h2; omega) h2 (by clear h2; omega) (dg a).length 0 _ 0 (by omega) (by simp) (lm_rep _) (by omega) (by omega) ⟨by rw [lv_rep]; simp [lv_nil]⟩) ?_
  clear h2
  rw [lv_dg, ← Int.natCast_mul, ← Int.natCast_mul, Int.toNat_natCast]
  congr 1
  rw [← pow2_bp, Nat.mul_left_comm, ← Nat.pow_add]
  congr 2
  omega
theorem pow2_len (i : Nat) : (dg (2 ^ i)).length ≤ i / 32 + 1 := by
  refine dg_len_le ?_
  rw [← pow2_bp]
  exact Nat.pow_lt_pow_right (by decide) (by omega)
theorem rdivmod_loop {a b : Nat} (hb : b ≠ 0) (hla : (dg a).length < 1048576) (hlb : (dg b).length < 1048576) : ∀ (n : Nat), n < 67108864 → ∀ (quo rem : Nat), quo * b + rem = a → rem < b * 2 ^ n →
    Ev (fun k => codewrightref01_DivMod.l0 k (dg b) (dg quo) (dg rem) ((n : Int) - 1)) (dg (a / b), dg (a % b)) := by
  intro n
  induction n with
  | zero =>
    intro _ quo rem h1 h2
    rw [Nat.pow_zero, Nat.mul_one] at h2
    have hq : a / b = quo := by
      rw [← h1, Nat.mul_comm, Nat.mul_add_div (by omega), Nat.div_eq_of_lt h2, Nat.add_zero]
    have hr : a % b = rem := by
      rw [← h1, Nat.mul_comm, Nat.mul_add_mod, Nat.mod_eq_of_lt h2]
    have hql : (dg quo).length ≤ (dg a).length := dg_len_mono (by
      rw [← hq]; exact Nat.div_le_self _ _)
    refine Ev.succ ?_
    simp only [codewrightref01_DivMod.l0, if_neg (show ¬ ((0 : Nat) : Int) - 1 ≥ 0 by omega)]
    refine Ev.bind (rtrim2_ev (by omega)) ?_
    rw [hq, hr]
    exact Ev.some _
  | succ n ih =>
    intro hn quo rem h1 h2
    have hql : (dg quo).length ≤ (dg a).length := dg_len_mono (by
      have : quo * 1 ≤ quo * b := Nat.mul_le_mul_left _ (by omega)
      omega)
    have hrl : (dg rem).length ≤ (dg a).length := dg_len_mono (by omega)
    have hp := pow2_len n
    have ht := mul_len b (2 ^ n)
    refine Ev.succ ?_
    simp only [codewrightref01_DivMod.l0, show ((n + 1 : Nat) : Int) - 1 = (n : Int) from by omega, if_pos (show (n : Int) ≥ 0 by omega), w64 (x := (n : Int) - 1) (by omega) (by omega)]
    refine Ev.bind (rshift_ev (by omega) (by omega)) ?_
    refine Ev.bind (rcmp_ev (by omega) (by omega)) ?_
    by_cases h : b * 2 ^ n ≤ rem
    · have hc : cmpZ (rem : Int) ((b * 2 ^ n : Nat) : Int) ≥ 0 := by
        unfold cmpZ
        rw [if_neg (by omega)]
        split <;> omega
      simp only [if_pos hc]
      refine Ev.bind (rsub_ev (by omega) h) ?_
      rw [show ([1] : List Int) = dg 1 from dg_one.symm]
      refine Ev.bind (rshift_ev (by rw [dg_one]; simp) (by omega)) ?_
      rw [Nat.one_mul]
      refine Ev.bind (radd2_ev (by omega) (by omega)) ?_
      refine ih (by omega) _ _ ?_ ?_
      · rw [Nat.add_mul, Nat.mul_comm (2 ^ n) b]
        generalize b * 2 ^ n = t at *
        omega
      · rw [Nat.pow_succ, ← Nat.mul_assoc] at h2
        generalize b * 2 ^ n = t at *
        omega
    · have hc : ¬ cmpZ (rem : Int) ((b * 2 ^ n : Nat) : Int) ≥ 0 := by
        unfold cmpZ
        rw [if_pos (by omega)]
        omega
      simp only [if_neg hc]
      exact ih (by omega) quo rem h1 (by omega)
theorem bl_le (n : Nat) : bl n ≤ 32 * (dg n).length := by
  by_cases h : n = 0
  · subst h; rw [bl_zero.mpr rfl]; omega
  · have hb := bl_bounds h
    have h1 := dg_lt_len n
    rw [← pow2_bp] at h1
    have h2 : bl n - 1 < 32 * (dg n).length := by
      refine (Nat.pow_lt_pow_iff_right (a := 2) (by decide)).mp (Nat.lt_of_le_of_lt hb.1 h1)
    omega
theorem rdivmod_ev {a b : Nat} (hb : b ≠ 0) (hla : (dg a).length < 1048576) (hlb : (dg b).length < 1048576) : Ev (fun k => codewrightref01_DivMod.f k (dg a) (dg b)) (dg (a / b), dg (a % b)) := by
  simp only [codewrightref01_DivMod.f]
  refine Ev.bind (rtrim2_ev (by omega)) ?_
  refine Ev.bind (rbits_ev (by omega)) ?_
  refine Ev.bind (rbits_ev (by omega)) ?_
  have ba := bl_le a
  have bb := bl_le b
  have hbb := bl_bounds hb
  rw [show ([] : List Int) = dg 0 from dg_zero.symm]
  by_cases h : bl b ≤ bl a
  · rw [show wrap64 (((bl a : Nat) : Int) - ((bl b : Nat) : Int)) = ((bl a - bl b + 1 : Nat) : Int) - 1 from by rw [w64 (by omega) (by omega)]; omega]
    refine rdivmod_loop hb hla hlb _ (by omega) 0 a (by omega) ?_
    by_cases ha : a = 0
    · subst ha; exact Nat.mul_pos (by omega) (Nat.two_pow_pos _)
    · have hba := bl_bounds ha
      refine Nat.lt_of_lt_of_le hba.2.1 ?_
      rw [show bl a = (bl b - 1) + (bl a - bl b + 1) by omega, Nat.pow_add]
      rw [show (bl b - 1) + (bl a - bl b + 1) - bl b + 1 = bl a - bl b + 1 by omega]
      exact Nat.mul_le_mul_right _ hbb.1
  · rw [show wrap64 (((bl a : Nat) : Int) - ((bl b : Nat) : Int)) = -((bl b - bl a : Nat) : Int) from by rw [w64 (by omega) (by omega)]; omega]
    have hlt : a < b := by
      by_cases ha : a = 0
      · omega
      · have hba := bl_bounds ha
        refine Nat.lt_of_lt_of_le hba.2.1 (Nat.le_trans ?_ hbb.1)
        exact Nat.pow_le_pow_right (by decide) (by omega)
    refine Ev.succ ?_
    simp only [codewrightref01_DivMod.l0, if_neg (show ¬ -((bl b - bl a : Nat) : Int) ≥ 0 by omega)]
    refine Ev.bind (rtrim2_ev (by rw [dg_zero]; simp)) ?_
    rw [Nat.div_eq_of_lt hlt, Nat.mod_eq_of_lt hlt]
    exact Ev.some _
end Mw
end
