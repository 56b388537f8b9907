/- What functions of the program do and come to, for the statement MacwilliamsRecurrence, part 3. Conditions: as each theorem says. -/
import Derived.Test.YtifkbghnmhineaaQRecurrence2

namespace Go.Proofs.Ytifkbghnmhineaa.PAll
open Go.RowKit Go.Proofs.YtifkbghnmhineaaW.PrintWords Go.Proofs.YtifkbghnmhineaaW.PrintLast Go.Proofs.YtifkbghnmhineaaW.PrintMore
attribute [local go_sem] max2_int min2_int max_two min_two max_three min_three max_four min_four
set_option linter.unusedVariables false
set_option linter.unusedSimpArgs false
def codewrightref02_Add.T7 : Bool × List (List Nat × List Nat) := (true, [([], []), ([0], [0]), ([], []), ([], []), ([2, 3], [2, 3]), ([], []), ([1, 4, 5, 4], [1, 4, 5]), ([6, 6, 0, 1, 2, 3, 4, 5, 6], [6])])
def codewrightref02_Add.B7 : List Nat := [0, 1, 0, 0, 12, 0, 63, 127]
theorem codewrightref02_Add.tab7 : rtab .any (opsOf Try.f50 7) = codewrightref02_Add.T7 := by kernel_rfl
theorem codewrightref02_Add.bits7 : waitsOk codewrightref02_Add.T7.2 codewrightref02_Add.B7 = true := by kernel_rfl
def codewrightref02_Add.T9 : Bool × List (List Nat × List Nat) := (true, [([], []), ([0], [0]), ([], []), ([], []), ([2, 3], [2, 3]), ([], []), ([1, 4, 5, 4], [1, 4, 5]), ([6, 6, 0, 1, 2, 3, 4, 5, 6], [6])])
def codewrightref02_Add.B9 : List Nat := [0, 1, 0, 0, 12, 0, 63, 127]
theorem codewrightref02_Add.tab9 : rtab .any (opsOf Try.f50 9) = codewrightref02_Add.T9 := by kernel_rfl
theorem codewrightref02_Add.bits9 : waitsOk codewrightref02_Add.T9.2 codewrightref02_Add.B9 = true := by kernel_rfl
def codewrightref02_Add.T10 : Bool × List (List Nat × List Nat) := (true, [([], []), ([0], [0]), ([], []), ([], []), ([2, 3], [2, 3]), ([], []), ([1, 4, 5, 4], [1, 4, 5]), ([6, 6, 0, 1, 2, 3, 4, 5, 6], [6])])
def codewrightref02_Add.B10 : List Nat := [0, 1, 0, 0, 12, 0, 63, 127]
theorem codewrightref02_Add.tab10 : rtab .any (opsOf Try.f50 10) = codewrightref02_Add.T10 := by kernel_rfl
theorem codewrightref02_Add.bits10 : waitsOk codewrightref02_Add.T10.2 codewrightref02_Add.B10 = true := by kernel_rfl
set_option maxHeartbeats 8000000 in
set_option maxRecDepth 100000 in
theorem codewrightref02_Add.calls (k : Nat) (a0_0 : Bool) (A0_1 : Option Addr) (c0_1 : Nat) (l0_1 : List Int) (A0_2 : Option Addr) (c0_2 : Nat) (l0_2 : List Int) (a1_0 : Bool) (A1_1 : Option Addr) (c1_1 : Nat) (l1_1 : List Int) (A1_2 : Option Addr) (c1_2 : Nat) (l1_2 : List Int) (r1 : Bool) (r2 : List Int) (r3 : List Int) (w : World) (hr0_1 : Kd.C (Kd.int .u32) w A0_1 l0_1.length l0_1) (hc0_1 : l0_1.length ≤ c0_1) (hr0_2 : Kd.C (Kd.int .u32) w A0_2 l0_2.length l0_2) (hc0_2 : l0_2.length ≤ c0_2) (hr1_1 : Kd.C (Kd.int .u32) w A1_1 l1_1.length l1_1) (hc1_1 : l1_1.length ≤ c1_1) (hr1_2 : Kd.C (Kd.int .u32) w A1_2 l1_2.length l1_2) (hc1_2 : l1_2.length ≤ c1_2) (h : codewrightref02_Add.f k a0_0 l0_1 l0_2 a1_0 l1_1 l1_2 = some (r1, r2, r3)) :
    Calls Try.prog 50 #[.agg #[.bool a0_0, .slice A0_1 l0_1.length c0_1, .slice A0_2 l0_2.length c0_2], .agg #[.bool a1_0, .slice A1_1 l1_1.length c1_1, .slice A1_2 l1_2.length c1_2]] w fun e w' => ∃ v1_ v2_ : Value, e = .returned (.agg #[.bool r1, v1_, v2_]) ∧ Kd.R (Kd.int .u32) 97 w' w.heap.size (fun k_ => some k_ ≠ (v2_ : Value).ownBlock) v1_ r2 ∧ Kd.R (Kd.int .u32) 97 w' w.heap.size (fun k_ => some k_ ≠ (v1_ : Value).ownBlock) v2_ r3 ∧ Below w.heap.size w w' := by
 have hu60 := Try.underlying60
 have HR0_1 := Aside0.mk hr0_1
 have HC0_1 := Aside0.mk hc0_1
 clear hr0_1 hc0_1
 have HR0_2 := Aside0.mk hr0_2
 have HC0_2 := Aside0.mk hc0_2
 clear hr0_2 hc0_2
 have HR1_1 := Aside0.mk hr1_1
 have HC1_1 := Aside0.mk hc1_1
 clear hr1_1 hc1_1
 have HR1_2 := Aside0.mk hr1_2
 have HC1_2 := Aside0.mk hc1_2
 clear hr1_2 hc1_2
 have HB := Aside0.mk (Below.refl w.heap.size w)
 have H : ((codewrightref02_Trim.f k a0_0 l0_1 l0_2).bind fun bt104 => ((codewrightref02_Trim.f k a1_0 l1_1 l1_2).bind fun bt111 => ((codewrightref01_Mul.f k bt104.2.1 bt111.2.2).bind fun t118 => ((codewrightref01_Mul.f k bt111.2.1 bt104.2.2).bind fun t121 => ((codewrightref01_Mul.f k bt104.2.2 bt111.2.2).bind fun t124 => (if (bt104.1 == bt111.1) = true then ((codewrightref01_Add.f k t118 t121).bind fun t127 => ((codewrightref02_Make.f k bt104.1 t127 t124).bind fun bt130 => (some (bt130.1, bt130.2.1, bt130.2.2)))) else ((codewrightref01_Cmp.f k t118 t121).bind fun t137 => (if t137 ≥ 0 then ((codewrightref01_Sub.f k t118 t121).bind fun t138 => ((codewrightref02_Make.f k bt104.1 t138 t124).bind fun bt141 => (some (bt141.1, bt141.2.1, bt141.2.2)))) else ((codewrightref01_Sub.f k t121 t118).bind fun t148 => ((codewrightref02_Make.f k bt111.1 t148 t124).bind fun bt151 => (some (bt151.1, bt151.2.1, bt151.2.2)))))))))))) = some (r1, r2, r3) := h
 clear h
 replace H := zb H
 obtain ⟨⟨t104, t105, t108⟩, A3, H⟩ := H
 dsimp only at H
 replace H := zb H
 obtain ⟨⟨t111, t112, t115⟩, A4, H⟩ := H
 dsimp only at H
 replace H := zb H
 obtain ⟨t118, A5, H⟩ := H
 replace H := zb H
 obtain ⟨t121, A6, H⟩ := H
 replace H := zb H
 obtain ⟨t124, A7, H⟩ := H
 replace H := zi H
 rcases H with ⟨c8, H⟩ | ⟨c8, H⟩
 · have c8b0 : (t104 == t111) = true := c8
   (try (have c8b1 : decide (t104 = t111) = true := by simpa using c8))
   (try (have c8b2 : (t104 == t111) = true := by simpa using c8))
   clear c8
   replace H := zb H
   obtain ⟨t127, A9, H⟩ := H
   replace H := zb H
   obtain ⟨⟨t130, t131, t134⟩, A10, H⟩ := H
   dsimp only at H
   simp only [Option.some.injEq, Prod.mk.injEq] at H
   obtain ⟨rfl, rfl, rfl⟩ := H
   go_enter Try.func50, Try.ntmps50
   try go_wp2_with (first | ((with_reducible refine gate_dst (N := 2) rfl ?_); refine box_event ?hg (N := 2) ?hd (cs := #[.bool a0_0, .slice A0_1 l0_1.length c0_1, .slice A0_2 l0_2.length c0_2]) (t := 60) ?hr ?_; (case hd => rfl); (case hg => rfl); (case hr => first | (go_simp; done) | (go_simp; rfl)); intro gb101 hg w11 hbox hb; have BK101 := Aside0.mk (hbox); have GW101 := yg hg HB; have GE101 := yg hg HB; replace HB := yS HB hb; clear hb hbox hg) | ((with_reducible refine gate_dst (N := 3) rfl ?_); refine box_event ?hg (N := 3) ?hd (cs := #[.bool a1_0, .slice A1_1 l1_1.length c1_1, .slice A1_2 l1_2.length c1_2]) (t := 60) ?hr ?_; (case hd => rfl); (case hg => rfl); (case hr => first | (go_simp; done) | (go_simp; rfl)); intro gb102 hg w12 hbox hb; have BK102 := Aside0.mk (hbox); have GW102 := yg1 hg HB GE101; have GE102 := yg1 hg HB GE101; replace HB := yS1 HB GE101 hb; have NB101_102 := ynl hg BK101; have NB102_101 := yng hg BK101; replace BK101 := yK BK101 hb; clear hb hbox hg) | ((with_reducible refine gate_dst (N := 4) rfl ?_); refine box_event ?hg (N := 4) ?hd (cs := #[.bool false, .slice none 0 0, .slice none 0 0]) (t := 60) ?hr ?_; (case hd => rfl); (case hg => rfl); (case hr => first | (go_simp; done) | (go_simp; rfl)); intro gb103 hg w13 hbox hb; have BK103 := Aside0.mk (hbox); have GW103 := yg2 hg HB GE101 GE102; have GE103 := yg2 hg HB GE101 GE102; replace HB := yS2 HB GE101 GE102 hb; have NB101_103 := ynl hg BK101; have NB103_101 := yng hg BK101; replace BK101 := yK BK101 hb; have NB102_103 := ynl hg BK102; have NB103_102 := yng hg BK102; replace BK102 := yK BK102 hb; clear hb hbox hg; have hnb14 := NB101_102.out; have hnc14 := NB102_101.out; have hnb15 := NB101_103.out; have hnc15 := NB103_101.out; have hcz16_0 : w13.cell? ⟨gb101, 0, none⟩ = some (.bool a0_0) := (blk_cell BK101.out 0).trans rfl; have hcz16_1 : w13.cell? ⟨gb101, 1, none⟩ = some (.slice A0_1 l0_1.length c0_1) := (blk_cell BK101.out 1).trans rfl; have hcz16_2 : w13.cell? ⟨gb101, 2, none⟩ = some (.slice A0_2 l0_2.length c0_2) := (blk_cell BK101.out 2).trans rfl; have hfz16_0 := blk_frozen BK101.out 0; have hfz16_1 := blk_frozen BK101.out 1; have hfz16_2 := blk_frozen BK101.out 2) | ((with_reducible refine gate_callee (f := 99) rfl ?_); refine zG (some 9) Try.func99 #[.agg #[.bool a0_0, .slice A0_1 l0_1.length c0_1, .slice A0_2 l0_2.length c0_2]] ?_; (with_reducible refine (codewrightref02_Trim.calls k a0_0 _ _ l0_1 _ _ l0_2 t104 t105 t108 _ ?side1 ?side2 ?side3 ?side4 A3.out).mono ?_); (case side1 => exact zC (Kd.C_below HR0_1.out HB.out)); (case side2 => exact HC0_1.out); (case side3 => exact zC (Kd.C_below HR0_2.out HB.out)); (case side4 => exact HC0_2.out); rintro e w17 ⟨v106, v109, rfl, ho0, ho1, hb⟩; refine ⟨_, rfl, ?_⟩; have HO107 := yRl3 ho0 HB GE101 GE102 GE103; have HO110 := yRl3 ho1 HB GE101 GE102 GE103; replace BK101 := yK BK101 hb; replace BK102 := yK BK102 hb; replace BK103 := yK BK103 hb; replace HB := yS3 HB GE101 GE102 GE103 hb; (try clear hb ho0); (try clear ho1); have hcz18_0 : w17.cell? ⟨gb101, 0, none⟩ = some (.bool a0_0) := (blk_cell BK101.out 0).trans rfl; have hcz18_1 : w17.cell? ⟨gb101, 1, none⟩ = some (.slice A0_1 l0_1.length c0_1) := (blk_cell BK101.out 1).trans rfl; have hcz18_2 : w17.cell? ⟨gb101, 2, none⟩ = some (.slice A0_2 l0_2.length c0_2) := (blk_cell BK101.out 2).trans rfl; have hfz18_0 := blk_frozen BK101.out 0; have hfz18_1 := blk_frozen BK101.out 1; have hfz18_2 := blk_frozen BK101.out 2; obtain ⟨Ao19, co19, rfl⟩ := Kd.R_slice HO107.out; obtain ⟨Ao20, co20, rfl⟩ := Kd.R_slice HO110.out; have hnb21 := NB102_103.out; have hnc21 := NB103_102.out; have hcz22_0 : w17.cell? ⟨gb102, 0, none⟩ = some (.bool a1_0) := (blk_cell BK102.out 0).trans rfl; have hcz22_1 : w17.cell? ⟨gb102, 1, none⟩ = some (.slice A1_1 l1_1.length c1_1) := (blk_cell BK102.out 1).trans rfl; have hcz22_2 : w17.cell? ⟨gb102, 2, none⟩ = some (.slice A1_2 l1_2.length c1_2) := (blk_cell BK102.out 2).trans rfl; have hfz22_0 := blk_frozen BK102.out 0; have hfz22_1 := blk_frozen BK102.out 1; have hfz22_2 := blk_frozen BK102.out 2) | ((with_reducible refine gate_callee (f := 99) rfl ?_); refine zG (some 11) Try.func99 #[.agg #[.bool a1_0, .slice A1_1 l1_1.length c1_1, .slice A1_2 l1_2.length c1_2]] ?_; (with_reducible refine (codewrightref02_Trim.calls k a1_0 _ _ l1_1 _ _ l1_2 t111 t112 t115 _ ?side1 ?side2 ?side3 ?side4 A4.out).mono ?_); (case side1 => exact Kd.C_below HR1_1.out (zB3 HB.out GE101.out GE102.out GE103.out)); (case side2 => exact HC1_1.out); (case side3 => exact Kd.C_below HR1_2.out (zB3 HB.out GE101.out GE102.out GE103.out)); (case side4 => exact HC1_2.out); rintro e w23 ⟨v113, v116, rfl, ho0, ho1, hb⟩; refine ⟨_, rfl, ?_⟩; have HO114 := Aside0.mk (Kd.R_lower (Kd.R_new' (Kd.R_new' ho0 (Kd.R_lt (by (with_reducible repeat (first | apply Kd.R_alloc | apply Kd.R_drewN | apply Kd.R_drew)); exact (yf HO107.out BK101.out (fun _ h_ => h_.1))))) (Kd.R_lt (by (with_reducible repeat (first | apply Kd.R_alloc | apply Kd.R_drewN | apply Kd.R_drew)); exact (yf HO110.out BK101.out (fun _ h_ => h_.1))))) (below_size (zB3 HB.out GE101.out GE102.out GE103.out))); have HO117 := Aside0.mk (Kd.R_lower (Kd.R_new' (Kd.R_new' ho1 (Kd.R_lt (by (with_reducible repeat (first | apply Kd.R_alloc | apply Kd.R_drewN | apply Kd.R_drew)); exact (yf HO107.out BK101.out (fun _ h_ => h_.1))))) (Kd.R_lt (by (with_reducible repeat (first | apply Kd.R_alloc | apply Kd.R_drewN | apply Kd.R_drew)); exact (yf HO110.out BK101.out (fun _ h_ => h_.1))))) (below_size (zB3 HB.out GE101.out GE102.out GE103.out))); replace HO107 := Aside0.mk (Kd.R_mono (Kd.R_told (Kd.R_told (Kd.R_old (by (with_reducible repeat (first | apply Kd.R_alloc | apply Kd.R_drewN | apply Kd.R_drew)); exact (yf HO107.out BK101.out (fun _ h_ => h_.1))) hb) (Kd.R_base ho0)) (Kd.R_base ho1)) (fun _ h_ => h_.1)); replace HO110 := Aside0.mk (Kd.R_mono (Kd.R_told (Kd.R_told (Kd.R_old (by (with_reducible repeat (first | apply Kd.R_alloc | apply Kd.R_drewN | apply Kd.R_drew)); exact (yf HO110.out BK101.out (fun _ h_ => h_.1))) hb) (Kd.R_base ho0)) (Kd.R_base ho1)) (fun _ h_ => h_.1)); replace BK101 := Aside0.mk (blk_below (g := gb101) (o := .cells #[.bool t104, .slice Ao19 t105.length co19, .slice Ao20 t108.length co20] 60 (0, 0)) (by (with_reducible repeat (first | refine blk_drewN ?_ _ | refine blk_drew ?_ | refine blk_alloc ?_ _)); refine blk_put (cs := #[.bool t104, .slice Ao19 t105.length co19, .slice A0_2 l0_2.length c0_2]) ?_ 2 _ rfl; (with_reducible repeat (first | refine blk_drewN ?_ _ | refine blk_drew ?_ | refine blk_alloc ?_ _)); refine blk_put (cs := #[.bool t104, .slice A0_1 l0_1.length c0_1, .slice A0_2 l0_2.length c0_2]) ?_ 1 _ rfl; (with_reducible repeat (first | refine blk_drewN ?_ _ | refine blk_drew ?_ | refine blk_alloc ?_ _)); refine blk_put (cs := #[.bool a0_0, .slice A0_1 l0_1.length c0_1, .slice A0_2 l0_2.length c0_2]) ?_ 0 _ rfl; (with_reducible repeat (first | refine blk_drewN ?_ _ | refine blk_drew ?_ | refine blk_alloc ?_ _)); exact BK101.out) hb); replace BK102 := Aside0.mk (blk_below (g := gb102) (o := .cells #[.bool a1_0, .slice A1_1 l1_1.length c1_1, .slice A1_2 l1_2.length c1_2] 60 (0, 0)) (by (with_reducible repeat (first | refine blk_drewN ?_ _ | refine blk_drew ?_ | refine blk_alloc ?_ _)); refine blk_far ?_ NB102_101.out _; (with_reducible repeat (first | refine blk_drewN ?_ _ | refine blk_drew ?_ | refine blk_alloc ?_ _)); refine blk_far ?_ NB102_101.out _; (with_reducible repeat (first | refine blk_drewN ?_ _ | refine blk_drew ?_ | refine blk_alloc ?_ _)); refine blk_far ?_ NB102_101.out _; (with_reducible repeat (first | refine blk_drewN ?_ _ | refine blk_drew ?_ | refine blk_alloc ?_ _)); exact BK102.out) hb); replace BK103 := Aside0.mk (blk_below (g := gb103) (o := .cells #[.bool false, .slice none 0 0, .slice none 0 0] 60 (0, 0)) (by (with_reducible repeat (first | refine blk_drewN ?_ _ | refine blk_drew ?_ | refine blk_alloc ?_ _)); refine blk_far ?_ NB103_101.out _; (with_reducible repeat (first | refine blk_drewN ?_ _ | refine blk_drew ?_ | refine blk_alloc ?_ _)); refine blk_far ?_ NB103_101.out _; (with_reducible repeat (first | refine blk_drewN ?_ _ | refine blk_drew ?_ | refine blk_alloc ?_ _)); refine blk_far ?_ NB103_101.out _; (with_reducible repeat (first | refine blk_drewN ?_ _ | refine blk_drew ?_ | refine blk_alloc ?_ _)); exact BK103.out) hb); replace HB := yS3 HB GE101 GE102 GE103 hb; (try clear hb ho0); (try clear ho1); have hcz24_0 : w23.cell? ⟨gb102, 0, none⟩ = some (.bool a1_0) := (blk_cell BK102.out 0).trans rfl; have hcz24_1 : w23.cell? ⟨gb102, 1, none⟩ = some (.slice A1_1 l1_1.length c1_1) := (blk_cell BK102.out 1).trans rfl; have hcz24_2 : w23.cell? ⟨gb102, 2, none⟩ = some (.slice A1_2 l1_2.length c1_2) := (blk_cell BK102.out 2).trans rfl; have hfz24_0 := blk_frozen BK102.out 0; have hfz24_1 := blk_frozen BK102.out 1; have hfz24_2 := blk_frozen BK102.out 2; obtain ⟨Ao25, co25, rfl⟩ := Kd.R_slice HO114.out; obtain ⟨Ao26, co26, rfl⟩ := Kd.R_slice HO117.out; have hcz27_0 : w23.cell? ⟨gb101, 0, none⟩ = some (.bool t104) := (blk_cell BK101.out 0).trans rfl; have hcz27_1 : w23.cell? ⟨gb101, 1, none⟩ = some (.slice Ao19 t105.length co19) := (blk_cell BK101.out 1).trans rfl; have hcz27_2 : w23.cell? ⟨gb101, 2, none⟩ = some (.slice Ao20 t108.length co20) := (blk_cell BK101.out 2).trans rfl; have hfz27_0 := blk_frozen BK101.out 0; have hfz27_1 := blk_frozen BK101.out 1; have hfz27_2 := blk_frozen BK101.out 2) | ((with_reducible refine gate_callee (f := 26) rfl ?_); refine zG (some 16) Try.func26 #[.slice Ao19 t105.length co19, .slice Ao26 t115.length co26] ?_; (with_reducible refine (codewrightref01_Mul.calls k _ _ t105 _ _ t115 t118 _ ?side1 ?side2 ?side3 ?side4 A5.out).mono ?_); (case side1 => refine (Kd.R_reads' (e := 97) (base := w.heap.size) (ok := fun k_ => ((some k_ ≠ (.slice Ao20 t108.length co20 : Value).ownBlock ∧ some k_ ≠ (.slice Ao25 t112.length co25 : Value).ownBlock) ∧ some k_ ≠ (.slice Ao26 t115.length co26 : Value).ownBlock)) (n := t105.length) (c := co19) ?_).2.2; exact (by (with_reducible repeat (first | apply Kd.R_alloc | apply Kd.R_drewN | apply Kd.R_drew)); exact (yf HO107.out BK102.out (fun _ h_ => h_.1)))); (case side2 => exact (Kd.R_reads' HO107.out).2.1); (case side3 => refine (Kd.R_reads' (e := 97) (base := w.heap.size) (ok := fun k_ => ((some k_ ≠ (.slice Ao25 t112.length co25 : Value).ownBlock ∧ some k_ ≠ (.slice Ao19 t105.length co19 : Value).ownBlock) ∧ some k_ ≠ (.slice Ao20 t108.length co20 : Value).ownBlock)) (n := t115.length) (c := co26) ?_).2.2; exact (by (with_reducible repeat (first | apply Kd.R_alloc | apply Kd.R_drewN | apply Kd.R_drew)); exact (yf HO117.out BK102.out (fun _ h_ => h_.1)))); (case side4 => exact (Kd.R_reads' HO117.out).2.1); rintro e w28 ⟨v119, rfl, ho0, hb⟩; refine ⟨_, rfl, ?_⟩; have HO120 := Aside0.mk (Kd.R_lower (Kd.R_new' (Kd.R_new' (Kd.R_new' (Kd.R_new' ho0 (Kd.R_lt (by (with_reducible repeat (first | apply Kd.R_alloc | apply Kd.R_drewN | apply Kd.R_drew)); exact (yf HO107.out BK102.out (fun _ h_ => h_.1))))) (Kd.R_lt (by (with_reducible repeat (first | apply Kd.R_alloc | apply Kd.R_drewN | apply Kd.R_drew)); exact (yf HO110.out BK102.out (fun _ h_ => h_.1))))) (Kd.R_lt (by (with_reducible repeat (first | apply Kd.R_alloc | apply Kd.R_drewN | apply Kd.R_drew)); exact (yf HO114.out BK102.out (fun _ h_ => h_.1))))) (Kd.R_lt (by (with_reducible repeat (first | apply Kd.R_alloc | apply Kd.R_drewN | apply Kd.R_drew)); exact (yf HO117.out BK102.out (fun _ h_ => h_.1))))) (below_size (zB3 HB.out GE101.out GE102.out GE103.out))); replace HO107 := Aside0.mk (Kd.R_elder' (by (with_reducible repeat (first | apply Kd.R_alloc | apply Kd.R_drewN | apply Kd.R_drew)); exact (yf HO107.out BK102.out (fun _ h_ => h_.1))) (Kd.R_base ho0) hb); replace HO110 := Aside0.mk (Kd.R_elder' (by (with_reducible repeat (first | apply Kd.R_alloc | apply Kd.R_drewN | apply Kd.R_drew)); exact (yf HO110.out BK102.out (fun _ h_ => h_.1))) (Kd.R_base ho0) hb); replace HO114 := Aside0.mk (Kd.R_elder' (by (with_reducible repeat (first | apply Kd.R_alloc | apply Kd.R_drewN | apply Kd.R_drew)); exact (yf HO114.out BK102.out (fun _ h_ => h_.1))) (Kd.R_base ho0) hb); replace HO117 := Aside0.mk (Kd.R_elder' (by (with_reducible repeat (first | apply Kd.R_alloc | apply Kd.R_drewN | apply Kd.R_drew)); exact (yf HO117.out BK102.out (fun _ h_ => h_.1))) (Kd.R_base ho0) hb); replace BK101 := Aside0.mk (blk_below (g := gb101) (o := .cells #[.bool t104, .slice Ao19 t105.length co19, .slice Ao20 t108.length co20] 60 (0, 0)) (by (with_reducible repeat (first | refine blk_drewN ?_ _ | refine blk_drew ?_ | refine blk_alloc ?_ _)); refine blk_far ?_ NB101_102.out _; (with_reducible repeat (first | refine blk_drewN ?_ _ | refine blk_drew ?_ | refine blk_alloc ?_ _)); refine blk_far ?_ NB101_102.out _; (with_reducible repeat (first | refine blk_drewN ?_ _ | refine blk_drew ?_ | refine blk_alloc ?_ _)); refine blk_far ?_ NB101_102.out _; (with_reducible repeat (first | refine blk_drewN ?_ _ | refine blk_drew ?_ | refine blk_alloc ?_ _)); exact BK101.out) hb); replace BK102 := Aside0.mk (blk_below (g := gb102) (o := .cells #[.bool t111, .slice Ao25 t112.length co25, .slice Ao26 t115.length co26] 60 (0, 0)) (by (with_reducible repeat (first | refine blk_drewN ?_ _ | refine blk_drew ?_ | refine blk_alloc ?_ _)); refine blk_put (cs := #[.bool t111, .slice Ao25 t112.length co25, .slice A1_2 l1_2.length c1_2]) ?_ 2 _ rfl; (with_reducible repeat (first | refine blk_drewN ?_ _ | refine blk_drew ?_ | refine blk_alloc ?_ _)); refine blk_put (cs := #[.bool t111, .slice A1_1 l1_1.length c1_1, .slice A1_2 l1_2.length c1_2]) ?_ 1 _ rfl; (with_reducible repeat (first | refine blk_drewN ?_ _ | refine blk_drew ?_ | refine blk_alloc ?_ _)); refine blk_put (cs := #[.bool a1_0, .slice A1_1 l1_1.length c1_1, .slice A1_2 l1_2.length c1_2]) ?_ 0 _ rfl; (with_reducible repeat (first | refine blk_drewN ?_ _ | refine blk_drew ?_ | refine blk_alloc ?_ _)); exact BK102.out) hb); replace BK103 := Aside0.mk (blk_below (g := gb103) (o := .cells #[.bool false, .slice none 0 0, .slice none 0 0] 60 (0, 0)) (by (with_reducible repeat (first | refine blk_drewN ?_ _ | refine blk_drew ?_ | refine blk_alloc ?_ _)); refine blk_far ?_ NB103_102.out _; (with_reducible repeat (first | refine blk_drewN ?_ _ | refine blk_drew ?_ | refine blk_alloc ?_ _)); refine blk_far ?_ NB103_102.out _; (with_reducible repeat (first | refine blk_drewN ?_ _ | refine blk_drew ?_ | refine blk_alloc ?_ _)); refine blk_far ?_ NB103_102.out _; (with_reducible repeat (first | refine blk_drewN ?_ _ | refine blk_drew ?_ | refine blk_alloc ?_ _)); exact BK103.out) hb); replace HB := yS3 HB GE101 GE102 GE103 hb; (try clear hb ho0); have hcz29_0 : w28.cell? ⟨gb102, 0, none⟩ = some (.bool t111) := (blk_cell BK102.out 0).trans rfl; have hcz29_1 : w28.cell? ⟨gb102, 1, none⟩ = some (.slice Ao25 t112.length co25) := (blk_cell BK102.out 1).trans rfl; have hcz29_2 : w28.cell? ⟨gb102, 2, none⟩ = some (.slice Ao26 t115.length co26) := (blk_cell BK102.out 2).trans rfl; have hfz29_0 := blk_frozen BK102.out 0; have hfz29_1 := blk_frozen BK102.out 1; have hfz29_2 := blk_frozen BK102.out 2; have hcz30_0 : w28.cell? ⟨gb101, 0, none⟩ = some (.bool t104) := (blk_cell BK101.out 0).trans rfl; have hcz30_1 : w28.cell? ⟨gb101, 1, none⟩ = some (.slice Ao19 t105.length co19) := (blk_cell BK101.out 1).trans rfl; have hcz30_2 : w28.cell? ⟨gb101, 2, none⟩ = some (.slice Ao20 t108.length co20) := (blk_cell BK101.out 2).trans rfl; have hfz30_0 := blk_frozen BK101.out 0; have hfz30_1 := blk_frozen BK101.out 1; have hfz30_2 := blk_frozen BK101.out 2) | ((with_reducible refine gate_callee (f := 26) rfl ?_); refine zG (some 21) Try.func26 #[.slice Ao25 t112.length co25, .slice Ao20 t108.length co20] ?_; (with_reducible refine (codewrightref01_Mul.calls k _ _ t112 _ _ t108 t121 _ ?side1 ?side2 ?side3 ?side4 A6.out).mono ?_); (case side1 => exact zC (Kd.R_reads' HO114.out).2.2); (case side2 => exact (Kd.R_reads' HO114.out).2.1); (case side3 => exact zC (Kd.R_reads' HO110.out).2.2); (case side4 => exact (Kd.R_reads' HO110.out).2.1); rintro e w31 ⟨v122, rfl, ho0, hb⟩; refine ⟨_, rfl, ?_⟩; replace ho0 := yn ho0 HO107; replace ho0 := yn ho0 HO110; replace ho0 := yn ho0 HO114; replace ho0 := yn ho0 HO117; replace ho0 := yn ho0 HO120; have HO123 := yRl3 ho0 HB GE101 GE102 GE103; replace HO107 := yRe HO107 ho0 hb; replace HO110 := yRe HO110 ho0 hb; replace HO114 := yRe HO114 ho0 hb; replace HO117 := yRe HO117 ho0 hb; replace HO120 := yRe HO120 ho0 hb; replace BK101 := yK BK101 hb; replace BK102 := yK BK102 hb; replace BK103 := yK BK103 hb; replace HB := yS3 HB GE101 GE102 GE103 hb; (try clear hb ho0); have hcz32_0 : w31.cell? ⟨gb101, 0, none⟩ = some (.bool t104) := (blk_cell BK101.out 0).trans rfl; have hcz32_1 : w31.cell? ⟨gb101, 1, none⟩ = some (.slice Ao19 t105.length co19) := (blk_cell BK101.out 1).trans rfl; have hcz32_2 : w31.cell? ⟨gb101, 2, none⟩ = some (.slice Ao20 t108.length co20) := (blk_cell BK101.out 2).trans rfl; have hfz32_0 := blk_frozen BK101.out 0; have hfz32_1 := blk_frozen BK101.out 1; have hfz32_2 := blk_frozen BK101.out 2; have hcz33_0 : w31.cell? ⟨gb102, 0, none⟩ = some (.bool t111) := (blk_cell BK102.out 0).trans rfl; have hcz33_1 : w31.cell? ⟨gb102, 1, none⟩ = some (.slice Ao25 t112.length co25) := (blk_cell BK102.out 1).trans rfl; have hcz33_2 : w31.cell? ⟨gb102, 2, none⟩ = some (.slice Ao26 t115.length co26) := (blk_cell BK102.out 2).trans rfl; have hfz33_0 := blk_frozen BK102.out 0; have hfz33_1 := blk_frozen BK102.out 1; have hfz33_2 := blk_frozen BK102.out 2) | ((with_reducible refine gate_callee (f := 26) rfl ?_); refine zG (some 26) Try.func26 #[.slice Ao20 t108.length co20, .slice Ao26 t115.length co26] ?_; (with_reducible refine (codewrightref01_Mul.calls k _ _ t108 _ _ t115 t124 _ ?side1 ?side2 ?side3 ?side4 A7.out).mono ?_); (case side1 => exact zC (Kd.R_reads' HO110.out).2.2); (case side2 => exact (Kd.R_reads' HO110.out).2.1); (case side3 => exact zC (Kd.R_reads' HO117.out).2.2); (case side4 => exact (Kd.R_reads' HO117.out).2.1); rintro e w34 ⟨v125, rfl, ho0, hb⟩; refine ⟨_, rfl, ?_⟩; replace ho0 := yn ho0 HO107; replace ho0 := yn ho0 HO110; replace ho0 := yn ho0 HO114; replace ho0 := yn ho0 HO117; replace ho0 := yn ho0 HO120; replace ho0 := yn ho0 HO123; have HO126 := yRl3 ho0 HB GE101 GE102 GE103; replace HO107 := yRe HO107 ho0 hb; replace HO110 := yRe HO110 ho0 hb; replace HO114 := yRe HO114 ho0 hb; replace HO117 := yRe HO117 ho0 hb; replace HO120 := yRe HO120 ho0 hb; replace HO123 := yRe HO123 ho0 hb; replace BK101 := yK BK101 hb; replace BK102 := yK BK102 hb; replace BK103 := yK BK103 hb; replace HB := yS3 HB GE101 GE102 GE103 hb; (try clear hb ho0); have hcz35_0 : w34.cell? ⟨gb101, 0, none⟩ = some (.bool t104) := (blk_cell BK101.out 0).trans rfl; have hcz35_1 : w34.cell? ⟨gb101, 1, none⟩ = some (.slice Ao19 t105.length co19) := (blk_cell BK101.out 1).trans rfl; have hcz35_2 : w34.cell? ⟨gb101, 2, none⟩ = some (.slice Ao20 t108.length co20) := (blk_cell BK101.out 2).trans rfl; have hfz35_0 := blk_frozen BK101.out 0; have hfz35_1 := blk_frozen BK101.out 1; have hfz35_2 := blk_frozen BK101.out 2; have hcz36_0 : w34.cell? ⟨gb102, 0, none⟩ = some (.bool t111) := (blk_cell BK102.out 0).trans rfl; have hcz36_1 : w34.cell? ⟨gb102, 1, none⟩ = some (.slice Ao25 t112.length co25) := (blk_cell BK102.out 1).trans rfl; have hcz36_2 : w34.cell? ⟨gb102, 2, none⟩ = some (.slice Ao26 t115.length co26) := (blk_cell BK102.out 2).trans rfl; have hfz36_0 := blk_frozen BK102.out 0; have hfz36_1 := blk_frozen BK102.out 1; have hfz36_2 := blk_frozen BK102.out 2))
   replace HO107 := Aside0.mk (Kd.R_drew HO107.out)
   replace HO110 := Aside0.mk (Kd.R_drew HO110.out)
   replace HO114 := Aside0.mk (Kd.R_drew HO114.out)
   replace HO117 := Aside0.mk (Kd.R_drew HO117.out)
   replace HO120 := Aside0.mk (Kd.R_drew HO120.out)
   replace HO123 := Aside0.mk (Kd.R_drew HO123.out)
   replace HO126 := Aside0.mk (Kd.R_drew HO126.out)
   replace BK101 := Aside0.mk (blk_drew BK101.out)
   replace BK102 := Aside0.mk (blk_drew BK102.out)
   replace BK103 := Aside0.mk (blk_drew BK103.out)
   replace HB := Aside0.mk (below_drew1 HB.out)
   obtain ⟨Ao38, co38, eo38⟩ := Kd.R_slice HO120.out
   (first | subst eo38 | (injection eo38 with f1_ f2_ f3_; have f4_ := f1_.symm; have f5_ := f3_.symm; clear f1_ f2_ f3_; subst f4_; subst f5_))
   obtain ⟨Ao39, co39, eo39⟩ := Kd.R_slice HO123.out
   (first | subst eo39 | (injection eo39 with f1_ f2_ f3_; have f4_ := f1_.symm; have f5_ := f3_.symm; clear f1_ f2_ f3_; subst f4_; subst f5_))
   refine start_ (n := 8) (S := fun w' => w'.cell? ⟨gb101, 0, none⟩ = some (.bool t104) ∧ w'.cell? ⟨gb101, 1, none⟩ = some (.slice Ao19 t105.length co19) ∧ w'.cell? ⟨gb101, 2, none⟩ = some (.slice Ao20 t108.length co20)) (ds := []) #[false, false, false, false, false, false, false, false] (by kernel_rfl) rfl rfl ⟨(blk_cell BK101.out 0).trans rfl, (blk_cell BK101.out 1).trans rfl, (blk_cell BK101.out 2).trans rfl⟩ (fun hHeld => ?_); refine with_tabW codewrightref02_Add.tab7 codewrightref02_Add.bits7 (fun HT_ HW_ => ?_)
   generalize w34.drew = w37 at HO107 HO110 HO114 HO117 HO120 HO123 HO126 BK101 BK102 BK103 HB hHeld ⊢
   refine zp (i := 0) (N := some 32) HT_ ?_
   refine zp (i := 2) (N := some 34) HT_ ?_
   refine zp (i := 3) (N := some 35) HT_ ?_
   refine zp (i := 5) (N := some 37) HT_ ?_
   refine take_ (i := 1) (N := some 33) (v := ?_) (a' := ?_) #[true, true, true, true, false, true, false, false] rfl rfl (take_ofW HT_.out HW_.out (by kernel_rfl)) (fun _ _ _ h => h) (Or.inl ⟨by rfl, ?_⟩) hHeld ?_ ?_
   rotate_left
   · rintro w' ⟨s0, s1, s2⟩
     go_simp
     with_reducible rfl
   rotate_left
   · simp only [Act.put, List.setIfInBounds_toArray, List.set_cons_zero, List.set_cons_succ, i64_w, i32_w]
     rfl
   refine one_ (i := 4) (N := some 36) #[true, true, true, true, true, true, false, false] rfl rfl (one_of HT_.out (by kernel_rfl)) (by decide) (fun K hK => ?_)
   refine goes_ Try.func86 (by kernel_rfl) rfl #[.slice Ao38 t118.length co38, .slice Ao39 t121.length co39] (by rfl) rfl rfl (by (try simp only [List.map_toArray, List.map_cons, List.map_nil]); first | done | rfl | (simp only [List.length_drop, List.length_take]; rfl)) ?_
   with_reducible refine (codewrightref01_Add.calls k _ _ t118 _ _ t121 t127 _ ?side1 ?side2 ?side3 ?side4 A9.out).mono ?_
   (case side1 => exact zC (Kd.R_reads' HO120.out).2.2)
   (case side2 => exact (Kd.R_reads' HO120.out).2.1)
   (case side3 => exact zC (Kd.R_reads' HO123.out).2.2)
   (case side4 => exact (Kd.R_reads' HO123.out).2.1)
   rintro e w40 ⟨v128, rfl, ho0, hb⟩
   refine ⟨_, rfl, ?_⟩
   replace ho0 := yn ho0 HO107
   replace ho0 := yn ho0 HO110
   replace ho0 := yn ho0 HO114
   replace ho0 := yn ho0 HO117
   replace ho0 := yn ho0 HO120
   replace ho0 := yn ho0 HO123
   replace ho0 := yn ho0 HO126
   have HO129 := yRl3 ho0 HB GE101 GE102 GE103
   replace HO107 := yRe HO107 ho0 hb
   replace HO110 := yRe HO110 ho0 hb
   replace HO114 := yRe HO114 ho0 hb
   replace HO117 := yRe HO117 ho0 hb
   replace HO120 := yRe HO120 ho0 hb
   replace HO123 := yRe HO123 ho0 hb
   replace HO126 := yRe HO126 ho0 hb
   replace BK101 := yK BK101 hb
   replace BK102 := yK BK102 hb
   replace BK103 := yK BK103 hb
   replace HB := yS3 HB GE101 GE102 GE103 hb
   (try clear hb)
   (try clear hb2)
   (try clear hk)
   (try clear hi)
   (try clear ho0)
   obtain ⟨Ao41, co41, eo41⟩ := Kd.R_slice HO129.out
   (first | subst eo41 | (injection eo41 with f1_ f2_ f3_; have f4_ := f1_.symm; have f5_ := f3_.symm; clear f1_ f2_ f3_; subst f4_; subst f5_))
   obtain ⟨Ao42, co42, eo42⟩ := Kd.R_slice HO126.out
   (first | subst eo42 | (injection eo42 with f1_ f2_ f3_; have f4_ := f1_.symm; have f5_ := f3_.symm; clear f1_ f2_ f3_; subst f4_; subst f5_))
   refine hK.out _ _ ⟨(blk_cell BK101.out 0).trans rfl, (blk_cell BK101.out 1).trans rfl, (blk_cell BK101.out 2).trans rfl⟩ (fun hHeld => ?_)
   clear hK K
   refine norm_ (a' := ?_) ?_ ?_
   rotate_left
   · show Act.put _ (some 36) _ = _
     simp only [Act.put, List.setIfInBounds_toArray, List.set_cons_zero, List.set_cons_succ, i64_w, i32_w]
     rfl
   refine one_ (i := 6) (N := some 38) #[true, true, true, true, true, true, true, false] rfl rfl (one_of HT_.out (by kernel_rfl)) (by decide) (fun K hK => ?_)
   refine goes_ Try.func90 (by kernel_rfl) rfl #[.bool t104, .slice Ao41 t127.length co41, .slice Ao42 t124.length co42] (by rfl) rfl rfl (by (try simp only [List.map_toArray, List.map_cons, List.map_nil]); first | done | rfl | (simp only [List.length_drop, List.length_take]; rfl)) ?_
   with_reducible refine (codewrightref02_Make.calls k t104 _ _ t127 _ _ t124 t130 t131 t134 _ ?side1 ?side2 ?side3 ?side4 A10.out).mono ?_
   (case side1 => exact zC (Kd.R_reads' HO129.out).2.2)
   (case side2 => exact (Kd.R_reads' HO129.out).2.1)
   (case side3 => exact zC (Kd.R_reads' HO126.out).2.2)
   (case side4 => exact (Kd.R_reads' HO126.out).2.1)
   rintro e w43 ⟨v132, v135, rfl, ho0, ho1, hb⟩
   refine ⟨_, rfl, ?_⟩
   replace ho0 := yn ho0 HO107
   replace ho0 := yn ho0 HO110
   replace ho0 := yn ho0 HO114
   replace ho0 := yn ho0 HO117
   replace ho0 := yn ho0 HO120
   replace ho0 := yn ho0 HO123
   replace ho0 := yn ho0 HO126
   replace ho0 := yn ho0 HO129
   have HO133 := yRl3 ho0 HB GE101 GE102 GE103
   replace ho1 := yn ho1 HO107
   replace ho1 := yn ho1 HO110
   replace ho1 := yn ho1 HO114
   replace ho1 := yn ho1 HO117
   replace ho1 := yn ho1 HO120
   replace ho1 := yn ho1 HO123
   replace ho1 := yn ho1 HO126
   replace ho1 := yn ho1 HO129
   have HO136 := yRl3 ho1 HB GE101 GE102 GE103
   replace HO107 := yRt HO107 hb ho0 ho1
   replace HO110 := yRt HO110 hb ho0 ho1
   replace HO114 := yRt HO114 hb ho0 ho1
   replace HO117 := yRt HO117 hb ho0 ho1
   replace HO120 := yRt HO120 hb ho0 ho1
   replace HO123 := yRt HO123 hb ho0 ho1
   replace HO126 := yRt HO126 hb ho0 ho1
   replace HO129 := yRt HO129 hb ho0 ho1
   replace BK101 := yK BK101 hb
   replace BK102 := yK BK102 hb
   replace BK103 := yK BK103 hb
   replace HB := yS3 HB GE101 GE102 GE103 hb
   (try clear hb)
   (try clear hb2)
   (try clear hk)
   (try clear hi)
   (try clear ho0)
   (try clear ho1)
   obtain ⟨Ao45, co45, eo45⟩ := Kd.R_slice HO133.out
   (first | subst eo45 | (injection eo45 with f1_ f2_ f3_; have f4_ := f1_.symm; have f5_ := f3_.symm; clear f1_ f2_ f3_; subst f4_; subst f5_))
   obtain ⟨Ao47, co47, eo47⟩ := Kd.R_slice HO136.out
   (first | subst eo47 | (injection eo47 with f1_ f2_ f3_; have f4_ := f1_.symm; have f5_ := f3_.symm; clear f1_ f2_ f3_; subst f4_; subst f5_))
   refine hK.out _ _ ⟨(blk_cell BK101.out 0).trans rfl, (blk_cell BK101.out 1).trans rfl, (blk_cell BK101.out 2).trans rfl⟩ (fun hHeld => ?_)
   clear hK K
   refine norm_ (a' := ?_) ?_ ?_
   rotate_left
   · show Act.put _ (some 38) _ = _
     simp only [Act.put, List.setIfInBounds_toArray, List.set_cons_zero, List.set_cons_succ, i64_w, i32_w]
     rfl
   refine one_ (i := 7) (N := none) #[true, true, true, true, true, true, true, true] rfl rfl (one_of HT_.out (by kernel_rfl)) (by decide) (fun K hK => ?_)
   have hs44 : w43.cell? ⟨gb103, 0, none⟩ = some (.bool false) := (blk_cell BK103.out 0).trans rfl
   have hfs44 := blk_frozen BK103.out 0
   have hns44_0 := NB101_103.out
   have hns44_1 := NB102_103.out
   have hms44_0 := NB103_101.out
   have hms44_1 := NB103_102.out
   have hs46 : w43.cell? ⟨gb103, 1, none⟩ = some (.slice none 0 0) := (blk_cell BK103.out 1).trans rfl
   have hfs46 := blk_frozen BK103.out 1
   have hns46_0 := NB101_103.out
   have hns46_1 := NB102_103.out
   have hms46_0 := NB103_101.out
   have hms46_1 := NB103_102.out
   have hs48 : w43.cell? ⟨gb103, 2, none⟩ = some (.slice none 0 0) := (blk_cell BK103.out 2).trans rfl
   have hfs48 := blk_frozen BK103.out 2
   have hns48_0 := NB101_103.out
   have hns48_1 := NB102_103.out
   have hms48_0 := NB103_101.out
   have hms48_1 := NB103_102.out
   refine skip_ (w1 := ?_) (by rfl) rfl ?_ ?_
   rotate_left
   · go_simp
     rfl
   refine hK.out _ _ ⟨((cell_far (p := ⟨gb103, _, none⟩) NB101_103.out _).trans (((cell_far (p := ⟨gb103, _, none⟩) NB101_103.out _).trans (((cell_far (p := ⟨gb103, _, none⟩) NB101_103.out _).trans (hHeld.1)))))), ((cell_far (p := ⟨gb103, _, none⟩) NB101_103.out _).trans (((cell_far (p := ⟨gb103, _, none⟩) NB101_103.out _).trans (((cell_far (p := ⟨gb103, _, none⟩) NB101_103.out _).trans (hHeld.2.1)))))), ((cell_far (p := ⟨gb103, _, none⟩) NB101_103.out _).trans (((cell_far (p := ⟨gb103, _, none⟩) NB101_103.out _).trans (((cell_far (p := ⟨gb103, _, none⟩) NB101_103.out _).trans (hHeld.2.2))))))⟩ (fun hHeld => ?_)
   clear hK K
   refine done_ (done_of HT_.out (by kernel_rfl)) ?_
   try go_wp2
   refine bodyPost_ret (results_cell_row rfl _ _ gb103 60 #[.bool t130, .slice Ao45 t131.length co45, .slice Ao47 t134.length co47] (0, 0) _ rfl (by (with_reducible repeat (first | refine blk_drewN ?_ _ | refine blk_drew ?_ | refine blk_alloc ?_ _)); refine blk_put (cs := #[.bool t130, .slice Ao45 t131.length co45, .slice none 0 0]) ?_ 2 _ rfl; (with_reducible repeat (first | refine blk_drewN ?_ _ | refine blk_drew ?_ | refine blk_alloc ?_ _)); refine blk_put (cs := #[.bool t130, .slice none 0 0, .slice none 0 0]) ?_ 1 _ rfl; (with_reducible repeat (first | refine blk_drewN ?_ _ | refine blk_drew ?_ | refine blk_alloc ?_ _)); refine blk_put (cs := #[.bool false, .slice none 0 0, .slice none 0 0]) ?_ 0 _ rfl; (with_reducible repeat (first | refine blk_drewN ?_ _ | refine blk_drew ?_ | refine blk_alloc ?_ _)); exact BK103.out) Try.underlying60 rfl (by kernel_rfl)) rfl ?_
   exact ⟨_, _, zE, by (with_reducible repeat (first | apply Kd.R_alloc | apply Kd.R_drewN | apply Kd.R_drew)); exact yf HO133.out BK103.out (fun _ hk => hk.1.1.1.1.1.1.1.1.1), by (with_reducible repeat (first | apply Kd.R_alloc | apply Kd.R_drewN | apply Kd.R_drew)); exact yf HO136.out BK103.out (fun _ hk => hk.1.1.1.1.1.1.1.1.1), zB3 HB.out GE101.out GE102.out GE103.out⟩
 have c8b0 : (t104 == t111) = false := by simpa using c8
 (try (have c8b1 : decide (t104 = t111) = false := by simpa using c8))
 (try (have c8b2 : (t104 == t111) = false := by simpa using c8))
 (try (have c8b3 : ¬ (t104 = t111) := by simpa using c8))
 clear c8
 replace H := zb H
 obtain ⟨t137, A49, H⟩ := H
 replace H := zi H
 rcases H with ⟨c50, H⟩ | ⟨c50, H⟩
 · have c50b0 : decide (0 ≤ t137) = true := decide_eq_true c50
   clear c50
   replace H := zb H
   obtain ⟨t138, A51, H⟩ := H
   replace H := zb H
   obtain ⟨⟨t141, t142, t145⟩, A52, H⟩ := H
   dsimp only at H
   simp only [Option.some.injEq, Prod.mk.injEq] at H
   obtain ⟨rfl, rfl, rfl⟩ := H
   go_enter Try.func50, Try.ntmps50
   try go_wp2_with (first | ((with_reducible refine gate_dst (N := 2) rfl ?_); refine box_event ?hg (N := 2) ?hd (cs := #[.bool a0_0, .slice A0_1 l0_1.length c0_1, .slice A0_2 l0_2.length c0_2]) (t := 60) ?hr ?_; (case hd => rfl); (case hg => rfl); (case hr => first | (go_simp; done) | (go_simp; rfl)); intro gb101 hg w53 hbox hb; have BK101 := Aside0.mk (hbox); have GW101 := yg hg HB; have GE101 := yg hg HB; replace HB := yS HB hb; clear hb hbox hg) | ((with_reducible refine gate_dst (N := 3) rfl ?_); refine box_event ?hg (N := 3) ?hd (cs := #[.bool a1_0, .slice A1_1 l1_1.length c1_1, .slice A1_2 l1_2.length c1_2]) (t := 60) ?hr ?_; (case hd => rfl); (case hg => rfl); (case hr => first | (go_simp; done) | (go_simp; rfl)); intro gb102 hg w54 hbox hb; have BK102 := Aside0.mk (hbox); have GW102 := yg1 hg HB GE101; have GE102 := yg1 hg HB GE101; replace HB := yS1 HB GE101 hb; have NB101_102 := ynl hg BK101; have NB102_101 := yng hg BK101; replace BK101 := yK BK101 hb; clear hb hbox hg) | ((with_reducible refine gate_dst (N := 4) rfl ?_); refine box_event ?hg (N := 4) ?hd (cs := #[.bool false, .slice none 0 0, .slice none 0 0]) (t := 60) ?hr ?_; (case hd => rfl); (case hg => rfl); (case hr => first | (go_simp; done) | (go_simp; rfl)); intro gb103 hg w55 hbox hb; have BK103 := Aside0.mk (hbox); have GW103 := yg2 hg HB GE101 GE102; have GE103 := yg2 hg HB GE101 GE102; replace HB := yS2 HB GE101 GE102 hb; have NB101_103 := ynl hg BK101; have NB103_101 := yng hg BK101; replace BK101 := yK BK101 hb; have NB102_103 := ynl hg BK102; have NB103_102 := yng hg BK102; replace BK102 := yK BK102 hb; clear hb hbox hg; have hnb56 := NB101_102.out; have hnc56 := NB102_101.out; have hnb57 := NB101_103.out; have hnc57 := NB103_101.out; have hcz58_0 : w55.cell? ⟨gb101, 0, none⟩ = some (.bool a0_0) := (blk_cell BK101.out 0).trans rfl; have hcz58_1 : w55.cell? ⟨gb101, 1, none⟩ = some (.slice A0_1 l0_1.length c0_1) := (blk_cell BK101.out 1).trans rfl; have hcz58_2 : w55.cell? ⟨gb101, 2, none⟩ = some (.slice A0_2 l0_2.length c0_2) := (blk_cell BK101.out 2).trans rfl; have hfz58_0 := blk_frozen BK101.out 0; have hfz58_1 := blk_frozen BK101.out 1; have hfz58_2 := blk_frozen BK101.out 2) | ((with_reducible refine gate_callee (f := 99) rfl ?_); refine zG (some 9) Try.func99 #[.agg #[.bool a0_0, .slice A0_1 l0_1.length c0_1, .slice A0_2 l0_2.length c0_2]] ?_; (with_reducible refine (codewrightref02_Trim.calls k a0_0 _ _ l0_1 _ _ l0_2 t104 t105 t108 _ ?side1 ?side2 ?side3 ?side4 A3.out).mono ?_); (case side1 => exact zC (Kd.C_below HR0_1.out HB.out)); (case side2 => exact HC0_1.out); (case side3 => exact zC (Kd.C_below HR0_2.out HB.out)); (case side4 => exact HC0_2.out); rintro e w59 ⟨v106, v109, rfl, ho0, ho1, hb⟩; refine ⟨_, rfl, ?_⟩; have HO107 := yRl3 ho0 HB GE101 GE102 GE103; have HO110 := yRl3 ho1 HB GE101 GE102 GE103; replace BK101 := yK BK101 hb; replace BK102 := yK BK102 hb; replace BK103 := yK BK103 hb; replace HB := yS3 HB GE101 GE102 GE103 hb; (try clear hb ho0); (try clear ho1); have hcz60_0 : w59.cell? ⟨gb101, 0, none⟩ = some (.bool a0_0) := (blk_cell BK101.out 0).trans rfl; have hcz60_1 : w59.cell? ⟨gb101, 1, none⟩ = some (.slice A0_1 l0_1.length c0_1) := (blk_cell BK101.out 1).trans rfl; have hcz60_2 : w59.cell? ⟨gb101, 2, none⟩ = some (.slice A0_2 l0_2.length c0_2) := (blk_cell BK101.out 2).trans rfl; have hfz60_0 := blk_frozen BK101.out 0; have hfz60_1 := blk_frozen BK101.out 1; have hfz60_2 := blk_frozen BK101.out 2; obtain ⟨Ao61, co61, rfl⟩ := Kd.R_slice HO107.out; obtain ⟨Ao62, co62, rfl⟩ := Kd.R_slice HO110.out; have hnb63 := NB102_103.out; have hnc63 := NB103_102.out; have hcz64_0 : w59.cell? ⟨gb102, 0, none⟩ = some (.bool a1_0) := (blk_cell BK102.out 0).trans rfl; have hcz64_1 : w59.cell? ⟨gb102, 1, none⟩ = some (.slice A1_1 l1_1.length c1_1) := (blk_cell BK102.out 1).trans rfl; have hcz64_2 : w59.cell? ⟨gb102, 2, none⟩ = some (.slice A1_2 l1_2.length c1_2) := (blk_cell BK102.out 2).trans rfl; have hfz64_0 := blk_frozen BK102.out 0; have hfz64_1 := blk_frozen BK102.out 1; have hfz64_2 := blk_frozen BK102.out 2) | ((with_reducible refine gate_callee (f := 99) rfl ?_); refine zG (some 11) Try.func99 #[.agg #[.bool a1_0, .slice A1_1 l1_1.length c1_1, .slice A1_2 l1_2.length c1_2]] ?_; (with_reducible refine (codewrightref02_Trim.calls k a1_0 _ _ l1_1 _ _ l1_2 t111 t112 t115 _ ?side1 ?side2 ?side3 ?side4 A4.out).mono ?_); (case side1 => exact Kd.C_below HR1_1.out (zB3 HB.out GE101.out GE102.out GE103.out)); (case side2 => exact HC1_1.out); (case side3 => exact Kd.C_below HR1_2.out (zB3 HB.out GE101.out GE102.out GE103.out)); (case side4 => exact HC1_2.out); rintro e w65 ⟨v113, v116, rfl, ho0, ho1, hb⟩; refine ⟨_, rfl, ?_⟩; have HO114 := Aside0.mk (Kd.R_lower (Kd.R_new' (Kd.R_new' ho0 (Kd.R_lt (by (with_reducible repeat (first | apply Kd.R_alloc | apply Kd.R_drewN | apply Kd.R_drew)); exact (yf HO107.out BK101.out (fun _ h_ => h_.1))))) (Kd.R_lt (by (with_reducible repeat (first | apply Kd.R_alloc | apply Kd.R_drewN | apply Kd.R_drew)); exact (yf HO110.out BK101.out (fun _ h_ => h_.1))))) (below_size (zB3 HB.out GE101.out GE102.out GE103.out))); have HO117 := Aside0.mk (Kd.R_lower (Kd.R_new' (Kd.R_new' ho1 (Kd.R_lt (by (with_reducible repeat (first | apply Kd.R_alloc | apply Kd.R_drewN | apply Kd.R_drew)); exact (yf HO107.out BK101.out (fun _ h_ => h_.1))))) (Kd.R_lt (by (with_reducible repeat (first | apply Kd.R_alloc | apply Kd.R_drewN | apply Kd.R_drew)); exact (yf HO110.out BK101.out (fun _ h_ => h_.1))))) (below_size (zB3 HB.out GE101.out GE102.out GE103.out))); replace HO107 := Aside0.mk (Kd.R_mono (Kd.R_told (Kd.R_told (Kd.R_old (by (with_reducible repeat (first | apply Kd.R_alloc | apply Kd.R_drewN | apply Kd.R_drew)); exact (yf HO107.out BK101.out (fun _ h_ => h_.1))) hb) (Kd.R_base ho0)) (Kd.R_base ho1)) (fun _ h_ => h_.1)); replace HO110 := Aside0.mk (Kd.R_mono (Kd.R_told (Kd.R_told (Kd.R_old (by (with_reducible repeat (first | apply Kd.R_alloc | apply Kd.R_drewN | apply Kd.R_drew)); exact (yf HO110.out BK101.out (fun _ h_ => h_.1))) hb) (Kd.R_base ho0)) (Kd.R_base ho1)) (fun _ h_ => h_.1)); replace BK101 := Aside0.mk (blk_below (g := gb101) (o := .cells #[.bool t104, .slice Ao61 t105.length co61, .slice Ao62 t108.length co62] 60 (0, 0)) (by (with_reducible repeat (first | refine blk_drewN ?_ _ | refine blk_drew ?_ | refine blk_alloc ?_ _)); refine blk_put (cs := #[.bool t104, .slice Ao61 t105.length co61, .slice A0_2 l0_2.length c0_2]) ?_ 2 _ rfl; (with_reducible repeat (first | refine blk_drewN ?_ _ | refine blk_drew ?_ | refine blk_alloc ?_ _)); refine blk_put (cs := #[.bool t104, .slice A0_1 l0_1.length c0_1, .slice A0_2 l0_2.length c0_2]) ?_ 1 _ rfl; (with_reducible repeat (first | refine blk_drewN ?_ _ | refine blk_drew ?_ | refine blk_alloc ?_ _)); refine blk_put (cs := #[.bool a0_0, .slice A0_1 l0_1.length c0_1, .slice A0_2 l0_2.length c0_2]) ?_ 0 _ rfl; (with_reducible repeat (first | refine blk_drewN ?_ _ | refine blk_drew ?_ | refine blk_alloc ?_ _)); exact BK101.out) hb); replace BK102 := Aside0.mk (blk_below (g := gb102) (o := .cells #[.bool a1_0, .slice A1_1 l1_1.length c1_1, .slice A1_2 l1_2.length c1_2] 60 (0, 0)) (by (with_reducible repeat (first | refine blk_drewN ?_ _ | refine blk_drew ?_ | refine blk_alloc ?_ _)); refine blk_far ?_ NB102_101.out _; (with_reducible repeat (first | refine blk_drewN ?_ _ | refine blk_drew ?_ | refine blk_alloc ?_ _)); refine blk_far ?_ NB102_101.out _; (with_reducible repeat (first | refine blk_drewN ?_ _ | refine blk_drew ?_ | refine blk_alloc ?_ _)); refine blk_far ?_ NB102_101.out _; (with_reducible repeat (first | refine blk_drewN ?_ _ | refine blk_drew ?_ | refine blk_alloc ?_ _)); exact BK102.out) hb); replace BK103 := Aside0.mk (blk_below (g := gb103) (o := .cells #[.bool false, .slice none 0 0, .slice none 0 0] 60 (0, 0)) (by (with_reducible repeat (first | refine blk_drewN ?_ _ | refine blk_drew ?_ | refine blk_alloc ?_ _)); refine blk_far ?_ NB103_101.out _; (with_reducible repeat (first | refine blk_drewN ?_ _ | refine blk_drew ?_ | refine blk_alloc ?_ _)); refine blk_far ?_ NB103_101.out _; (with_reducible repeat (first | refine blk_drewN ?_ _ | refine blk_drew ?_ | refine blk_alloc ?_ _)); refine blk_far ?_ NB103_101.out _; (with_reducible repeat (first | refine blk_drewN ?_ _ | refine blk_drew ?_ | refine blk_alloc ?_ _)); exact BK103.out) hb); replace HB := yS3 HB GE101 GE102 GE103 hb; (try clear hb ho0); (try clear ho1); have hcz66_0 : w65.cell? ⟨gb102, 0, none⟩ = some (.bool a1_0) := (blk_cell BK102.out 0).trans rfl; have hcz66_1 : w65.cell? ⟨gb102, 1, none⟩ = some (.slice A1_1 l1_1.length c1_1) := (blk_cell BK102.out 1).trans rfl; have hcz66_2 : w65.cell? ⟨gb102, 2, none⟩ = some (.slice A1_2 l1_2.length c1_2) := (blk_cell BK102.out 2).trans rfl; have hfz66_0 := blk_frozen BK102.out 0; have hfz66_1 := blk_frozen BK102.out 1; have hfz66_2 := blk_frozen BK102.out 2; obtain ⟨Ao67, co67, rfl⟩ := Kd.R_slice HO114.out; obtain ⟨Ao68, co68, rfl⟩ := Kd.R_slice HO117.out; have hcz69_0 : w65.cell? ⟨gb101, 0, none⟩ = some (.bool t104) := (blk_cell BK101.out 0).trans rfl; have hcz69_1 : w65.cell? ⟨gb101, 1, none⟩ = some (.slice Ao61 t105.length co61) := (blk_cell BK101.out 1).trans rfl; have hcz69_2 : w65.cell? ⟨gb101, 2, none⟩ = some (.slice Ao62 t108.length co62) := (blk_cell BK101.out 2).trans rfl; have hfz69_0 := blk_frozen BK101.out 0; have hfz69_1 := blk_frozen BK101.out 1; have hfz69_2 := blk_frozen BK101.out 2) | ((with_reducible refine gate_callee (f := 26) rfl ?_); refine zG (some 16) Try.func26 #[.slice Ao61 t105.length co61, .slice Ao68 t115.length co68] ?_; (with_reducible refine (codewrightref01_Mul.calls k _ _ t105 _ _ t115 t118 _ ?side1 ?side2 ?side3 ?side4 A5.out).mono ?_); (case side1 => refine (Kd.R_reads' (e := 97) (base := w.heap.size) (ok := fun k_ => ((some k_ ≠ (.slice Ao62 t108.length co62 : Value).ownBlock ∧ some k_ ≠ (.slice Ao67 t112.length co67 : Value).ownBlock) ∧ some k_ ≠ (.slice Ao68 t115.length co68 : Value).ownBlock)) (n := t105.length) (c := co61) ?_).2.2; exact (by (with_reducible repeat (first | apply Kd.R_alloc | apply Kd.R_drewN | apply Kd.R_drew)); exact (yf HO107.out BK102.out (fun _ h_ => h_.1)))); (case side2 => exact (Kd.R_reads' HO107.out).2.1); (case side3 => refine (Kd.R_reads' (e := 97) (base := w.heap.size) (ok := fun k_ => ((some k_ ≠ (.slice Ao67 t112.length co67 : Value).ownBlock ∧ some k_ ≠ (.slice Ao61 t105.length co61 : Value).ownBlock) ∧ some k_ ≠ (.slice Ao62 t108.length co62 : Value).ownBlock)) (n := t115.length) (c := co68) ?_).2.2; exact (by (with_reducible repeat (first | apply Kd.R_alloc | apply Kd.R_drewN | apply Kd.R_drew)); exact (yf HO117.out BK102.out (fun _ h_ => h_.1)))); (case side4 => exact (Kd.R_reads' HO117.out).2.1); rintro e w70 ⟨v119, rfl, ho0, hb⟩; refine ⟨_, rfl, ?_⟩; have HO120 := Aside0.mk (Kd.R_lower (Kd.R_new' (Kd.R_new' (Kd.R_new' (Kd.R_new' ho0 (Kd.R_lt (by (with_reducible repeat (first | apply Kd.R_alloc | apply Kd.R_drewN | apply Kd.R_drew)); exact (yf HO107.out BK102.out (fun _ h_ => h_.1))))) (Kd.R_lt (by (with_reducible repeat (first | apply Kd.R_alloc | apply Kd.R_drewN | apply Kd.R_drew)); exact (yf HO110.out BK102.out (fun _ h_ => h_.1))))) (Kd.R_lt (by (with_reducible repeat (first | apply Kd.R_alloc | apply Kd.R_drewN | apply Kd.R_drew)); exact (yf HO114.out BK102.out (fun _ h_ => h_.1))))) (Kd.R_lt (by (with_reducible repeat (first | apply Kd.R_alloc | apply Kd.R_drewN | apply Kd.R_drew)); exact (yf HO117.out BK102.out (fun _ h_ => h_.1))))) (below_size (zB3 HB.out GE101.out GE102.out GE103.out))); replace HO107 := Aside0.mk (Kd.R_elder' (by (with_reducible repeat (first | apply Kd.R_alloc | apply Kd.R_drewN | apply Kd.R_drew)); exact (yf HO107.out BK102.out (fun _ h_ => h_.1))) (Kd.R_base ho0) hb); replace HO110 := Aside0.mk (Kd.R_elder' (by (with_reducible repeat (first | apply Kd.R_alloc | apply Kd.R_drewN | apply Kd.R_drew)); exact (yf HO110.out BK102.out (fun _ h_ => h_.1))) (Kd.R_base ho0) hb); replace HO114 := Aside0.mk (Kd.R_elder' (by (with_reducible repeat (first | apply Kd.R_alloc | apply Kd.R_drewN | apply Kd.R_drew)); exact (yf HO114.out BK102.out (fun _ h_ => h_.1))) (Kd.R_base ho0) hb); replace HO117 := Aside0.mk (Kd.R_elder' (by (with_reducible repeat (first | apply Kd.R_alloc | apply Kd.R_drewN | apply Kd.R_drew)); exact (yf HO117.out BK102.out (fun _ h_ => h_.1))) (Kd.R_base ho0) hb); replace BK101 := Aside0.mk (blk_below (g := gb101) (o := .cells #[.bool t104, .slice Ao61 t105.length co61, .slice Ao62 t108.length co62] 60 (0, 0)) (by (with_reducible repeat (first | refine blk_drewN ?_ _ | refine blk_drew ?_ | refine blk_alloc ?_ _)); refine blk_far ?_ NB101_102.out _; (with_reducible repeat (first | refine blk_drewN ?_ _ | refine blk_drew ?_ | refine blk_alloc ?_ _)); refine blk_far ?_ NB101_102.out _; (with_reducible repeat (first | refine blk_drewN ?_ _ | refine blk_drew ?_ | refine blk_alloc ?_ _)); refine blk_far ?_ NB101_102.out _; (with_reducible repeat (first | refine blk_drewN ?_ _ | refine blk_drew ?_ | refine blk_alloc ?_ _)); exact BK101.out) hb); replace BK102 := Aside0.mk (blk_below (g := gb102) (o := .cells #[.bool t111, .slice Ao67 t112.length co67, .slice Ao68 t115.length co68] 60 (0, 0)) (by (with_reducible repeat (first | refine blk_drewN ?_ _ | refine blk_drew ?_ | refine blk_alloc ?_ _)); refine blk_put (cs := #[.bool t111, .slice Ao67 t112.length co67, .slice A1_2 l1_2.length c1_2]) ?_ 2 _ rfl; (with_reducible repeat (first | refine blk_drewN ?_ _ | refine blk_drew ?_ | refine blk_alloc ?_ _)); refine blk_put (cs := #[.bool t111, .slice A1_1 l1_1.length c1_1, .slice A1_2 l1_2.length c1_2]) ?_ 1 _ rfl; (with_reducible repeat (first | refine blk_drewN ?_ _ | refine blk_drew ?_ | refine blk_alloc ?_ _)); refine blk_put (cs := #[.bool a1_0, .slice A1_1 l1_1.length c1_1, .slice A1_2 l1_2.length c1_2]) ?_ 0 _ rfl; (with_reducible repeat (first | refine blk_drewN ?_ _ | refine blk_drew ?_ | refine blk_alloc ?_ _)); exact BK102.out) hb); replace BK103 := Aside0.mk (blk_below (g := gb103) (o := .cells #[.bool false, .slice none 0 0, .slice none 0 0] 60 (0, 0)) (by (with_reducible repeat (first | refine blk_drewN ?_ _ | refine blk_drew ?_ | refine blk_alloc ?_ _)); refine blk_far ?_ NB103_102.out _; (with_reducible repeat (first | refine blk_drewN ?_ _ | refine blk_drew ?_ | refine blk_alloc ?_ _)); refine blk_far ?_ NB103_102.out _; (with_reducible repeat (first | refine blk_drewN ?_ _ | refine blk_drew ?_ | refine blk_alloc ?_ _)); refine blk_far ?_ NB103_102.out _; (with_reducible repeat (first | refine blk_drewN ?_ _ | refine blk_drew ?_ | refine blk_alloc ?_ _)); exact BK103.out) hb); replace HB := yS3 HB GE101 GE102 GE103 hb; (try clear hb ho0); have hcz71_0 : w70.cell? ⟨gb102, 0, none⟩ = some (.bool t111) := (blk_cell BK102.out 0).trans rfl; have hcz71_1 : w70.cell? ⟨gb102, 1, none⟩ = some (.slice Ao67 t112.length co67) := (blk_cell BK102.out 1).trans rfl; have hcz71_2 : w70.cell? ⟨gb102, 2, none⟩ = some (.slice Ao68 t115.length co68) := (blk_cell BK102.out 2).trans rfl; have hfz71_0 := blk_frozen BK102.out 0; have hfz71_1 := blk_frozen BK102.out 1; have hfz71_2 := blk_frozen BK102.out 2; have hcz72_0 : w70.cell? ⟨gb101, 0, none⟩ = some (.bool t104) := (blk_cell BK101.out 0).trans rfl; have hcz72_1 : w70.cell? ⟨gb101, 1, none⟩ = some (.slice Ao61 t105.length co61) := (blk_cell BK101.out 1).trans rfl; have hcz72_2 : w70.cell? ⟨gb101, 2, none⟩ = some (.slice Ao62 t108.length co62) := (blk_cell BK101.out 2).trans rfl; have hfz72_0 := blk_frozen BK101.out 0; have hfz72_1 := blk_frozen BK101.out 1; have hfz72_2 := blk_frozen BK101.out 2) | ((with_reducible refine gate_callee (f := 26) rfl ?_); refine zG (some 21) Try.func26 #[.slice Ao67 t112.length co67, .slice Ao62 t108.length co62] ?_; (with_reducible refine (codewrightref01_Mul.calls k _ _ t112 _ _ t108 t121 _ ?side1 ?side2 ?side3 ?side4 A6.out).mono ?_); (case side1 => exact zC (Kd.R_reads' HO114.out).2.2); (case side2 => exact (Kd.R_reads' HO114.out).2.1); (case side3 => exact zC (Kd.R_reads' HO110.out).2.2); (case side4 => exact (Kd.R_reads' HO110.out).2.1); rintro e w73 ⟨v122, rfl, ho0, hb⟩; refine ⟨_, rfl, ?_⟩; replace ho0 := yn ho0 HO107; replace ho0 := yn ho0 HO110; replace ho0 := yn ho0 HO114; replace ho0 := yn ho0 HO117; replace ho0 := yn ho0 HO120; have HO123 := yRl3 ho0 HB GE101 GE102 GE103; replace HO107 := yRe HO107 ho0 hb; replace HO110 := yRe HO110 ho0 hb; replace HO114 := yRe HO114 ho0 hb; replace HO117 := yRe HO117 ho0 hb; replace HO120 := yRe HO120 ho0 hb; replace BK101 := yK BK101 hb; replace BK102 := yK BK102 hb; replace BK103 := yK BK103 hb; replace HB := yS3 HB GE101 GE102 GE103 hb; (try clear hb ho0); have hcz74_0 : w73.cell? ⟨gb101, 0, none⟩ = some (.bool t104) := (blk_cell BK101.out 0).trans rfl; have hcz74_1 : w73.cell? ⟨gb101, 1, none⟩ = some (.slice Ao61 t105.length co61) := (blk_cell BK101.out 1).trans rfl; have hcz74_2 : w73.cell? ⟨gb101, 2, none⟩ = some (.slice Ao62 t108.length co62) := (blk_cell BK101.out 2).trans rfl; have hfz74_0 := blk_frozen BK101.out 0; have hfz74_1 := blk_frozen BK101.out 1; have hfz74_2 := blk_frozen BK101.out 2; have hcz75_0 : w73.cell? ⟨gb102, 0, none⟩ = some (.bool t111) := (blk_cell BK102.out 0).trans rfl; have hcz75_1 : w73.cell? ⟨gb102, 1, none⟩ = some (.slice Ao67 t112.length co67) := (blk_cell BK102.out 1).trans rfl; have hcz75_2 : w73.cell? ⟨gb102, 2, none⟩ = some (.slice Ao68 t115.length co68) := (blk_cell BK102.out 2).trans rfl; have hfz75_0 := blk_frozen BK102.out 0; have hfz75_1 := blk_frozen BK102.out 1; have hfz75_2 := blk_frozen BK102.out 2) | ((with_reducible refine gate_callee (f := 26) rfl ?_); refine zG (some 26) Try.func26 #[.slice Ao62 t108.length co62, .slice Ao68 t115.length co68] ?_; (with_reducible refine (codewrightref01_Mul.calls k _ _ t108 _ _ t115 t124 _ ?side1 ?side2 ?side3 ?side4 A7.out).mono ?_); (case side1 => exact zC (Kd.R_reads' HO110.out).2.2); (case side2 => exact (Kd.R_reads' HO110.out).2.1); (case side3 => exact zC (Kd.R_reads' HO117.out).2.2); (case side4 => exact (Kd.R_reads' HO117.out).2.1); rintro e w76 ⟨v125, rfl, ho0, hb⟩; refine ⟨_, rfl, ?_⟩; replace ho0 := yn ho0 HO107; replace ho0 := yn ho0 HO110; replace ho0 := yn ho0 HO114; replace ho0 := yn ho0 HO117; replace ho0 := yn ho0 HO120; replace ho0 := yn ho0 HO123; have HO126 := yRl3 ho0 HB GE101 GE102 GE103; replace HO107 := yRe HO107 ho0 hb; replace HO110 := yRe HO110 ho0 hb; replace HO114 := yRe HO114 ho0 hb; replace HO117 := yRe HO117 ho0 hb; replace HO120 := yRe HO120 ho0 hb; replace HO123 := yRe HO123 ho0 hb; replace BK101 := yK BK101 hb; replace BK102 := yK BK102 hb; replace BK103 := yK BK103 hb; replace HB := yS3 HB GE101 GE102 GE103 hb; (try clear hb ho0); have hcz77_0 : w76.cell? ⟨gb101, 0, none⟩ = some (.bool t104) := (blk_cell BK101.out 0).trans rfl; have hcz77_1 : w76.cell? ⟨gb101, 1, none⟩ = some (.slice Ao61 t105.length co61) := (blk_cell BK101.out 1).trans rfl; have hcz77_2 : w76.cell? ⟨gb101, 2, none⟩ = some (.slice Ao62 t108.length co62) := (blk_cell BK101.out 2).trans rfl; have hfz77_0 := blk_frozen BK101.out 0; have hfz77_1 := blk_frozen BK101.out 1; have hfz77_2 := blk_frozen BK101.out 2; have hcz78_0 : w76.cell? ⟨gb102, 0, none⟩ = some (.bool t111) := (blk_cell BK102.out 0).trans rfl; have hcz78_1 : w76.cell? ⟨gb102, 1, none⟩ = some (.slice Ao67 t112.length co67) := (blk_cell BK102.out 1).trans rfl; have hcz78_2 : w76.cell? ⟨gb102, 2, none⟩ = some (.slice Ao68 t115.length co68) := (blk_cell BK102.out 2).trans rfl; have hfz78_0 := blk_frozen BK102.out 0; have hfz78_1 := blk_frozen BK102.out 1; have hfz78_2 := blk_frozen BK102.out 2; obtain ⟨Ao79, co79, rfl⟩ := Kd.R_slice HO120.out; obtain ⟨Ao80, co80, rfl⟩ := Kd.R_slice HO123.out) | ((with_reducible refine gate_callee (f := 77) rfl ?_); refine zG (some 41) Try.func77 #[.slice Ao79 t118.length co79, .slice Ao80 t121.length co80] ?_; (with_reducible refine (codewrightref01_Cmp.calls k _ _ t118 _ _ t121 t137 _ ?side1 ?side2 ?side3 ?side4 A49.out).mono ?_); (case side1 => exact zC (Kd.R_reads' HO120.out).2.2); (case side2 => exact (Kd.R_reads' HO120.out).2.1); (case side3 => exact zC (Kd.R_reads' HO123.out).2.2); (case side4 => exact (Kd.R_reads' HO123.out).2.1); rintro e w81 ⟨rfl, hb⟩; refine ⟨_, rfl, ?_⟩; replace HO107 := yRb HO107 hb; replace HO110 := yRb HO110 hb; replace HO114 := yRb HO114 hb; replace HO117 := yRb HO117 hb; replace HO120 := yRb HO120 hb; replace HO123 := yRb HO123 hb; replace HO126 := yRb HO126 hb; replace BK101 := yK BK101 hb; replace BK102 := yK BK102 hb; replace BK103 := yK BK103 hb; replace HB := yS3 HB GE101 GE102 GE103 hb; (try clear hb); (try clear hb2); (try clear hk); (try clear hi)))
   replace HO107 := Aside0.mk (Kd.R_drew HO107.out)
   replace HO110 := Aside0.mk (Kd.R_drew HO110.out)
   replace HO114 := Aside0.mk (Kd.R_drew HO114.out)
   replace HO117 := Aside0.mk (Kd.R_drew HO117.out)
   replace HO120 := Aside0.mk (Kd.R_drew HO120.out)
   replace HO123 := Aside0.mk (Kd.R_drew HO123.out)
   replace HO126 := Aside0.mk (Kd.R_drew HO126.out)
   replace BK101 := Aside0.mk (blk_drew BK101.out)
   replace BK102 := Aside0.mk (blk_drew BK102.out)
   replace BK103 := Aside0.mk (blk_drew BK103.out)
   replace HB := Aside0.mk (below_drew1 HB.out)
   refine start_ (n := 8) (S := fun w' => w'.cell? ⟨gb101, 0, none⟩ = some (.bool t104) ∧ w'.cell? ⟨gb101, 1, none⟩ = some (.slice Ao61 t105.length co61) ∧ w'.cell? ⟨gb101, 2, none⟩ = some (.slice Ao62 t108.length co62)) (ds := []) #[false, false, false, false, false, false, false, false] (by kernel_rfl) rfl rfl ⟨(blk_cell BK101.out 0).trans rfl, (blk_cell BK101.out 1).trans rfl, (blk_cell BK101.out 2).trans rfl⟩ (fun hHeld => ?_); refine with_tabW codewrightref02_Add.tab9 codewrightref02_Add.bits9 (fun HT_ HW_ => ?_)
   generalize w81.drew = w82 at HO107 HO110 HO114 HO117 HO120 HO123 HO126 BK101 BK102 BK103 HB hHeld ⊢
   refine zp (i := 0) (N := some 43) HT_ ?_
   refine zp (i := 2) (N := some 45) HT_ ?_
   refine zp (i := 3) (N := some 46) HT_ ?_
   refine zp (i := 5) (N := some 48) HT_ ?_
   refine take_ (i := 1) (N := some 44) (v := ?_) (a' := ?_) #[true, true, true, true, false, true, false, false] rfl rfl (take_ofW HT_.out HW_.out (by kernel_rfl)) (fun _ _ _ h => h) (Or.inl ⟨by rfl, ?_⟩) hHeld ?_ ?_
   rotate_left
   · rintro w' ⟨s0, s1, s2⟩
     go_simp
     with_reducible rfl
   rotate_left
   · simp only [Act.put, List.setIfInBounds_toArray, List.set_cons_zero, List.set_cons_succ, i64_w, i32_w]
     rfl
   refine one_ (i := 4) (N := some 47) #[true, true, true, true, true, true, false, false] rfl rfl (one_of HT_.out (by kernel_rfl)) (by decide) (fun K hK => ?_)
   refine goes_ Try.func100 (by kernel_rfl) rfl #[.slice Ao79 t118.length co79, .slice Ao80 t121.length co80] (by rfl) rfl rfl (by (try simp only [List.map_toArray, List.map_cons, List.map_nil]); first | done | rfl | (simp only [List.length_drop, List.length_take]; rfl)) ?_
   with_reducible refine (codewrightref01_Sub.calls k _ _ t118 _ _ t121 t138 _ ?side1 ?side2 ?side3 ?side4 A51.out).mono ?_
   (case side1 => exact zC (Kd.R_reads' HO120.out).2.2)
   (case side2 => exact (Kd.R_reads' HO120.out).2.1)
   (case side3 => exact zC (Kd.R_reads' HO123.out).2.2)
   (case side4 => exact (Kd.R_reads' HO123.out).2.1)
   rintro e w83 ⟨v139, rfl, ho0, hb⟩
   refine ⟨_, rfl, ?_⟩
   replace ho0 := yn ho0 HO107
   replace ho0 := yn ho0 HO110
   replace ho0 := yn ho0 HO114
   replace ho0 := yn ho0 HO117
   replace ho0 := yn ho0 HO120
   replace ho0 := yn ho0 HO123
   replace ho0 := yn ho0 HO126
   have HO140 := yRl3 ho0 HB GE101 GE102 GE103
   replace HO107 := yRe HO107 ho0 hb
   replace HO110 := yRe HO110 ho0 hb
   replace HO114 := yRe HO114 ho0 hb
   replace HO117 := yRe HO117 ho0 hb
   replace HO120 := yRe HO120 ho0 hb
   replace HO123 := yRe HO123 ho0 hb
   replace HO126 := yRe HO126 ho0 hb
   replace BK101 := yK BK101 hb
   replace BK102 := yK BK102 hb
   replace BK103 := yK BK103 hb
   replace HB := yS3 HB GE101 GE102 GE103 hb
   (try clear hb)
   (try clear hb2)
   (try clear hk)
   (try clear hi)
   (try clear ho0)
   obtain ⟨Ao84, co84, eo84⟩ := Kd.R_slice HO140.out
   (first | subst eo84 | (injection eo84 with f1_ f2_ f3_; have f4_ := f1_.symm; have f5_ := f3_.symm; clear f1_ f2_ f3_; subst f4_; subst f5_))
   obtain ⟨Ao85, co85, eo85⟩ := Kd.R_slice HO126.out
   (first | subst eo85 | (injection eo85 with f1_ f2_ f3_; have f4_ := f1_.symm; have f5_ := f3_.symm; clear f1_ f2_ f3_; subst f4_; subst f5_))
   refine hK.out _ _ ⟨(blk_cell BK101.out 0).trans rfl, (blk_cell BK101.out 1).trans rfl, (blk_cell BK101.out 2).trans rfl⟩ (fun hHeld => ?_)
   clear hK K
   refine norm_ (a' := ?_) ?_ ?_
   rotate_left
   · show Act.put _ (some 47) _ = _
     simp only [Act.put, List.setIfInBounds_toArray, List.set_cons_zero, List.set_cons_succ, i64_w, i32_w]
     rfl
   refine one_ (i := 6) (N := some 49) #[true, true, true, true, true, true, true, false] rfl rfl (one_of HT_.out (by kernel_rfl)) (by decide) (fun K hK => ?_)
   refine goes_ Try.func90 (by kernel_rfl) rfl #[.bool t104, .slice Ao84 t138.length co84, .slice Ao85 t124.length co85] (by rfl) rfl rfl (by (try simp only [List.map_toArray, List.map_cons, List.map_nil]); first | done | rfl | (simp only [List.length_drop, List.length_take]; rfl)) ?_
   with_reducible refine (codewrightref02_Make.calls k t104 _ _ t138 _ _ t124 t141 t142 t145 _ ?side1 ?side2 ?side3 ?side4 A52.out).mono ?_
   (case side1 => exact zC (Kd.R_reads' HO140.out).2.2)
   (case side2 => exact (Kd.R_reads' HO140.out).2.1)
   (case side3 => exact zC (Kd.R_reads' HO126.out).2.2)
   (case side4 => exact (Kd.R_reads' HO126.out).2.1)
   rintro e w86 ⟨v143, v146, rfl, ho0, ho1, hb⟩
   refine ⟨_, rfl, ?_⟩
   replace ho0 := yn ho0 HO107
   replace ho0 := yn ho0 HO110
   replace ho0 := yn ho0 HO114
   replace ho0 := yn ho0 HO117
   replace ho0 := yn ho0 HO120
   replace ho0 := yn ho0 HO123
   replace ho0 := yn ho0 HO126
   replace ho0 := yn ho0 HO140
   have HO144 := yRl3 ho0 HB GE101 GE102 GE103
   replace ho1 := yn ho1 HO107
   replace ho1 := yn ho1 HO110
   replace ho1 := yn ho1 HO114
   replace ho1 := yn ho1 HO117
   replace ho1 := yn ho1 HO120
   replace ho1 := yn ho1 HO123
   replace ho1 := yn ho1 HO126
   replace ho1 := yn ho1 HO140
   have HO147 := yRl3 ho1 HB GE101 GE102 GE103
   replace HO107 := yRt HO107 hb ho0 ho1
   replace HO110 := yRt HO110 hb ho0 ho1
   replace HO114 := yRt HO114 hb ho0 ho1
   replace HO117 := yRt HO117 hb ho0 ho1
   replace HO120 := yRt HO120 hb ho0 ho1
   replace HO123 := yRt HO123 hb ho0 ho1
   replace HO126 := yRt HO126 hb ho0 ho1
   replace HO140 := yRt HO140 hb ho0 ho1
   replace BK101 := yK BK101 hb
   replace BK102 := yK BK102 hb
   replace BK103 := yK BK103 hb
   replace HB := yS3 HB GE101 GE102 GE103 hb
   (try clear hb)
   (try clear hb2)
   (try clear hk)
   (try clear hi)
   (try clear ho0)
   (try clear ho1)
   obtain ⟨Ao88, co88, eo88⟩ := Kd.R_slice HO144.out
   (first | subst eo88 | (injection eo88 with f1_ f2_ f3_; have f4_ := f1_.symm; have f5_ := f3_.symm; clear f1_ f2_ f3_; subst f4_; subst f5_))
   obtain ⟨Ao90, co90, eo90⟩ := Kd.R_slice HO147.out
   (first | subst eo90 | (injection eo90 with f1_ f2_ f3_; have f4_ := f1_.symm; have f5_ := f3_.symm; clear f1_ f2_ f3_; subst f4_; subst f5_))
   refine hK.out _ _ ⟨(blk_cell BK101.out 0).trans rfl, (blk_cell BK101.out 1).trans rfl, (blk_cell BK101.out 2).trans rfl⟩ (fun hHeld => ?_)
   clear hK K
   refine norm_ (a' := ?_) ?_ ?_
   rotate_left
   · show Act.put _ (some 49) _ = _
     simp only [Act.put, List.setIfInBounds_toArray, List.set_cons_zero, List.set_cons_succ, i64_w, i32_w]
     rfl
   refine one_ (i := 7) (N := none) #[true, true, true, true, true, true, true, true] rfl rfl (one_of HT_.out (by kernel_rfl)) (by decide) (fun K hK => ?_)
   have hs87 : w86.cell? ⟨gb103, 0, none⟩ = some (.bool false) := (blk_cell BK103.out 0).trans rfl
   have hfs87 := blk_frozen BK103.out 0
   have hns87_0 := NB101_103.out
   have hns87_1 := NB102_103.out
   have hms87_0 := NB103_101.out
   have hms87_1 := NB103_102.out
   have hs89 : w86.cell? ⟨gb103, 1, none⟩ = some (.slice none 0 0) := (blk_cell BK103.out 1).trans rfl
   have hfs89 := blk_frozen BK103.out 1
   have hns89_0 := NB101_103.out
   have hns89_1 := NB102_103.out
   have hms89_0 := NB103_101.out
   have hms89_1 := NB103_102.out
   have hs91 : w86.cell? ⟨gb103, 2, none⟩ = some (.slice none 0 0) := (blk_cell BK103.out 2).trans rfl
   have hfs91 := blk_frozen BK103.out 2
   have hns91_0 := NB101_103.out
   have hns91_1 := NB102_103.out
   have hms91_0 := NB103_101.out
   have hms91_1 := NB103_102.out
   refine skip_ (w1 := ?_) (by rfl) rfl ?_ ?_
   rotate_left
   · go_simp
     rfl
   refine hK.out _ _ ⟨((cell_far (p := ⟨gb103, _, none⟩) NB101_103.out _).trans (((cell_far (p := ⟨gb103, _, none⟩) NB101_103.out _).trans (((cell_far (p := ⟨gb103, _, none⟩) NB101_103.out _).trans (hHeld.1)))))), ((cell_far (p := ⟨gb103, _, none⟩) NB101_103.out _).trans (((cell_far (p := ⟨gb103, _, none⟩) NB101_103.out _).trans (((cell_far (p := ⟨gb103, _, none⟩) NB101_103.out _).trans (hHeld.2.1)))))), ((cell_far (p := ⟨gb103, _, none⟩) NB101_103.out _).trans (((cell_far (p := ⟨gb103, _, none⟩) NB101_103.out _).trans (((cell_far (p := ⟨gb103, _, none⟩) NB101_103.out _).trans (hHeld.2.2))))))⟩ (fun hHeld => ?_)
   clear hK K
   refine done_ (done_of HT_.out (by kernel_rfl)) ?_
   try go_wp2
   refine bodyPost_ret (results_cell_row rfl _ _ gb103 60 #[.bool t141, .slice Ao88 t142.length co88, .slice Ao90 t145.length co90] (0, 0) _ rfl (by (with_reducible repeat (first | refine blk_drewN ?_ _ | refine blk_drew ?_ | refine blk_alloc ?_ _)); refine blk_put (cs := #[.bool t141, .slice Ao88 t142.length co88, .slice none 0 0]) ?_ 2 _ rfl; (with_reducible repeat (first | refine blk_drewN ?_ _ | refine blk_drew ?_ | refine blk_alloc ?_ _)); refine blk_put (cs := #[.bool t141, .slice none 0 0, .slice none 0 0]) ?_ 1 _ rfl; (with_reducible repeat (first | refine blk_drewN ?_ _ | refine blk_drew ?_ | refine blk_alloc ?_ _)); refine blk_put (cs := #[.bool false, .slice none 0 0, .slice none 0 0]) ?_ 0 _ rfl; (with_reducible repeat (first | refine blk_drewN ?_ _ | refine blk_drew ?_ | refine blk_alloc ?_ _)); exact BK103.out) Try.underlying60 rfl (by kernel_rfl)) rfl ?_
   exact ⟨_, _, zE, by (with_reducible repeat (first | apply Kd.R_alloc | apply Kd.R_drewN | apply Kd.R_drew)); exact yf HO144.out BK103.out (fun _ hk => hk.1.1.1.1.1.1.1.1.1), by (with_reducible repeat (first | apply Kd.R_alloc | apply Kd.R_drewN | apply Kd.R_drew)); exact yf HO147.out BK103.out (fun _ hk => hk.1.1.1.1.1.1.1.1.1), zB3 HB.out GE101.out GE102.out GE103.out⟩
 have c50b0 : decide (0 ≤ t137) = false := decide_eq_false c50
 clear c50
 replace H := zb H
 obtain ⟨t148, A92, H⟩ := H
 replace H := zb H
 obtain ⟨⟨t151, t152, t155⟩, A93, H⟩ := H
 dsimp only at H
 simp only [Option.some.injEq, Prod.mk.injEq] at H
 obtain ⟨rfl, rfl, rfl⟩ := H
 go_enter Try.func50, Try.ntmps50
 try go_wp2_with (first | ((with_reducible refine gate_dst (N := 2) rfl ?_); refine box_event ?hg (N := 2) ?hd (cs := #[.bool a0_0, .slice A0_1 l0_1.length c0_1, .slice A0_2 l0_2.length c0_2]) (t := 60) ?hr ?_; (case hd => rfl); (case hg => rfl); (case hr => first | (go_simp; done) | (go_simp; rfl)); intro gb101 hg w94 hbox hb; have BK101 := Aside0.mk (hbox); have GW101 := yg hg HB; have GE101 := yg hg HB; replace HB := yS HB hb; clear hb hbox hg) | ((with_reducible refine gate_dst (N := 3) rfl ?_); refine box_event ?hg (N := 3) ?hd (cs := #[.bool a1_0, .slice A1_1 l1_1.length c1_1, .slice A1_2 l1_2.length c1_2]) (t := 60) ?hr ?_; (case hd => rfl); (case hg => rfl); (case hr => first | (go_simp; done) | (go_simp; rfl)); intro gb102 hg w95 hbox hb; have BK102 := Aside0.mk (hbox); have GW102 := yg1 hg HB GE101; have GE102 := yg1 hg HB GE101; replace HB := yS1 HB GE101 hb; have NB101_102 := ynl hg BK101; have NB102_101 := yng hg BK101; replace BK101 := yK BK101 hb; clear hb hbox hg) | ((with_reducible refine gate_dst (N := 4) rfl ?_); refine box_event ?hg (N := 4) ?hd (cs := #[.bool false, .slice none 0 0, .slice none 0 0]) (t := 60) ?hr ?_; (case hd => rfl); (case hg => rfl); (case hr => first | (go_simp; done) | (go_simp; rfl)); intro gb103 hg w96 hbox hb; have BK103 := Aside0.mk (hbox); have GW103 := yg2 hg HB GE101 GE102; have GE103 := yg2 hg HB GE101 GE102; replace HB := yS2 HB GE101 GE102 hb; have NB101_103 := ynl hg BK101; have NB103_101 := yng hg BK101; replace BK101 := yK BK101 hb; have NB102_103 := ynl hg BK102; have NB103_102 := yng hg BK102; replace BK102 := yK BK102 hb; clear hb hbox hg; have hnb97 := NB101_102.out; have hnc97 := NB102_101.out; have hnb98 := NB101_103.out; have hnc98 := NB103_101.out; have hcz99_0 : w96.cell? ⟨gb101, 0, none⟩ = some (.bool a0_0) := (blk_cell BK101.out 0).trans rfl; have hcz99_1 : w96.cell? ⟨gb101, 1, none⟩ = some (.slice A0_1 l0_1.length c0_1) := (blk_cell BK101.out 1).trans rfl; have hcz99_2 : w96.cell? ⟨gb101, 2, none⟩ = some (.slice A0_2 l0_2.length c0_2) := (blk_cell BK101.out 2).trans rfl; have hfz99_0 := blk_frozen BK101.out 0; have hfz99_1 := blk_frozen BK101.out 1; have hfz99_2 := blk_frozen BK101.out 2) | ((with_reducible refine gate_callee (f := 99) rfl ?_); refine zG (some 9) Try.func99 #[.agg #[.bool a0_0, .slice A0_1 l0_1.length c0_1, .slice A0_2 l0_2.length c0_2]] ?_; (with_reducible refine (codewrightref02_Trim.calls k a0_0 _ _ l0_1 _ _ l0_2 t104 t105 t108 _ ?side1 ?side2 ?side3 ?side4 A3.out).mono ?_); (case side1 => exact zC (Kd.C_below HR0_1.out HB.out)); (case side2 => exact HC0_1.out); (case side3 => exact zC (Kd.C_below HR0_2.out HB.out)); (case side4 => exact HC0_2.out); rintro e w100 ⟨v106, v109, rfl, ho0, ho1, hb⟩; refine ⟨_, rfl, ?_⟩; have HO107 := yRl3 ho0 HB GE101 GE102 GE103; have HO110 := yRl3 ho1 HB GE101 GE102 GE103; replace BK101 := yK BK101 hb; replace BK102 := yK BK102 hb; replace BK103 := yK BK103 hb; replace HB := yS3 HB GE101 GE102 GE103 hb; (try clear hb ho0); (try clear ho1); have hcz101_0 : w100.cell? ⟨gb101, 0, none⟩ = some (.bool a0_0) := (blk_cell BK101.out 0).trans rfl; have hcz101_1 : w100.cell? ⟨gb101, 1, none⟩ = some (.slice A0_1 l0_1.length c0_1) := (blk_cell BK101.out 1).trans rfl; have hcz101_2 : w100.cell? ⟨gb101, 2, none⟩ = some (.slice A0_2 l0_2.length c0_2) := (blk_cell BK101.out 2).trans rfl; have hfz101_0 := blk_frozen BK101.out 0; have hfz101_1 := blk_frozen BK101.out 1; have hfz101_2 := blk_frozen BK101.out 2; obtain ⟨Ao102, co102, rfl⟩ := Kd.R_slice HO107.out; obtain ⟨Ao103, co103, rfl⟩ := Kd.R_slice HO110.out; have hnb104 := NB102_103.out; have hnc104 := NB103_102.out; have hcz105_0 : w100.cell? ⟨gb102, 0, none⟩ = some (.bool a1_0) := (blk_cell BK102.out 0).trans rfl; have hcz105_1 : w100.cell? ⟨gb102, 1, none⟩ = some (.slice A1_1 l1_1.length c1_1) := (blk_cell BK102.out 1).trans rfl; have hcz105_2 : w100.cell? ⟨gb102, 2, none⟩ = some (.slice A1_2 l1_2.length c1_2) := (blk_cell BK102.out 2).trans rfl; have hfz105_0 := blk_frozen BK102.out 0; have hfz105_1 := blk_frozen BK102.out 1; have hfz105_2 := blk_frozen BK102.out 2) | ((with_reducible refine gate_callee (f := 99) rfl ?_); refine zG (some 11) Try.func99 #[.agg #[.bool a1_0, .slice A1_1 l1_1.length c1_1, .slice A1_2 l1_2.length c1_2]] ?_; (with_reducible refine (codewrightref02_Trim.calls k a1_0 _ _ l1_1 _ _ l1_2 t111 t112 t115 _ ?side1 ?side2 ?side3 ?side4 A4.out).mono ?_); (case side1 => exact Kd.C_below HR1_1.out (zB3 HB.out GE101.out GE102.out GE103.out)); (case side2 => exact HC1_1.out); (case side3 => exact Kd.C_below HR1_2.out (zB3 HB.out GE101.out GE102.out GE103.out)); (case side4 => exact HC1_2.out); rintro e w106 ⟨v113, v116, rfl, ho0, ho1, hb⟩; refine ⟨_, rfl, ?_⟩; have HO114 := Aside0.mk (Kd.R_lower (Kd.R_new' (Kd.R_new' ho0 (Kd.R_lt (by (with_reducible repeat (first | apply Kd.R_alloc | apply Kd.R_drewN | apply Kd.R_drew)); exact (yf HO107.out BK101.out (fun _ h_ => h_.1))))) (Kd.R_lt (by (with_reducible repeat (first | apply Kd.R_alloc | apply Kd.R_drewN | apply Kd.R_drew)); exact (yf HO110.out BK101.out (fun _ h_ => h_.1))))) (below_size (zB3 HB.out GE101.out GE102.out GE103.out))); have HO117 := Aside0.mk (Kd.R_lower (Kd.R_new' (Kd.R_new' ho1 (Kd.R_lt (by (with_reducible repeat (first | apply Kd.R_alloc | apply Kd.R_drewN | apply Kd.R_drew)); exact (yf HO107.out BK101.out (fun _ h_ => h_.1))))) (Kd.R_lt (by (with_reducible repeat (first | apply Kd.R_alloc | apply Kd.R_drewN | apply Kd.R_drew)); exact (yf HO110.out BK101.out (fun _ h_ => h_.1))))) (below_size (zB3 HB.out GE101.out GE102.out GE103.out))); replace HO107 := Aside0.mk (Kd.R_mono (Kd.R_told (Kd.R_told (Kd.R_old (by (with_reducible repeat (first | apply Kd.R_alloc | apply Kd.R_drewN | apply Kd.R_drew)); exact (yf HO107.out BK101.out (fun _ h_ => h_.1))) hb) (Kd.R_base ho0)) (Kd.R_base ho1)) (fun _ h_ => h_.1)); replace HO110 := Aside0.mk (Kd.R_mono (Kd.R_told (Kd.R_told (Kd.R_old (by (with_reducible repeat (first | apply Kd.R_alloc | apply Kd.R_drewN | apply Kd.R_drew)); exact (yf HO110.out BK101.out (fun _ h_ => h_.1))) hb) (Kd.R_base ho0)) (Kd.R_base ho1)) (fun _ h_ => h_.1)); replace BK101 := Aside0.mk (blk_below (g := gb101) (o := .cells #[.bool t104, .slice Ao102 t105.length co102, .slice Ao103 t108.length co103] 60 (0, 0)) (by (with_reducible repeat (first | refine blk_drewN ?_ _ | refine blk_drew ?_ | refine blk_alloc ?_ _)); refine blk_put (cs := #[.bool t104, .slice Ao102 t105.length co102, .slice A0_2 l0_2.length c0_2]) ?_ 2 _ rfl; (with_reducible repeat (first | refine blk_drewN ?_ _ | refine blk_drew ?_ | refine blk_alloc ?_ _)); refine blk_put (cs := #[.bool t104, .slice A0_1 l0_1.length c0_1, .slice A0_2 l0_2.length c0_2]) ?_ 1 _ rfl; (with_reducible repeat (first | refine blk_drewN ?_ _ | refine blk_drew ?_ | refine blk_alloc ?_ _)); refine blk_put (cs := #[.bool a0_0, .slice A0_1 l0_1.length c0_1, .slice A0_2 l0_2.length c0_2]) ?_ 0 _ rfl; (with_reducible repeat (first | refine blk_drewN ?_ _ | refine blk_drew ?_ | refine blk_alloc ?_ _)); exact BK101.out) hb); replace BK102 := Aside0.mk (blk_below (g := gb102) (o := .cells #[.bool a1_0, .slice A1_1 l1_1.length c1_1, .slice A1_2 l1_2.length c1_2] 60 (0, 0)) (by (with_reducible repeat (first | refine blk_drewN ?_ _ | refine blk_drew ?_ | refine blk_alloc ?_ _)); refine blk_far ?_ NB102_101.out _; (with_reducible repeat (first | refine blk_drewN ?_ _ | refine blk_drew ?_ | refine blk_alloc ?_ _)); refine blk_far ?_ NB102_101.out _; (with_reducible repeat (first | refine blk_drewN ?_ _ | refine blk_drew ?_ | refine blk_alloc ?_ _)); refine blk_far ?_ NB102_101.out _; (with_reducible repeat (first | refine blk_drewN ?_ _ | refine blk_drew ?_ | refine blk_alloc ?_ _)); exact BK102.out) hb); replace BK103 := Aside0.mk (blk_below (g := gb103) (o := .cells #[.bool false, .slice none 0 0, .slice none 0 0] 60 (0, 0)) (by (with_reducible repeat (first | refine blk_drewN ?_ _ | refine blk_drew ?_ | refine blk_alloc ?_ _)); refine blk_far ?_ NB103_101.out _; (with_reducible repeat (first | refine blk_drewN ?_ _ | refine blk_drew ?_ | refine blk_alloc ?_ _)); refine blk_far ?_ NB103_101.out _; (with_reducible repeat (first | refine blk_drewN ?_ _ | refine blk_drew ?_ | refine blk_alloc ?_ _)); refine blk_far ?_ NB103_101.out _; (with_reducible repeat (first | refine blk_drewN ?_ _ | refine blk_drew ?_ | refine blk_alloc ?_ _)); exact BK103.out) hb); replace HB := yS3 HB GE101 GE102 GE103 hb; (try clear hb ho0); (try clear ho1); have hcz107_0 : w106.cell? ⟨gb102, 0, none⟩ = some (.bool a1_0) := (blk_cell BK102.out 0).trans rfl; have hcz107_1 : w106.cell? ⟨gb102, 1, none⟩ = some (.slice A1_1 l1_1.length c1_1) := (blk_cell BK102.out 1).trans rfl; have hcz107_2 : w106.cell? ⟨gb102, 2, none⟩ = some (.slice A1_2 l1_2.length c1_2) := (blk_cell BK102.out 2).trans rfl; have hfz107_0 := blk_frozen BK102.out 0; have hfz107_1 := blk_frozen BK102.out 1; have hfz107_2 := blk_frozen BK102.out 2; obtain ⟨Ao108, co108, rfl⟩ := Kd.R_slice HO114.out; obtain ⟨Ao109, co109, rfl⟩ := Kd.R_slice HO117.out; have hcz110_0 : w106.cell? ⟨gb101, 0, none⟩ = some (.bool t104) := (blk_cell BK101.out 0).trans rfl; have hcz110_1 : w106.cell? ⟨gb101, 1, none⟩ = some (.slice Ao102 t105.length co102) := (blk_cell BK101.out 1).trans rfl; have hcz110_2 : w106.cell? ⟨gb101, 2, none⟩ = some (.slice Ao103 t108.length co103) := (blk_cell BK101.out 2).trans rfl; have hfz110_0 := blk_frozen BK101.out 0; have hfz110_1 := blk_frozen BK101.out 1; have hfz110_2 := blk_frozen BK101.out 2) | ((with_reducible refine gate_callee (f := 26) rfl ?_); refine zG (some 16) Try.func26 #[.slice Ao102 t105.length co102, .slice Ao109 t115.length co109] ?_; (with_reducible refine (codewrightref01_Mul.calls k _ _ t105 _ _ t115 t118 _ ?side1 ?side2 ?side3 ?side4 A5.out).mono ?_); (case side1 => refine (Kd.R_reads' (e := 97) (base := w.heap.size) (ok := fun k_ => ((some k_ ≠ (.slice Ao103 t108.length co103 : Value).ownBlock ∧ some k_ ≠ (.slice Ao108 t112.length co108 : Value).ownBlock) ∧ some k_ ≠ (.slice Ao109 t115.length co109 : Value).ownBlock)) (n := t105.length) (c := co102) ?_).2.2; exact (by (with_reducible repeat (first | apply Kd.R_alloc | apply Kd.R_drewN | apply Kd.R_drew)); exact (yf HO107.out BK102.out (fun _ h_ => h_.1)))); (case side2 => exact (Kd.R_reads' HO107.out).2.1); (case side3 => refine (Kd.R_reads' (e := 97) (base := w.heap.size) (ok := fun k_ => ((some k_ ≠ (.slice Ao108 t112.length co108 : Value).ownBlock ∧ some k_ ≠ (.slice Ao102 t105.length co102 : Value).ownBlock) ∧ some k_ ≠ (.slice Ao103 t108.length co103 : Value).ownBlock)) (n := t115.length) (c := co109) ?_).2.2; exact (by (with_reducible repeat (first | apply Kd.R_alloc | apply Kd.R_drewN | apply Kd.R_drew)); exact (yf HO117.out BK102.out (fun _ h_ => h_.1)))); (case side4 => exact (Kd.R_reads' HO117.out).2.1); rintro e w111 ⟨v119, rfl, ho0, hb⟩; refine ⟨_, rfl, ?_⟩; have HO120 := Aside0.mk (Kd.R_lower (Kd.R_new' (Kd.R_new' (Kd.R_new' (Kd.R_new' ho0 (Kd.R_lt (by (with_reducible repeat (first | apply Kd.R_alloc | apply Kd.R_drewN | apply Kd.R_drew)); exact (yf HO107.out BK102.out (fun _ h_ => h_.1))))) (Kd.R_lt (by (with_reducible repeat (first | apply Kd.R_alloc | apply Kd.R_drewN | apply Kd.R_drew)); exact (yf HO110.out BK102.out (fun _ h_ => h_.1))))) (Kd.R_lt (by (with_reducible repeat (first | apply Kd.R_alloc | apply Kd.R_drewN | apply Kd.R_drew)); exact (yf HO114.out BK102.out (fun _ h_ => h_.1))))) (Kd.R_lt (by (with_reducible repeat (first | apply Kd.R_alloc | apply Kd.R_drewN | apply Kd.R_drew)); exact (yf HO117.out BK102.out (fun _ h_ => h_.1))))) (below_size (zB3 HB.out GE101.out GE102.out GE103.out))); replace HO107 := Aside0.mk (Kd.R_elder' (by (with_reducible repeat (first | apply Kd.R_alloc | apply Kd.R_drewN | apply Kd.R_drew)); exact (yf HO107.out BK102.out (fun _ h_ => h_.1))) (Kd.R_base ho0) hb); replace HO110 := Aside0.mk (Kd.R_elder' (by (with_reducible repeat (first | apply Kd.R_alloc | apply Kd.R_drewN | apply Kd.R_drew)); exact (yf HO110.out BK102.out (fun _ h_ => h_.1))) (Kd.R_base ho0) hb); replace HO114 := Aside0.mk (Kd.R_elder' (by (with_reducible repeat (first | apply Kd.R_alloc | apply Kd.R_drewN | apply Kd.R_drew)); exact (yf HO114.out BK102.out (fun _ h_ => h_.1))) (Kd.R_base ho0) hb); replace HO117 := Aside0.mk (Kd.R_elder' (by (with_reducible repeat (first | apply Kd.R_alloc | apply Kd.R_drewN | apply Kd.R_drew)); exact (yf HO117.out BK102.out (fun _ h_ => h_.1))) (Kd.R_base ho0) hb); replace BK101 := Aside0.mk (blk_below (g := gb101) (o := .cells #[.bool t104, .slice Ao102 t105.length co102, .slice Ao103 t108.length co103] 60 (0, 0)) (by (with_reducible repeat (first | refine blk_drewN ?_ _ | refine blk_drew ?_ | refine blk_alloc ?_ _)); refine blk_far ?_ NB101_102.out _; (with_reducible repeat (first | refine blk_drewN ?_ _ | refine blk_drew ?_ | refine blk_alloc ?_ _)); refine blk_far ?_ NB101_102.out _; (with_reducible repeat (first | refine blk_drewN ?_ _ | refine blk_drew ?_ | refine blk_alloc ?_ _)); refine blk_far ?_ NB101_102.out _; (with_reducible repeat (first | refine blk_drewN ?_ _ | refine blk_drew ?_ | refine blk_alloc ?_ _)); exact BK101.out) hb); replace BK102 := Aside0.mk (blk_below (g := gb102) (o := .cells #[.bool t111, .slice Ao108 t112.length co108, .slice Ao109 t115.length co109] 60 (0, 0)) (by (with_reducible repeat (first | refine blk_drewN ?_ _ | refine blk_drew ?_ | refine blk_alloc ?_ _)); refine blk_put (cs := #[.bool t111, .slice Ao108 t112.length co108, .slice A1_2 l1_2.length c1_2]) ?_ 2 _ rfl; (with_reducible repeat (first | refine blk_drewN ?_ _ | refine blk_drew ?_ | refine blk_alloc ?_ _)); refine blk_put (cs := #[.bool t111, .slice A1_1 l1_1.length c1_1, .slice A1_2 l1_2.length c1_2]) ?_ 1 _ rfl; (with_reducible repeat (first | refine blk_drewN ?_ _ | refine blk_drew ?_ | refine blk_alloc ?_ _)); refine blk_put (cs := #[.bool a1_0, .slice A1_1 l1_1.length c1_1, .slice A1_2 l1_2.length c1_2]) ?_ 0 _ rfl; (with_reducible repeat (first | refine blk_drewN ?_ _ | refine blk_drew ?_ | refine blk_alloc ?_ _)); exact BK102.out) hb); replace BK103 := Aside0.mk (blk_below (g := gb103) (o := .cells #[.bool false, .slice none 0 0, .slice none 0 0] 60 (0, 0)) (by (with_reducible repeat (first | refine blk_drewN ?_ _ | refine blk_drew ?_ | refine blk_alloc ?_ _)); refine blk_far ?_ NB103_102.out _; (with_reducible repeat (first | refine blk_drewN ?_ _ | refine blk_drew ?_ | refine blk_alloc ?_ _)); refine blk_far ?_ NB103_102.out _; (with_reducible repeat (first | refine blk_drewN ?_ _ | refine blk_drew ?_ | refine blk_alloc ?_ _)); refine blk_far ?_ NB103_102.out _; (with_reducible repeat (first | refine blk_drewN ?_ _ | refine blk_drew ?_ | refine blk_alloc ?_ _)); exact BK103.out) hb); replace HB := yS3 HB GE101 GE102 GE103 hb; (try clear hb ho0); have hcz112_0 : w111.cell? ⟨gb102, 0, none⟩ = some (.bool t111) := (blk_cell BK102.out 0).trans rfl; have hcz112_1 : w111.cell? ⟨gb102, 1, none⟩ = some (.slice Ao108 t112.length co108) := (blk_cell BK102.out 1).trans rfl; have hcz112_2 : w111.cell? ⟨gb102, 2, none⟩ = some (.slice Ao109 t115.length co109) := (blk_cell BK102.out 2).trans rfl; have hfz112_0 := blk_frozen BK102.out 0; have hfz112_1 := blk_frozen BK102.out 1; have hfz112_2 := blk_frozen BK102.out 2; have hcz113_0 : w111.cell? ⟨gb101, 0, none⟩ = some (.bool t104) := (blk_cell BK101.out 0).trans rfl; have hcz113_1 : w111.cell? ⟨gb101, 1, none⟩ = some (.slice Ao102 t105.length co102) := (blk_cell BK101.out 1).trans rfl; have hcz113_2 : w111.cell? ⟨gb101, 2, none⟩ = some (.slice Ao103 t108.length co103) := (blk_cell BK101.out 2).trans rfl; have hfz113_0 := blk_frozen BK101.out 0; have hfz113_1 := blk_frozen BK101.out 1; have hfz113_2 := blk_frozen BK101.out 2) | ((with_reducible refine gate_callee (f := 26) rfl ?_); refine zG (some 21) Try.func26 #[.slice Ao108 t112.length co108, .slice Ao103 t108.length co103] ?_; (with_reducible refine (codewrightref01_Mul.calls k _ _ t112 _ _ t108 t121 _ ?side1 ?side2 ?side3 ?side4 A6.out).mono ?_); (case side1 => exact zC (Kd.R_reads' HO114.out).2.2); (case side2 => exact (Kd.R_reads' HO114.out).2.1); (case side3 => exact zC (Kd.R_reads' HO110.out).2.2); (case side4 => exact (Kd.R_reads' HO110.out).2.1); rintro e w114 ⟨v122, rfl, ho0, hb⟩; refine ⟨_, rfl, ?_⟩; replace ho0 := yn ho0 HO107; replace ho0 := yn ho0 HO110; replace ho0 := yn ho0 HO114; replace ho0 := yn ho0 HO117; replace ho0 := yn ho0 HO120; have HO123 := yRl3 ho0 HB GE101 GE102 GE103; replace HO107 := yRe HO107 ho0 hb; replace HO110 := yRe HO110 ho0 hb; replace HO114 := yRe HO114 ho0 hb; replace HO117 := yRe HO117 ho0 hb; replace HO120 := yRe HO120 ho0 hb; replace BK101 := yK BK101 hb; replace BK102 := yK BK102 hb; replace BK103 := yK BK103 hb; replace HB := yS3 HB GE101 GE102 GE103 hb; (try clear hb ho0); have hcz115_0 : w114.cell? ⟨gb101, 0, none⟩ = some (.bool t104) := (blk_cell BK101.out 0).trans rfl; have hcz115_1 : w114.cell? ⟨gb101, 1, none⟩ = some (.slice Ao102 t105.length co102) := (blk_cell BK101.out 1).trans rfl; have hcz115_2 : w114.cell? ⟨gb101, 2, none⟩ = some (.slice Ao103 t108.length co103) := (blk_cell BK101.out 2).trans rfl; have hfz115_0 := blk_frozen BK101.out 0; have hfz115_1 := blk_frozen BK101.out 1; have hfz115_2 := blk_frozen BK101.out 2; have hcz116_0 : w114.cell? ⟨gb102, 0, none⟩ = some (.bool t111) := (blk_cell BK102.out 0).trans rfl; have hcz116_1 : w114.cell? ⟨gb102, 1, none⟩ = some (.slice Ao108 t112.length co108) := (blk_cell BK102.out 1).trans rfl; have hcz116_2 : w114.cell? ⟨gb102, 2, none⟩ = some (.slice Ao109 t115.length co109) := (blk_cell BK102.out 2).trans rfl; have hfz116_0 := blk_frozen BK102.out 0; have hfz116_1 := blk_frozen BK102.out 1; have hfz116_2 := blk_frozen BK102.out 2) | ((with_reducible refine gate_callee (f := 26) rfl ?_); refine zG (some 26) Try.func26 #[.slice Ao103 t108.length co103, .slice Ao109 t115.length co109] ?_; (with_reducible refine (codewrightref01_Mul.calls k _ _ t108 _ _ t115 t124 _ ?side1 ?side2 ?side3 ?side4 A7.out).mono ?_); (case side1 => exact zC (Kd.R_reads' HO110.out).2.2); (case side2 => exact (Kd.R_reads' HO110.out).2.1); (case side3 => exact zC (Kd.R_reads' HO117.out).2.2); (case side4 => exact (Kd.R_reads' HO117.out).2.1); rintro e w117 ⟨v125, rfl, ho0, hb⟩; refine ⟨_, rfl, ?_⟩; replace ho0 := yn ho0 HO107; replace ho0 := yn ho0 HO110; replace ho0 := yn ho0 HO114; replace ho0 := yn ho0 HO117; replace ho0 := yn ho0 HO120; replace ho0 := yn ho0 HO123; have HO126 := yRl3 ho0 HB GE101 GE102 GE103; replace HO107 := yRe HO107 ho0 hb; replace HO110 := yRe HO110 ho0 hb; replace HO114 := yRe HO114 ho0 hb; replace HO117 := yRe HO117 ho0 hb; replace HO120 := yRe HO120 ho0 hb; replace HO123 := yRe HO123 ho0 hb; replace BK101 := yK BK101 hb; replace BK102 := yK BK102 hb; replace BK103 := yK BK103 hb; replace HB := yS3 HB GE101 GE102 GE103 hb; (try clear hb ho0); have hcz118_0 : w117.cell? ⟨gb101, 0, none⟩ = some (.bool t104) := (blk_cell BK101.out 0).trans rfl; have hcz118_1 : w117.cell? ⟨gb101, 1, none⟩ = some (.slice Ao102 t105.length co102) := (blk_cell BK101.out 1).trans rfl; have hcz118_2 : w117.cell? ⟨gb101, 2, none⟩ = some (.slice Ao103 t108.length co103) := (blk_cell BK101.out 2).trans rfl; have hfz118_0 := blk_frozen BK101.out 0; have hfz118_1 := blk_frozen BK101.out 1; have hfz118_2 := blk_frozen BK101.out 2; have hcz119_0 : w117.cell? ⟨gb102, 0, none⟩ = some (.bool t111) := (blk_cell BK102.out 0).trans rfl; have hcz119_1 : w117.cell? ⟨gb102, 1, none⟩ = some (.slice Ao108 t112.length co108) := (blk_cell BK102.out 1).trans rfl; have hcz119_2 : w117.cell? ⟨gb102, 2, none⟩ = some (.slice Ao109 t115.length co109) := (blk_cell BK102.out 2).trans rfl; have hfz119_0 := blk_frozen BK102.out 0; have hfz119_1 := blk_frozen BK102.out 1; have hfz119_2 := blk_frozen BK102.out 2; obtain ⟨Ao120, co120, rfl⟩ := Kd.R_slice HO120.out; obtain ⟨Ao121, co121, rfl⟩ := Kd.R_slice HO123.out) | ((with_reducible refine gate_callee (f := 77) rfl ?_); refine zG (some 41) Try.func77 #[.slice Ao120 t118.length co120, .slice Ao121 t121.length co121] ?_; (with_reducible refine (codewrightref01_Cmp.calls k _ _ t118 _ _ t121 t137 _ ?side1 ?side2 ?side3 ?side4 A49.out).mono ?_); (case side1 => exact zC (Kd.R_reads' HO120.out).2.2); (case side2 => exact (Kd.R_reads' HO120.out).2.1); (case side3 => exact zC (Kd.R_reads' HO123.out).2.2); (case side4 => exact (Kd.R_reads' HO123.out).2.1); rintro e w122 ⟨rfl, hb⟩; refine ⟨_, rfl, ?_⟩; replace HO107 := yRb HO107 hb; replace HO110 := yRb HO110 hb; replace HO114 := yRb HO114 hb; replace HO117 := yRb HO117 hb; replace HO120 := yRb HO120 hb; replace HO123 := yRb HO123 hb; replace HO126 := yRb HO126 hb; replace BK101 := yK BK101 hb; replace BK102 := yK BK102 hb; replace BK103 := yK BK103 hb; replace HB := yS3 HB GE101 GE102 GE103 hb; (try clear hb); (try clear hb2); (try clear hk); (try clear hi)))
 replace HO107 := Aside0.mk (Kd.R_drew HO107.out)
 replace HO110 := Aside0.mk (Kd.R_drew HO110.out)
 replace HO114 := Aside0.mk (Kd.R_drew HO114.out)
 replace HO117 := Aside0.mk (Kd.R_drew HO117.out)
 replace HO120 := Aside0.mk (Kd.R_drew HO120.out)
 replace HO123 := Aside0.mk (Kd.R_drew HO123.out)
 replace HO126 := Aside0.mk (Kd.R_drew HO126.out)
 replace BK101 := Aside0.mk (blk_drew BK101.out)
 replace BK102 := Aside0.mk (blk_drew BK102.out)
 replace BK103 := Aside0.mk (blk_drew BK103.out)
 replace HB := Aside0.mk (below_drew1 HB.out)
 refine start_ (n := 8) (S := fun w' => w'.cell? ⟨gb102, 0, none⟩ = some (.bool t111) ∧ w'.cell? ⟨gb102, 1, none⟩ = some (.slice Ao108 t112.length co108) ∧ w'.cell? ⟨gb102, 2, none⟩ = some (.slice Ao109 t115.length co109)) (ds := []) #[false, false, false, false, false, false, false, false] (by kernel_rfl) rfl rfl ⟨(blk_cell BK102.out 0).trans rfl, (blk_cell BK102.out 1).trans rfl, (blk_cell BK102.out 2).trans rfl⟩ (fun hHeld => ?_); refine with_tabW codewrightref02_Add.tab10 codewrightref02_Add.bits10 (fun HT_ HW_ => ?_)
 generalize w122.drew = w123 at HO107 HO110 HO114 HO117 HO120 HO123 HO126 BK101 BK102 BK103 HB hHeld ⊢
 refine zp (i := 0) (N := some 50) HT_ ?_
 refine zp (i := 2) (N := some 52) HT_ ?_
 refine zp (i := 3) (N := some 53) HT_ ?_
 refine zp (i := 5) (N := some 55) HT_ ?_
 refine take_ (i := 1) (N := some 51) (v := ?_) (a' := ?_) #[true, true, true, true, false, true, false, false] rfl rfl (take_ofW HT_.out HW_.out (by kernel_rfl)) (fun _ _ _ h => h) (Or.inl ⟨by rfl, ?_⟩) hHeld ?_ ?_
 rotate_left
 · rintro w' ⟨s0, s1, s2⟩
   go_simp
   with_reducible rfl
 rotate_left
 · simp only [Act.put, List.setIfInBounds_toArray, List.set_cons_zero, List.set_cons_succ, i64_w, i32_w]
   rfl
 refine one_ (i := 4) (N := some 54) #[true, true, true, true, true, true, false, false] rfl rfl (one_of HT_.out (by kernel_rfl)) (by decide) (fun K hK => ?_)
 refine goes_ Try.func100 (by kernel_rfl) rfl #[.slice Ao121 t121.length co121, .slice Ao120 t118.length co120] (by rfl) rfl rfl (by (try simp only [List.map_toArray, List.map_cons, List.map_nil]); first | done | rfl | (simp only [List.length_drop, List.length_take]; rfl)) ?_
 with_reducible refine (codewrightref01_Sub.calls k _ _ t121 _ _ t118 t148 _ ?side1 ?side2 ?side3 ?side4 A92.out).mono ?_
 (case side1 => exact zC (Kd.R_reads' HO123.out).2.2)
 (case side2 => exact (Kd.R_reads' HO123.out).2.1)
 (case side3 => exact zC (Kd.R_reads' HO120.out).2.2)
 (case side4 => exact (Kd.R_reads' HO120.out).2.1)
 rintro e w124 ⟨v149, rfl, ho0, hb⟩
 refine ⟨_, rfl, ?_⟩
 replace ho0 := yn ho0 HO107
 replace ho0 := yn ho0 HO110
 replace ho0 := yn ho0 HO114
 replace ho0 := yn ho0 HO117
 replace ho0 := yn ho0 HO120
 replace ho0 := yn ho0 HO123
 replace ho0 := yn ho0 HO126
 have HO150 := yRl3 ho0 HB GE101 GE102 GE103
 replace HO107 := yRe HO107 ho0 hb
 replace HO110 := yRe HO110 ho0 hb
 replace HO114 := yRe HO114 ho0 hb
 replace HO117 := yRe HO117 ho0 hb
 replace HO120 := yRe HO120 ho0 hb
 replace HO123 := yRe HO123 ho0 hb
 replace HO126 := yRe HO126 ho0 hb
 replace BK101 := yK BK101 hb
 replace BK102 := yK BK102 hb
 replace BK103 := yK BK103 hb
 replace HB := yS3 HB GE101 GE102 GE103 hb
 (try clear hb)
 (try clear hb2)
 (try clear hk)
 (try clear hi)
 (try clear ho0)
 obtain ⟨Ao125, co125, eo125⟩ := Kd.R_slice HO150.out
 (first | subst eo125 | (injection eo125 with f1_ f2_ f3_; have f4_ := f1_.symm; have f5_ := f3_.symm; clear f1_ f2_ f3_; subst f4_; subst f5_))
 obtain ⟨Ao126, co126, eo126⟩ := Kd.R_slice HO126.out
 (first | subst eo126 | (injection eo126 with f1_ f2_ f3_; have f4_ := f1_.symm; have f5_ := f3_.symm; clear f1_ f2_ f3_; subst f4_; subst f5_))
 refine hK.out _ _ ⟨(blk_cell BK102.out 0).trans rfl, (blk_cell BK102.out 1).trans rfl, (blk_cell BK102.out 2).trans rfl⟩ (fun hHeld => ?_)
 clear hK K
 refine norm_ (a' := ?_) ?_ ?_
 rotate_left
 · show Act.put _ (some 54) _ = _
   simp only [Act.put, List.setIfInBounds_toArray, List.set_cons_zero, List.set_cons_succ, i64_w, i32_w]
   rfl
 refine one_ (i := 6) (N := some 56) #[true, true, true, true, true, true, true, false] rfl rfl (one_of HT_.out (by kernel_rfl)) (by decide) (fun K hK => ?_)
 refine goes_ Try.func90 (by kernel_rfl) rfl #[.bool t111, .slice Ao125 t148.length co125, .slice Ao126 t124.length co126] (by rfl) rfl rfl (by (try simp only [List.map_toArray, List.map_cons, List.map_nil]); first | done | rfl | (simp only [List.length_drop, List.length_take]; rfl)) ?_
 with_reducible refine (codewrightref02_Make.calls k t111 _ _ t148 _ _ t124 t151 t152 t155 _ ?side1 ?side2 ?side3 ?side4 A93.out).mono ?_
 (case side1 => exact zC (Kd.R_reads' HO150.out).2.2)
 (case side2 => exact (Kd.R_reads' HO150.out).2.1)
 (case side3 => exact zC (Kd.R_reads' HO126.out).2.2)
 (case side4 => exact (Kd.R_reads' HO126.out).2.1)
 rintro e w127 ⟨v153, v156, rfl, ho0, ho1, hb⟩
 refine ⟨_, rfl, ?_⟩
 replace ho0 := yn ho0 HO107
 replace ho0 := yn ho0 HO110
 replace ho0 := yn ho0 HO114
 replace ho0 := yn ho0 HO117
 replace ho0 := yn ho0 HO120
 replace ho0 := yn ho0 HO123
 replace ho0 := yn ho0 HO126
 replace ho0 := yn ho0 HO150
 have HO154 := yRl3 ho0 HB GE101 GE102 GE103
 replace ho1 := yn ho1 HO107
 replace ho1 := yn ho1 HO110
 replace ho1 := yn ho1 HO114
 replace ho1 := yn ho1 HO117
 replace ho1 := yn ho1 HO120
 replace ho1 := yn ho1 HO123
 replace ho1 := yn ho1 HO126
 replace ho1 := yn ho1 HO150
 have HO157 := yRl3 ho1 HB GE101 GE102 GE103
 replace HO107 := yRt HO107 hb ho0 ho1
 replace HO110 := yRt HO110 hb ho0 ho1
 replace HO114 := yRt HO114 hb ho0 ho1
 replace HO117 := yRt HO117 hb ho0 ho1
 replace HO120 := yRt HO120 hb ho0 ho1
 replace HO123 := yRt HO123 hb ho0 ho1
 replace HO126 := yRt HO126 hb ho0 ho1
 replace HO150 := yRt HO150 hb ho0 ho1
 replace BK101 := yK BK101 hb
 replace BK102 := yK BK102 hb
 replace BK103 := yK BK103 hb
 replace HB := yS3 HB GE101 GE102 GE103 hb
 (try clear hb)
 (try clear hb2)
 (try clear hk)
 (try clear hi)
 (try clear ho0)
 (try clear ho1)
 obtain ⟨Ao129, co129, eo129⟩ := Kd.R_slice HO154.out
 (first | subst eo129 | (injection eo129 with f1_ f2_ f3_; have f4_ := f1_.symm; have f5_ := f3_.symm; clear f1_ f2_ f3_; subst f4_; subst f5_))
 obtain ⟨Ao131, co131, eo131⟩ := Kd.R_slice HO157.out
 (first | subst eo131 | (injection eo131 with f1_ f2_ f3_; have f4_ := f1_.symm; have f5_ := f3_.symm; clear f1_ f2_ f3_; subst f4_; subst f5_))
 refine hK.out _ _ ⟨(blk_cell BK102.out 0).trans rfl, (blk_cell BK102.out 1).trans rfl, (blk_cell BK102.out 2).trans rfl⟩ (fun hHeld => ?_)
 clear hK K
 refine norm_ (a' := ?_) ?_ ?_
 rotate_left
 · show Act.put _ (some 56) _ = _
   simp only [Act.put, List.setIfInBounds_toArray, List.set_cons_zero, List.set_cons_succ, i64_w, i32_w]
   rfl
 refine one_ (i := 7) (N := none) #[true, true, true, true, true, true, true, true] rfl rfl (one_of HT_.out (by kernel_rfl)) (by decide) (fun K hK => ?_)
 have hs128 : w127.cell? ⟨gb103, 0, none⟩ = some (.bool false) := (blk_cell BK103.out 0).trans rfl
 have hfs128 := blk_frozen BK103.out 0
 have hns128_0 := NB101_103.out
 have hns128_1 := NB102_103.out
 have hms128_0 := NB103_101.out
 have hms128_1 := NB103_102.out
 have hs130 : w127.cell? ⟨gb103, 1, none⟩ = some (.slice none 0 0) := (blk_cell BK103.out 1).trans rfl
 have hfs130 := blk_frozen BK103.out 1
 have hns130_0 := NB101_103.out
 have hns130_1 := NB102_103.out
 have hms130_0 := NB103_101.out
 have hms130_1 := NB103_102.out
 have hs132 : w127.cell? ⟨gb103, 2, none⟩ = some (.slice none 0 0) := (blk_cell BK103.out 2).trans rfl
 have hfs132 := blk_frozen BK103.out 2
 have hns132_0 := NB101_103.out
 have hns132_1 := NB102_103.out
 have hms132_0 := NB103_101.out
 have hms132_1 := NB103_102.out
 refine skip_ (w1 := ?_) (by rfl) rfl ?_ ?_
 rotate_left
 · go_simp
   rfl
 refine hK.out _ _ ⟨((cell_far (p := ⟨gb103, _, none⟩) NB102_103.out _).trans (((cell_far (p := ⟨gb103, _, none⟩) NB102_103.out _).trans (((cell_far (p := ⟨gb103, _, none⟩) NB102_103.out _).trans (hHeld.1)))))), ((cell_far (p := ⟨gb103, _, none⟩) NB102_103.out _).trans (((cell_far (p := ⟨gb103, _, none⟩) NB102_103.out _).trans (((cell_far (p := ⟨gb103, _, none⟩) NB102_103.out _).trans (hHeld.2.1)))))), ((cell_far (p := ⟨gb103, _, none⟩) NB102_103.out _).trans (((cell_far (p := ⟨gb103, _, none⟩) NB102_103.out _).trans (((cell_far (p := ⟨gb103, _, none⟩) NB102_103.out _).trans (hHeld.2.2))))))⟩ (fun hHeld => ?_)
 clear hK K
 refine done_ (done_of HT_.out (by kernel_rfl)) ?_
 try go_wp2
 refine bodyPost_ret (results_cell_row rfl _ _ gb103 60 #[.bool t151, .slice Ao129 t152.length co129, .slice Ao131 t155.length co131] (0, 0) _ rfl (by (with_reducible repeat (first | refine blk_drewN ?_ _ | refine blk_drew ?_ | refine blk_alloc ?_ _)); refine blk_put (cs := #[.bool t151, .slice Ao129 t152.length co129, .slice none 0 0]) ?_ 2 _ rfl; (with_reducible repeat (first | refine blk_drewN ?_ _ | refine blk_drew ?_ | refine blk_alloc ?_ _)); refine blk_put (cs := #[.bool t151, .slice none 0 0, .slice none 0 0]) ?_ 1 _ rfl; (with_reducible repeat (first | refine blk_drewN ?_ _ | refine blk_drew ?_ | refine blk_alloc ?_ _)); refine blk_put (cs := #[.bool false, .slice none 0 0, .slice none 0 0]) ?_ 0 _ rfl; (with_reducible repeat (first | refine blk_drewN ?_ _ | refine blk_drew ?_ | refine blk_alloc ?_ _)); exact BK103.out) Try.underlying60 rfl (by kernel_rfl)) rfl ?_
 exact ⟨_, _, zE, by (with_reducible repeat (first | apply Kd.R_alloc | apply Kd.R_drewN | apply Kd.R_drew)); exact yf HO154.out BK103.out (fun _ hk => hk.1.1.1.1.1.1.1.1.1), by (with_reducible repeat (first | apply Kd.R_alloc | apply Kd.R_drewN | apply Kd.R_drew)); exact yf HO157.out BK103.out (fun _ hk => hk.1.1.1.1.1.1.1.1.1), zB3 HB.out GE101.out GE102.out GE103.out⟩
set_option maxHeartbeats 8000000 in
set_option maxRecDepth 100000 in
theorem codewrightref02_Neg.calls (k : Nat) (a0_0 : Bool) (A0_1 : Option Addr) (c0_1 : Nat) (l0_1 : List Int) (A0_2 : Option Addr) (c0_2 : Nat) (l0_2 : List Int) (r1 : Bool) (r2 : List Int) (r3 : List Int) (w : World) (hr0_1 : Kd.C (Kd.int .u32) w A0_1 l0_1.length l0_1) (hc0_1 : l0_1.length ≤ c0_1) (hr0_2 : Kd.C (Kd.int .u32) w A0_2 l0_2.length l0_2) (hc0_2 : l0_2.length ≤ c0_2) (h : codewrightref02_Neg.f k a0_0 l0_1 l0_2 = some (r1, r2, r3)) :
    Calls Try.prog 96 #[.agg #[.bool a0_0, .slice A0_1 l0_1.length c0_1, .slice A0_2 l0_2.length c0_2]] w fun e w' => ∃ v1_ v2_ : Value, e = .returned (.agg #[.bool r1, v1_, v2_]) ∧ Kd.R (Kd.int .u32) 97 w' w.heap.size (fun k_ => some k_ ≠ (v2_ : Value).ownBlock) v1_ r2 ∧ Kd.R (Kd.int .u32) 97 w' w.heap.size (fun k_ => some k_ ≠ (v1_ : Value).ownBlock) v2_ r3 ∧ Below w.heap.size w w' := by
 have hu60 := Try.underlying60
 have HR0_1 := Aside0.mk hr0_1
 have HC0_1 := Aside0.mk hc0_1
 clear hr0_1 hc0_1
 have HR0_2 := Aside0.mk hr0_2
 have HC0_2 := Aside0.mk hc0_2
 clear hr0_2 hc0_2
 have HB := Aside0.mk (Below.refl w.heap.size w)
 have H : ((codewrightref02_Trim.f k a0_0 l0_1 l0_2).bind fun bt103 => ((codewrightref02_Make.f k (!bt103.1) bt103.2.1 bt103.2.2).bind fun bt110 => (some (bt110.1, bt110.2.1, bt110.2.2)))) = some (r1, r2, r3) := h
 clear h
 replace H := zb H
 obtain ⟨⟨t103, t104, t107⟩, A2, H⟩ := H
 dsimp only at H
 replace H := zb H
 obtain ⟨⟨t110, t111, t114⟩, A3, H⟩ := H
 dsimp only at H
 simp only [Option.some.injEq, Prod.mk.injEq] at H
 obtain ⟨rfl, rfl, rfl⟩ := H
 go_enter Try.func96, Try.ntmps96
 go_wp2_with (first | ((with_reducible refine gate_dst (N := 1) rfl ?_); refine box_event ?hg (N := 1) ?hd (cs := #[.bool a0_0, .slice A0_1 l0_1.length c0_1, .slice A0_2 l0_2.length c0_2]) (t := 60) ?hr ?_; (case hd => rfl); (case hg => rfl); (case hr => first | (go_simp; done) | (go_simp; rfl)); intro gb101 hg w4 hbox hb; have BK101 := Aside0.mk (hbox); have GW101 := yg hg HB; have GE101 := yg hg HB; replace HB := yS HB hb; clear hb hbox hg) | ((with_reducible refine gate_dst (N := 2) rfl ?_); refine box_event ?hg (N := 2) ?hd (cs := #[.bool false, .slice none 0 0, .slice none 0 0]) (t := 60) ?hr ?_; (case hd => rfl); (case hg => rfl); (case hr => first | (go_simp; done) | (go_simp; rfl)); intro gb102 hg w5 hbox hb; have BK102 := Aside0.mk (hbox); have GW102 := yg1 hg HB GE101; have GE102 := yg1 hg HB GE101; replace HB := yS1 HB GE101 hb; have NB101_102 := ynl hg BK101; have NB102_101 := yng hg BK101; replace BK101 := yK BK101 hb; clear hb hbox hg; have hnb6 := NB101_102.out; have hnc6 := NB102_101.out; have hcz7_0 : w5.cell? ⟨gb101, 0, none⟩ = some (.bool a0_0) := (blk_cell BK101.out 0).trans rfl; have hcz7_1 : w5.cell? ⟨gb101, 1, none⟩ = some (.slice A0_1 l0_1.length c0_1) := (blk_cell BK101.out 1).trans rfl; have hcz7_2 : w5.cell? ⟨gb101, 2, none⟩ = some (.slice A0_2 l0_2.length c0_2) := (blk_cell BK101.out 2).trans rfl; have hfz7_0 := blk_frozen BK101.out 0; have hfz7_1 := blk_frozen BK101.out 1; have hfz7_2 := blk_frozen BK101.out 2) | ((with_reducible refine gate_callee (f := 99) rfl ?_); refine zG (some 4) Try.func99 #[.agg #[.bool a0_0, .slice A0_1 l0_1.length c0_1, .slice A0_2 l0_2.length c0_2]] ?_; (with_reducible refine (codewrightref02_Trim.calls k a0_0 _ _ l0_1 _ _ l0_2 t103 t104 t107 _ ?side1 ?side2 ?side3 ?side4 A2.out).mono ?_); (case side1 => exact zC (Kd.C_below HR0_1.out HB.out)); (case side2 => exact HC0_1.out); (case side3 => exact zC (Kd.C_below HR0_2.out HB.out)); (case side4 => exact HC0_2.out); rintro e w8 ⟨v105, v108, rfl, ho0, ho1, hb⟩; refine ⟨_, rfl, ?_⟩; have HO106 := yRl2 ho0 HB GE101 GE102; have HO109 := yRl2 ho1 HB GE101 GE102; replace BK101 := yK BK101 hb; replace BK102 := yK BK102 hb; replace HB := yS2 HB GE101 GE102 hb; (try clear hb ho0); (try clear ho1); have hcz9_0 : w8.cell? ⟨gb101, 0, none⟩ = some (.bool a0_0) := (blk_cell BK101.out 0).trans rfl; have hcz9_1 : w8.cell? ⟨gb101, 1, none⟩ = some (.slice A0_1 l0_1.length c0_1) := (blk_cell BK101.out 1).trans rfl; have hcz9_2 : w8.cell? ⟨gb101, 2, none⟩ = some (.slice A0_2 l0_2.length c0_2) := (blk_cell BK101.out 2).trans rfl; have hfz9_0 := blk_frozen BK101.out 0; have hfz9_1 := blk_frozen BK101.out 1; have hfz9_2 := blk_frozen BK101.out 2; obtain ⟨Ao10, co10, rfl⟩ := Kd.R_slice HO106.out; obtain ⟨Ao11, co11, rfl⟩ := Kd.R_slice HO109.out) | ((with_reducible refine gate_callee (f := 90) rfl ?_); refine zG (some 12) Try.func90 #[.bool (!t103), .slice Ao10 t104.length co10, .slice Ao11 t107.length co11] ?_; (with_reducible refine (codewrightref02_Make.calls k (!t103) _ _ t104 _ _ t107 t110 t111 t114 _ ?side1 ?side2 ?side3 ?side4 A3.out).mono ?_); (case side1 => refine (Kd.R_reads' (e := 97) (base := w.heap.size) (ok := fun k_ => some k_ ≠ (.slice Ao11 t107.length co11 : Value).ownBlock) (n := t104.length) (c := co10) ?_).2.2; exact (by (with_reducible repeat (first | apply Kd.R_alloc | apply Kd.R_drewN | apply Kd.R_drew)); exact (yf HO106.out BK101.out (fun _ h_ => h_.1)))); (case side2 => exact (Kd.R_reads' HO106.out).2.1); (case side3 => refine (Kd.R_reads' (e := 97) (base := w.heap.size) (ok := fun k_ => some k_ ≠ (.slice Ao10 t104.length co10 : Value).ownBlock) (n := t107.length) (c := co11) ?_).2.2; exact (by (with_reducible repeat (first | apply Kd.R_alloc | apply Kd.R_drewN | apply Kd.R_drew)); exact (yf HO109.out BK101.out (fun _ h_ => h_.1)))); (case side4 => exact (Kd.R_reads' HO109.out).2.1); rintro e w12 ⟨v112, v115, rfl, ho0, ho1, hb⟩; refine ⟨_, rfl, ?_⟩; have HO113 := Aside0.mk (Kd.R_lower (Kd.R_new' (Kd.R_new' ho0 (Kd.R_lt (by (with_reducible repeat (first | apply Kd.R_alloc | apply Kd.R_drewN | apply Kd.R_drew)); exact (yf HO106.out BK101.out (fun _ h_ => h_.1))))) (Kd.R_lt (by (with_reducible repeat (first | apply Kd.R_alloc | apply Kd.R_drewN | apply Kd.R_drew)); exact (yf HO109.out BK101.out (fun _ h_ => h_.1))))) (below_size (zB2 HB.out GE101.out GE102.out))); have HO116 := Aside0.mk (Kd.R_lower (Kd.R_new' (Kd.R_new' ho1 (Kd.R_lt (by (with_reducible repeat (first | apply Kd.R_alloc | apply Kd.R_drewN | apply Kd.R_drew)); exact (yf HO106.out BK101.out (fun _ h_ => h_.1))))) (Kd.R_lt (by (with_reducible repeat (first | apply Kd.R_alloc | apply Kd.R_drewN | apply Kd.R_drew)); exact (yf HO109.out BK101.out (fun _ h_ => h_.1))))) (below_size (zB2 HB.out GE101.out GE102.out))); replace HO106 := Aside0.mk (Kd.R_mono (Kd.R_told (Kd.R_told (Kd.R_old (by (with_reducible repeat (first | apply Kd.R_alloc | apply Kd.R_drewN | apply Kd.R_drew)); exact (yf HO106.out BK101.out (fun _ h_ => h_.1))) hb) (Kd.R_base ho0)) (Kd.R_base ho1)) (fun _ h_ => h_.1)); replace HO109 := Aside0.mk (Kd.R_mono (Kd.R_told (Kd.R_told (Kd.R_old (by (with_reducible repeat (first | apply Kd.R_alloc | apply Kd.R_drewN | apply Kd.R_drew)); exact (yf HO109.out BK101.out (fun _ h_ => h_.1))) hb) (Kd.R_base ho0)) (Kd.R_base ho1)) (fun _ h_ => h_.1)); replace BK101 := Aside0.mk (blk_below (g := gb101) (o := .cells #[.bool t103, .slice Ao10 t104.length co10, .slice Ao11 t107.length co11] 60 (0, 0)) (by (with_reducible repeat (first | refine blk_drewN ?_ _ | refine blk_drew ?_ | refine blk_alloc ?_ _)); refine blk_put (cs := #[.bool t103, .slice Ao10 t104.length co10, .slice A0_2 l0_2.length c0_2]) ?_ 2 _ rfl; (with_reducible repeat (first | refine blk_drewN ?_ _ | refine blk_drew ?_ | refine blk_alloc ?_ _)); refine blk_put (cs := #[.bool t103, .slice A0_1 l0_1.length c0_1, .slice A0_2 l0_2.length c0_2]) ?_ 1 _ rfl; (with_reducible repeat (first | refine blk_drewN ?_ _ | refine blk_drew ?_ | refine blk_alloc ?_ _)); refine blk_put (cs := #[.bool a0_0, .slice A0_1 l0_1.length c0_1, .slice A0_2 l0_2.length c0_2]) ?_ 0 _ rfl; (with_reducible repeat (first | refine blk_drewN ?_ _ | refine blk_drew ?_ | refine blk_alloc ?_ _)); exact BK101.out) hb); replace BK102 := Aside0.mk (blk_below (g := gb102) (o := .cells #[.bool false, .slice none 0 0, .slice none 0 0] 60 (0, 0)) (by (with_reducible repeat (first | refine blk_drewN ?_ _ | refine blk_drew ?_ | refine blk_alloc ?_ _)); refine blk_far ?_ NB102_101.out _; (with_reducible repeat (first | refine blk_drewN ?_ _ | refine blk_drew ?_ | refine blk_alloc ?_ _)); refine blk_far ?_ NB102_101.out _; (with_reducible repeat (first | refine blk_drewN ?_ _ | refine blk_drew ?_ | refine blk_alloc ?_ _)); refine blk_far ?_ NB102_101.out _; (with_reducible repeat (first | refine blk_drewN ?_ _ | refine blk_drew ?_ | refine blk_alloc ?_ _)); exact BK102.out) hb); replace HB := yS2 HB GE101 GE102 hb; (try clear hb ho0); (try clear ho1); have hcz13_0 : w12.cell? ⟨gb102, 0, none⟩ = some (.bool false) := (blk_cell BK102.out 0).trans rfl; have hcz13_1 : w12.cell? ⟨gb102, 1, none⟩ = some (.slice none 0 0) := (blk_cell BK102.out 1).trans rfl; have hcz13_2 : w12.cell? ⟨gb102, 2, none⟩ = some (.slice none 0 0) := (blk_cell BK102.out 2).trans rfl; have hfz13_0 := blk_frozen BK102.out 0; have hfz13_1 := blk_frozen BK102.out 1; have hfz13_2 := blk_frozen BK102.out 2; obtain ⟨Ao14, co14, rfl⟩ := Kd.R_slice HO113.out; obtain ⟨Ao15, co15, rfl⟩ := Kd.R_slice HO116.out))
 refine bodyPost_ret (results_cell_row rfl _ _ gb102 60 #[.bool t110, .slice Ao14 t111.length co14, .slice Ao15 t114.length co15] (0, 0) _ rfl (by (with_reducible repeat (first | refine blk_drewN ?_ _ | refine blk_drew ?_ | refine blk_alloc ?_ _)); refine blk_put (cs := #[.bool t110, .slice Ao14 t111.length co14, .slice none 0 0]) ?_ 2 _ rfl; (with_reducible repeat (first | refine blk_drewN ?_ _ | refine blk_drew ?_ | refine blk_alloc ?_ _)); refine blk_put (cs := #[.bool t110, .slice none 0 0, .slice none 0 0]) ?_ 1 _ rfl; (with_reducible repeat (first | refine blk_drewN ?_ _ | refine blk_drew ?_ | refine blk_alloc ?_ _)); refine blk_put (cs := #[.bool false, .slice none 0 0, .slice none 0 0]) ?_ 0 _ rfl; (with_reducible repeat (first | refine blk_drewN ?_ _ | refine blk_drew ?_ | refine blk_alloc ?_ _)); exact BK102.out) Try.underlying60 rfl (by kernel_rfl)) rfl ?_
 exact ⟨_, _, zE, by (with_reducible repeat (first | apply Kd.R_alloc | apply Kd.R_drewN | apply Kd.R_drew)); exact yf HO113.out BK102.out (fun _ hk => hk.1.1.1), by (with_reducible repeat (first | apply Kd.R_alloc | apply Kd.R_drewN | apply Kd.R_drew)); exact yf HO116.out BK102.out (fun _ hk => hk.1.1.1), zB2 HB.out GE101.out GE102.out⟩
set_option maxHeartbeats 8000000 in
set_option maxRecDepth 100000 in
theorem codewrightref02_Sub.calls (k : Nat) (a0_0 : Bool) (A0_1 : Option Addr) (c0_1 : Nat) (l0_1 : List Int) (A0_2 : Option Addr) (c0_2 : Nat) (l0_2 : List Int) (a1_0 : Bool) (A1_1 : Option Addr) (c1_1 : Nat) (l1_1 : List Int) (A1_2 : Option Addr) (c1_2 : Nat) (l1_2 : List Int) (r1 : Bool) (r2 : List Int) (r3 : List Int) (w : World) (hr0_1 : Kd.C (Kd.int .u32) w A0_1 l0_1.length l0_1) (hc0_1 : l0_1.length ≤ c0_1) (hr0_2 : Kd.C (Kd.int .u32) w A0_2 l0_2.length l0_2) (hc0_2 : l0_2.length ≤ c0_2) (hr1_1 : Kd.C (Kd.int .u32) w A1_1 l1_1.length l1_1) (hc1_1 : l1_1.length ≤ c1_1) (hr1_2 : Kd.C (Kd.int .u32) w A1_2 l1_2.length l1_2) (hc1_2 : l1_2.length ≤ c1_2) (h : codewrightref02_Sub.f k a0_0 l0_1 l0_2 a1_0 l1_1 l1_2 = some (r1, r2, r3)) :
    Calls Try.prog 56 #[.agg #[.bool a0_0, .slice A0_1 l0_1.length c0_1, .slice A0_2 l0_2.length c0_2], .agg #[.bool a1_0, .slice A1_1 l1_1.length c1_1, .slice A1_2 l1_2.length c1_2]] w fun e w' => ∃ v1_ v2_ : Value, e = .returned (.agg #[.bool r1, v1_, v2_]) ∧ Kd.R (Kd.int .u32) 97 w' w.heap.size (fun k_ => some k_ ≠ (v2_ : Value).ownBlock) v1_ r2 ∧ Kd.R (Kd.int .u32) 97 w' w.heap.size (fun k_ => some k_ ≠ (v1_ : Value).ownBlock) v2_ r3 ∧ Below w.heap.size w w' := by
 have hu60 := Try.underlying60
 have HR0_1 := Aside0.mk hr0_1
 have HC0_1 := Aside0.mk hc0_1
 clear hr0_1 hc0_1
 have HR0_2 := Aside0.mk hr0_2
 have HC0_2 := Aside0.mk hc0_2
 clear hr0_2 hc0_2
 have HR1_1 := Aside0.mk hr1_1
 have HC1_1 := Aside0.mk hc1_1
 clear hr1_1 hc1_1
 have HR1_2 := Aside0.mk hr1_2
 have HC1_2 := Aside0.mk hc1_2
 clear hr1_2 hc1_2
 have HB := Aside0.mk (Below.refl w.heap.size w)
 have H : ((codewrightref02_Neg.f k a1_0 l1_1 l1_2).bind fun bt104 => ((codewrightref02_Add.f k a0_0 l0_1 l0_2 bt104.1 bt104.2.1 bt104.2.2).bind fun bt111 => (some (bt111.1, bt111.2.1, bt111.2.2)))) = some (r1, r2, r3) := h
 clear h
 replace H := zb H
 obtain ⟨⟨t104, t105, t108⟩, A3, H⟩ := H
 dsimp only at H
 replace H := zb H
 obtain ⟨⟨t111, t112, t115⟩, A4, H⟩ := H
 dsimp only at H
 simp only [Option.some.injEq, Prod.mk.injEq] at H
 obtain ⟨rfl, rfl, rfl⟩ := H
 go_enter Try.func56, Try.ntmps56
 try go_wp2_with (first | ((with_reducible refine gate_dst (N := 2) rfl ?_); refine box_event ?hg (N := 2) ?hd (cs := #[.bool a0_0, .slice A0_1 l0_1.length c0_1, .slice A0_2 l0_2.length c0_2]) (t := 60) ?hr ?_; (case hd => rfl); (case hg => rfl); (case hr => first | (go_simp; done) | (go_simp; rfl)); intro gb101 hg w5 hbox hb; have BK101 := Aside0.mk (hbox); have GW101 := yg hg HB; have GE101 := yg hg HB; replace HB := yS HB hb; clear hb hbox hg) | ((with_reducible refine gate_dst (N := 3) rfl ?_); refine box_event ?hg (N := 3) ?hd (cs := #[.bool a1_0, .slice A1_1 l1_1.length c1_1, .slice A1_2 l1_2.length c1_2]) (t := 60) ?hr ?_; (case hd => rfl); (case hg => rfl); (case hr => first | (go_simp; done) | (go_simp; rfl)); intro gb102 hg w6 hbox hb; have BK102 := Aside0.mk (hbox); have GW102 := yg1 hg HB GE101; have GE102 := yg1 hg HB GE101; replace HB := yS1 HB GE101 hb; have NB101_102 := ynl hg BK101; have NB102_101 := yng hg BK101; replace BK101 := yK BK101 hb; clear hb hbox hg) | ((with_reducible refine gate_dst (N := 4) rfl ?_); refine box_event ?hg (N := 4) ?hd (cs := #[.bool false, .slice none 0 0, .slice none 0 0]) (t := 60) ?hr ?_; (case hd => rfl); (case hg => rfl); (case hr => first | (go_simp; done) | (go_simp; rfl)); intro gb103 hg w7 hbox hb; have BK103 := Aside0.mk (hbox); have GW103 := yg2 hg HB GE101 GE102; have GE103 := yg2 hg HB GE101 GE102; replace HB := yS2 HB GE101 GE102 hb; have NB101_103 := ynl hg BK101; have NB103_101 := yng hg BK101; replace BK101 := yK BK101 hb; have NB102_103 := ynl hg BK102; have NB103_102 := yng hg BK102; replace BK102 := yK BK102 hb; clear hb hbox hg))
 replace BK101 := Aside0.mk (blk_drew BK101.out)
 replace BK102 := Aside0.mk (blk_drew BK102.out)
 replace BK103 := Aside0.mk (blk_drew BK103.out)
 replace HB := Aside0.mk (below_drew1 HB.out)
 refine start_ (n := 5) (S := fun w' => w'.cell? ⟨gb101, 0, none⟩ = some (.bool a0_0) ∧ w'.cell? ⟨gb101, 1, none⟩ = some (.slice A0_1 l0_1.length c0_1) ∧ w'.cell? ⟨gb101, 2, none⟩ = some (.slice A0_2 l0_2.length c0_2) ∧ w'.cell? ⟨gb102, 0, none⟩ = some (.bool a1_0) ∧ w'.cell? ⟨gb102, 1, none⟩ = some (.slice A1_1 l1_1.length c1_1) ∧ w'.cell? ⟨gb102, 2, none⟩ = some (.slice A1_2 l1_2.length c1_2)) (ds := []) #[false, false, false, false, false] (by kernel_rfl) rfl rfl ⟨(blk_cell BK101.out 0).trans rfl, (blk_cell BK101.out 1).trans rfl, (blk_cell BK101.out 2).trans rfl, (blk_cell BK102.out 0).trans rfl, (blk_cell BK102.out 1).trans rfl, (blk_cell BK102.out 2).trans rfl⟩ (fun hHeld => ?_)
 generalize w7.drew = w8 at BK101 BK102 BK103 HB hHeld ⊢
 refine take_ (i := 0) (N := some 5) (v := ?_) (a' := ?_) #[true, false, false, false, false] rfl rfl (by kernel_rfl) (fun _ _ _ h => h) (Or.inl ⟨by rfl, ?_⟩) hHeld ?_ ?_
 rotate_left
 · rintro w' ⟨s0, s1, s2, s3, s4, s5⟩
   go_simp
   with_reducible rfl
 rotate_left
 · simp only [Act.put, List.setIfInBounds_toArray, List.set_cons_zero, List.set_cons_succ, i64_w, i32_w]
   rfl
 refine take_ (i := 1) (N := some 6) (v := ?_) (a' := ?_) #[true, true, false, false, false] rfl rfl (by kernel_rfl) (fun _ _ _ h => h) (Or.inl ⟨by rfl, ?_⟩) hHeld ?_ ?_
 rotate_left
 · rintro w' ⟨s0, s1, s2, s3, s4, s5⟩
   go_simp
   with_reducible rfl
 rotate_left
 · simp only [Act.put, List.setIfInBounds_toArray, List.set_cons_zero, List.set_cons_succ, i64_w, i32_w]
   rfl
 refine one_ (i := 2) (N := some 7) #[true, true, true, false, false] rfl rfl (by kernel_rfl) (by decide) (fun K hK => ?_)
 refine goes_ Try.func96 (by kernel_rfl) rfl #[.agg #[.bool a1_0, .slice A1_1 l1_1.length c1_1, .slice A1_2 l1_2.length c1_2]] (by rfl) rfl rfl (by (try simp only [List.map_toArray, List.map_cons, List.map_nil]); first | done | rfl | (simp only [List.length_drop, List.length_take]; rfl)) ?_
 with_reducible refine (codewrightref02_Neg.calls k a1_0 _ _ l1_1 _ _ l1_2 t104 t105 t108 _ ?side1 ?side2 ?side3 ?side4 A3.out).mono ?_
 (case side1 => exact zC (Kd.C_below HR1_1.out HB.out))
 (case side2 => exact HC1_1.out)
 (case side3 => exact zC (Kd.C_below HR1_2.out HB.out))
 (case side4 => exact HC1_2.out)
 rintro e w9 ⟨v106, v109, rfl, ho0, ho1, hb⟩
 refine ⟨_, rfl, ?_⟩
 have HO107 := yRl3 ho0 HB GE101 GE102 GE103
 have HO110 := yRl3 ho1 HB GE101 GE102 GE103
 replace BK101 := yK BK101 hb
 replace BK102 := yK BK102 hb
 replace BK103 := yK BK103 hb
 replace HB := yS3 HB GE101 GE102 GE103 hb
 (try clear hb)
 (try clear hb2)
 (try clear hk)
 (try clear hi)
 (try clear ho0)
 (try clear ho1)
 obtain ⟨Ao10, co10, eo10⟩ := Kd.R_slice HO107.out
 (first | subst eo10 | (injection eo10 with f1_ f2_ f3_; have f4_ := f1_.symm; have f5_ := f3_.symm; clear f1_ f2_ f3_; subst f4_; subst f5_))
 obtain ⟨Ao11, co11, eo11⟩ := Kd.R_slice HO110.out
 (first | subst eo11 | (injection eo11 with f1_ f2_ f3_; have f4_ := f1_.symm; have f5_ := f3_.symm; clear f1_ f2_ f3_; subst f4_; subst f5_))
 refine hK.out _ _ ⟨(blk_cell BK101.out 0).trans rfl, (blk_cell BK101.out 1).trans rfl, (blk_cell BK101.out 2).trans rfl, (blk_cell BK102.out 0).trans rfl, (blk_cell BK102.out 1).trans rfl, (blk_cell BK102.out 2).trans rfl⟩ (fun hHeld => ?_)
 clear hK K
 refine norm_ (a' := ?_) ?_ ?_
 rotate_left
 · show Act.put _ (some 7) _ = _
   simp only [Act.put, List.setIfInBounds_toArray, List.set_cons_zero, List.set_cons_succ, i64_w, i32_w]
   rfl
 refine one_ (i := 3) (N := some 8) #[true, true, true, true, false] rfl rfl (by kernel_rfl) (by decide) (fun K hK => ?_)
 refine goes_ Try.func50 (by kernel_rfl) rfl #[.agg #[.bool a0_0, .slice A0_1 l0_1.length c0_1, .slice A0_2 l0_2.length c0_2], .agg #[.bool t104, .slice Ao10 t105.length co10, .slice Ao11 t108.length co11]] (by rfl) rfl rfl (by (try simp only [List.map_toArray, List.map_cons, List.map_nil]); first | done | rfl | (simp only [List.length_drop, List.length_take]; rfl)) ?_
 with_reducible refine (codewrightref02_Add.calls k a0_0 _ _ l0_1 _ _ l0_2 t104 _ _ t105 _ _ t108 t111 t112 t115 _ ?side1 ?side2 ?side3 ?side4 ?side5 ?side6 ?side7 ?side8 A4.out).mono ?_
 (case side1 => exact zC (Kd.C_below HR0_1.out HB.out))
 (case side2 => exact HC0_1.out)
 (case side3 => exact zC (Kd.C_below HR0_2.out HB.out))
 (case side4 => exact HC0_2.out)
 (case side5 => exact zC (Kd.R_reads' HO107.out).2.2)
 (case side6 => exact (Kd.R_reads' HO107.out).2.1)
 (case side7 => exact zC (Kd.R_reads' HO110.out).2.2)
 (case side8 => exact (Kd.R_reads' HO110.out).2.1)
 rintro e w12 ⟨v113, v116, rfl, ho0, ho1, hb⟩
 refine ⟨_, rfl, ?_⟩
 replace ho0 := yn ho0 HO107
 replace ho0 := yn ho0 HO110
 have HO114 := yRl3 ho0 HB GE101 GE102 GE103
 replace ho1 := yn ho1 HO107
 replace ho1 := yn ho1 HO110
 have HO117 := yRl3 ho1 HB GE101 GE102 GE103
 replace HO107 := yRt HO107 hb ho0 ho1
 replace HO110 := yRt HO110 hb ho0 ho1
 replace BK101 := yK BK101 hb
 replace BK102 := yK BK102 hb
 replace BK103 := yK BK103 hb
 replace HB := yS3 HB GE101 GE102 GE103 hb
 (try clear hb)
 (try clear hb2)
 (try clear hk)
 (try clear hi)
 (try clear ho0)
 (try clear ho1)
 obtain ⟨Ao14, co14, eo14⟩ := Kd.R_slice HO114.out
 (first | subst eo14 | (injection eo14 with f1_ f2_ f3_; have f4_ := f1_.symm; have f5_ := f3_.symm; clear f1_ f2_ f3_; subst f4_; subst f5_))
 obtain ⟨Ao16, co16, eo16⟩ := Kd.R_slice HO117.out
 (first | subst eo16 | (injection eo16 with f1_ f2_ f3_; have f4_ := f1_.symm; have f5_ := f3_.symm; clear f1_ f2_ f3_; subst f4_; subst f5_))
 refine hK.out _ _ ⟨(blk_cell BK101.out 0).trans rfl, (blk_cell BK101.out 1).trans rfl, (blk_cell BK101.out 2).trans rfl, (blk_cell BK102.out 0).trans rfl, (blk_cell BK102.out 1).trans rfl, (blk_cell BK102.out 2).trans rfl⟩ (fun hHeld => ?_)
 clear hK K
 refine norm_ (a' := ?_) ?_ ?_
 rotate_left
 · show Act.put _ (some 8) _ = _
   simp only [Act.put, List.setIfInBounds_toArray, List.set_cons_zero, List.set_cons_succ, i64_w, i32_w]
   rfl
 refine one_ (i := 4) (N := none) #[true, true, true, true, true] rfl rfl (by kernel_rfl) (by decide) (fun K hK => ?_)
 have hs13 : w12.cell? ⟨gb103, 0, none⟩ = some (.bool false) := (blk_cell BK103.out 0).trans rfl
 have hfs13 := blk_frozen BK103.out 0
 have hns13_0 := NB101_103.out
 have hns13_1 := NB102_103.out
 have hms13_0 := NB103_101.out
 have hms13_1 := NB103_102.out
 have hs15 : w12.cell? ⟨gb103, 1, none⟩ = some (.slice none 0 0) := (blk_cell BK103.out 1).trans rfl
 have hfs15 := blk_frozen BK103.out 1
 have hns15_0 := NB101_103.out
 have hns15_1 := NB102_103.out
 have hms15_0 := NB103_101.out
 have hms15_1 := NB103_102.out
 have hs17 : w12.cell? ⟨gb103, 2, none⟩ = some (.slice none 0 0) := (blk_cell BK103.out 2).trans rfl
 have hfs17 := blk_frozen BK103.out 2
 have hns17_0 := NB101_103.out
 have hns17_1 := NB102_103.out
 have hms17_0 := NB103_101.out
 have hms17_1 := NB103_102.out
 refine skip_ (w1 := ?_) (by rfl) rfl ?_ ?_
 rotate_left
 · go_simp
   rfl
 refine hK.out _ _ ⟨((cell_far (p := ⟨gb103, _, none⟩) NB101_103.out _).trans (((cell_far (p := ⟨gb103, _, none⟩) NB101_103.out _).trans (((cell_far (p := ⟨gb103, _, none⟩) NB101_103.out _).trans (hHeld.1)))))), ((cell_far (p := ⟨gb103, _, none⟩) NB101_103.out _).trans (((cell_far (p := ⟨gb103, _, none⟩) NB101_103.out _).trans (((cell_far (p := ⟨gb103, _, none⟩) NB101_103.out _).trans (hHeld.2.1)))))), ((cell_far (p := ⟨gb103, _, none⟩) NB101_103.out _).trans (((cell_far (p := ⟨gb103, _, none⟩) NB101_103.out _).trans (((cell_far (p := ⟨gb103, _, none⟩) NB101_103.out _).trans (hHeld.2.2.1)))))), ((cell_far (p := ⟨gb103, _, none⟩) NB102_103.out _).trans (((cell_far (p := ⟨gb103, _, none⟩) NB102_103.out _).trans (((cell_far (p := ⟨gb103, _, none⟩) NB102_103.out _).trans (hHeld.2.2.2.1)))))), ((cell_far (p := ⟨gb103, _, none⟩) NB102_103.out _).trans (((cell_far (p := ⟨gb103, _, none⟩) NB102_103.out _).trans (((cell_far (p := ⟨gb103, _, none⟩) NB102_103.out _).trans (hHeld.2.2.2.2.1)))))), ((cell_far (p := ⟨gb103, _, none⟩) NB102_103.out _).trans (((cell_far (p := ⟨gb103, _, none⟩) NB102_103.out _).trans (((cell_far (p := ⟨gb103, _, none⟩) NB102_103.out _).trans (hHeld.2.2.2.2.2))))))⟩ (fun hHeld => ?_)
 clear hK K
 refine done_ (by kernel_rfl) ?_
 try go_wp2
 refine bodyPost_ret (results_cell_row rfl _ _ gb103 60 #[.bool t111, .slice Ao14 t112.length co14, .slice Ao16 t115.length co16] (0, 0) _ rfl (by (with_reducible repeat (first | refine blk_drewN ?_ _ | refine blk_drew ?_ | refine blk_alloc ?_ _)); refine blk_put (cs := #[.bool t111, .slice Ao14 t112.length co14, .slice none 0 0]) ?_ 2 _ rfl; (with_reducible repeat (first | refine blk_drewN ?_ _ | refine blk_drew ?_ | refine blk_alloc ?_ _)); refine blk_put (cs := #[.bool t111, .slice none 0 0, .slice none 0 0]) ?_ 1 _ rfl; (with_reducible repeat (first | refine blk_drewN ?_ _ | refine blk_drew ?_ | refine blk_alloc ?_ _)); refine blk_put (cs := #[.bool false, .slice none 0 0, .slice none 0 0]) ?_ 0 _ rfl; (with_reducible repeat (first | refine blk_drewN ?_ _ | refine blk_drew ?_ | refine blk_alloc ?_ _)); exact BK103.out) Try.underlying60 rfl (by kernel_rfl)) rfl ?_
 exact ⟨_, _, zE, by (with_reducible repeat (first | apply Kd.R_alloc | apply Kd.R_drewN | apply Kd.R_drew)); exact yf HO114.out BK103.out (fun _ hk => hk.1.1.1), by (with_reducible repeat (first | apply Kd.R_alloc | apply Kd.R_drewN | apply Kd.R_drew)); exact yf HO117.out BK103.out (fun _ hk => hk.1.1.1), zB3 HB.out GE101.out GE102.out GE103.out⟩
end Go.Proofs.Ytifkbghnmhineaa.PAll
